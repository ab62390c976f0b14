/- Texts of the law FnRunSteps, part 4: what it uses. -/
import Derived.Test.YtodiifjigjnalaaRst3
set_option linter.unusedVariables false
set_option linter.unusedSimpArgs false
set_option maxHeartbeats 4000000
set_option maxRecDepth 100000
namespace Go.Proofs.Ytodiifjigjnalaa
open Go.RowKit Go.ChangeShapes
open Go.RowKit
theorem zfs (D : List Md) (k s : Nat) (v : Value) (w : World) (hd : RdsDs w v D) (hc : CtsP D k) (hs : s < (D.getD k md0).ss.length) :
   Calls Try.prog 151 #[.agg #[v], .int .i64 (k : Int), .int .i64 (s : Int)] w (Ans w (.int .i64 ((drvL D (D.getD k md0)).count (s : Int) : Nat))) := by
 have hd9 := sml hd.row
 obtain ⟨hkl, hcnt, hins⟩ := hc
 obtain ⟨hn1, hn2, hn3, hn4⟩ := hcnt.md k hkl
 have hdl := hcnt.len
 refine zbw (N := 124) (args := [.agg #[v], .int .i64 (k : Int), .int .i64 (s : Int)]) Try.func151 rfl rfl (srQ ?_)
 refine zdk rfl (zda rfl rfl) ?_
 intro b1
 refine zaz 1 rfl (zfh (hvQ rfl (zau (cs := [v]) rfl rfl rfl rfl rfl (zaq 0 rfl 0 rfl)) (zah 1 rfl ?_)))
 refine zej rfl (zaw rfl rfl (fun w hm => zbe (by have h9 := l04Counts_ans D k v w (hd.below hm.bel); rw [zdf ⟨hkl, hcnt, hins⟩] at h9; exact h9))) (zah 3 rfl ?_)
 refine zbp rfl rfl rfl rfl rfl rfl (fun h2 => absurd h2 (by omega)) (fun h2 => ?_)
 refine zah 3 rfl (hvQ rfl (fdQ 0 rfl rfl rfl) (hvQ rfl (zac rfl rfl rfl (zaa 0 rfl rfl)) (zah 1 rfl (hvQ rfl (riQ 4 rfl rfl rfl rfl (zae hd.row)) (hvQ rfl (zat (k0 := 0) rfl rfl rfl (zae hd.row) (by omega)) ?_)))))
 refine hvQ rfl (zak (u := (D.getD k md0).sv) rfl rfl rfl (zae hd.row) ((zbg mdC 4 (fun _ => rfl) D md0 (show k < _ by omega) (by decide)).trans rfl)) (hvQ rfl (lnQ rfl rfl rfl (zae ((hd.at (k := k) (by omega)).s))) ?_)
 refine hl_geq rfl rfl rfl rfl rfl rfl (fun h3 => absurd h3 (by omega)) (fun h3 => ?_)
 refine zaz 1 rfl (zas rfl (zcy (srQ (hvQ rfl (fdQ 0 rfl rfl rfl) (hvQ rfl (zac rfl rfl rfl (zaa 0 rfl rfl)) (zah 1 rfl (hvQ rfl (riQ 4 rfl rfl rfl rfl (zae hd.row)) ?_)))))))
 refine hvQ rfl (zbj (us := [(D.getD k md0).sv, (D.getD k md0).av, (D.getD k md0).iv, (D.getD k md0).mv]) rfl rfl rfl rfl (zae hd.row) (by omega) rfl (zby mdC 4 (fun _ => rfl) D md0 (show k < _ by omega) rfl)) (zdk rfl (zbf (z := .agg #[.slice none 0 0, .slice none 0 0, .slice none 0 0, .slice none 0 0]) rfl rfl) ?_)
 intro b4
 refine zbd (cs' := #[(D.getD k md0).sv, (D.getD k md0).av, (D.getD k md0).iv, (D.getD k md0).mv]) (i := 0) (off := 0) (us := [(D.getD k md0).sv, (D.getD k md0).av, (D.getD k md0).iv, (D.getD k md0).mv]) rfl rfl rfl rfl rfl rfl rfl (zab (hd.at (k := k) (by omega)).s.one (zab (hd.at (k := k) (by omega)).g.one (zab (hd.at (k := k) (by omega)).x.one (zab (hd.at (k := k) (by omega)).m.one zbb)))) rfl rfl rfl (ntQ (zbh 1 rfl (zag (zag (reQ 1 rfl (?_))))))
 refine ntQ (zba ?_)
 refine lkQ2 (α := Nat) (β := Int) [0, 1, 2, 3, 6, 7, 33] rfl (fun i c => [boxE b4 #[(D.getD k md0).sv, (D.getD k md0).av, (D.getD k md0).iv, (D.getD k md0).mv] 35, boxE b1 #[v] 26]) (fun i c => [(8, .int .i64 c), (9, .int .i64 (i : Int))]) (fun i c => i ≤ (D.getD k md0).gs.length ∧ c = ((((D.getD k md0).gs.take i).map As.t).count (s : Int) : Int)) (fun i c => (D.getD k md0).gs.length - i) 0 _ ⟨Nat.zero_le _, by simp⟩ (saQ rfl) (pfQ rfl) ?_
 intro i c hi5
 obtain ⟨hi, hcc⟩ := hi5
 have hcl := cntM_le As.t (D.getD k md0).gs (s : Int) i
 refine zag (zag (reQ 1 rfl (hvQ rfl (fdQ 1 rfl rfl rfl) (hvQ rfl (zac rfl rfl rfl (zaa 0 rfl rfl)) (hvQ rfl (lnQ rfl rfl rfl (zae ((hd.at (k := k) (by omega)).g))) ?_)))))
 refine zbp rfl rfl rfl rfl rfl rfl (fun h6 => ?_) (fun h6 => ?_)
 ·
  refine ntQ (zaj rfl (zcy (sbQ (srQ (hvQ rfl (fdQ 1 rfl rfl rfl) (hvQ rfl (zac rfl rfl rfl (zaa 0 rfl rfl)) (zah 1 rfl (hvQ rfl (riQ 2 rfl rfl rfl rfl (zae ((hd.at (k := k) (by omega)).g))) ?_))))))))
  refine hvQ rfl (zat (k0 := 0) rfl rfl rfl (zae ((hd.at (k := k) (by omega)).g)) (by omega)) (hvQ rfl (zak (u := .int .i64 ((((D.getD k md0).gs).getD i as0).t)) rfl rfl rfl (zae ((hd.at (k := k) (by omega)).g)) ((zbg asC 2 (fun _ => rfl) ((D.getD k md0).gs) as0 (show i < _ by omega) (by decide)).trans rfl)) ?_)
  refine zah 1 rfl (zbu rfl rfl rfl rfl rfl rfl (fun h7 => ?_) (fun h7 => ?_))
  ·
   refine ntQ (zaj rfl (reQ 1 rfl (hvQ rfl (vaQ rfl rfl rfl) (enQ 1 rfl (zde (reQ 1 rfl ?_))))))
   refine hvQ rfl (vaQ rfl rfl rfl) (enQ 1 rfl ?_)
   exact zcp (i + 1) (c + 1) ⟨by omega, by rw [cntM_yes as0 (by omega) (by assumption)]; omega⟩ (by omega) (saQ rfl) (pfQ rfl)
  refine ntQ (fsQ rfl (zde (reQ 1 rfl (hvQ rfl (vaQ rfl rfl rfl) (enQ 1 rfl ?_)))))
  exact zcp (i + 1) c ⟨by omega, by rw [cntM_no as0 (by omega) (by assumption)]; omega⟩ (by omega) (saQ rfl) (pfQ rfl)
 refine ntQ (zas rfl ?_)
 refine zbi (zdv ?_)
 refine zal (zar (zag (zbh 1 rfl (zba ?_))))
 refine lkQ2 (α := Nat) (β := Int) [0, 1, 2, 3, 6, 7, 33, 43] rfl (fun i c => [boxE b4 #[(D.getD k md0).sv, (D.getD k md0).av, (D.getD k md0).iv, (D.getD k md0).mv] 35, boxE b1 #[v] 26]) (fun i c => [(8, .int .i64 c), (10, .int .i64 (i : Int))]) (fun i c => i ≤ (D.getD k md0).ms.length ∧ c = (((D.getD k md0).gs.map As.t).count (s : Int) : Int) + ((((D.getD k md0).ms.take i).map Mm.o).count (s : Int) : Int)) (fun i c => (D.getD k md0).ms.length - i) 0 _ ⟨Nat.zero_le _, by rw [hcc, show i = (D.getD k md0).gs.length by omega, List.take_length]; simp⟩ (saQ rfl) (pfQ rfl) ?_
 intro i c hi8
 obtain ⟨hi, hcc⟩ := hi8
 have hcl := cntM_le Mm.o (D.getD k md0).ms (s : Int) i
 have hal := cntM_le As.t (D.getD k md0).gs (s : Int) (D.getD k md0).gs.length
 rw [List.take_length] at hal
 refine zag (zag (reQ 1 rfl (hvQ rfl (fdQ 3 rfl rfl rfl) (hvQ rfl (zac rfl rfl rfl (zaa 0 rfl rfl)) (hvQ rfl (lnQ rfl rfl rfl (zae ((hd.at (k := k) (by omega)).m))) ?_)))))
 refine zbp rfl rfl rfl rfl rfl rfl (fun h9 => ?_) (fun h9 => ?_)
 ·
  refine ntQ (zaj rfl (zcy (sbQ (srQ (hvQ rfl (fdQ 3 rfl rfl rfl) (hvQ rfl (zac rfl rfl rfl (zaa 0 rfl rfl)) (zah 1 rfl (hvQ rfl (riQ 4 rfl rfl rfl rfl (zae ((hd.at (k := k) (by omega)).m))) ?_))))))))
  refine hvQ rfl (zat (k0 := 3) rfl rfl rfl (zae ((hd.at (k := k) (by omega)).m)) (by omega)) (hvQ rfl (zak (u := .int .i64 ((((D.getD k md0).ms).getD i mm0).o)) rfl rfl rfl (zae ((hd.at (k := k) (by omega)).m)) ((zbg mmC 4 (fun _ => rfl) ((D.getD k md0).ms) mm0 (show i < _ by omega) (by decide)).trans rfl)) ?_)
  refine zah 1 rfl (zbu rfl rfl rfl rfl rfl rfl (fun h10 => ?_) (fun h10 => ?_))
  ·
   refine ntQ (zaj rfl (reQ 1 rfl (hvQ rfl (vaQ rfl rfl rfl) (enQ 1 rfl (zde (reQ 1 rfl ?_))))))
   refine hvQ rfl (vaQ rfl rfl rfl) (enQ 1 rfl ?_)
   exact zcp (i + 1) (c + 1) ⟨by omega, by rw [cntM_yes mm0 (by omega) (by assumption)]; omega⟩ (by omega) (saQ rfl) (pfQ rfl)
  refine ntQ (fsQ rfl (zde (reQ 1 rfl (hvQ rfl (vaQ rfl rfl rfl) (enQ 1 rfl ?_)))))
  exact zcp (i + 1) c ⟨by omega, by rw [cntM_no mm0 (by omega) (by assumption)]; omega⟩ (by omega) (saQ rfl) (pfQ rfl)
 refine ntQ (zas rfl ?_)
 refine zbi (zdv ?_)
 refine zal (zar (zag (zbh 1 rfl (zba ?_))))
 refine lkQ2 (α := Nat) (β := Int) [0, 1, 2, 3, 6, 7, 33, 43, 60] rfl (fun i c => [boxE b4 #[(D.getD k md0).sv, (D.getD k md0).av, (D.getD k md0).iv, (D.getD k md0).mv] 35, boxE b1 #[v] 26]) (fun i c => [(8, .int .i64 c), (11, .int .i64 (i : Int))]) (fun i c => i ≤ (D.getD k md0).xs.length ∧ c = (((D.getD k md0).gs.map As.t).count (s : Int) : Int) + (((D.getD k md0).ms.map Mm.o).count (s : Int) : Int) + ((((D.getD k md0).xs.take i).flatMap (xoK D)).count (s : Int) : Int)) (fun i c => (D.getD k md0).xs.length - i) 0 _ ⟨Nat.zero_le _, by rw [hcc, show i = (D.getD k md0).ms.length by omega, List.take_length]; simp⟩ (saQ rfl) (pfQ rfl) ?_
 intro i c hi11
 obtain ⟨hi, hcc⟩ := hi11
 have hcl := cntX_le (D := D) (L := (D.getD k md0).xs) (s : Int) i hi
 have hal := cntM_le As.t (D.getD k md0).gs (s : Int) (D.getD k md0).gs.length
 rw [List.take_length] at hal
 have hml := cntM_le Mm.o (D.getD k md0).ms (s : Int) (D.getD k md0).ms.length
 rw [List.take_length] at hml
 refine zag (zag (reQ 1 rfl (hvQ rfl (fdQ 2 rfl rfl rfl) (hvQ rfl (zac rfl rfl rfl (zaa 0 rfl rfl)) (hvQ rfl (lnQ rfl rfl rfl (zae ((hd.at (k := k) (by omega)).x))) ?_)))))
 refine zbp rfl rfl rfl rfl rfl rfl (fun h12 => ?_) (fun h12 => ?_)
 ·
  refine ntQ (zaj rfl (zcy (sbQ (zag ?_))))
  obtain ⟨⟨hm0, hm1⟩, hpe⟩ := hins i (by omega)
  refine zfw rfl 11 [0, 1, 2, 3, 4, 5, 6, 7, 8, 9, 10] (List.take 11 _) (List.drop 11 _) [[], [0], [], [2], [], [3, 4], [5], [6], [1, 7], [8], []] [80, 81, 82, 83, 84, 85, 86, 87, 88, 89, 12] (fun i_ vs_ v_ p_ => match i_ with | 0 => v_ = .pointer (some ⟨b1, 0 + 0, none⟩) ∧ p_ = [] | 1 => v_ = v ∧ p_ = [] | 2 => v_ = .pointer (some ⟨b4, 0 + 2, none⟩) ∧ p_ = [] | 3 => v_ = (D.getD k md0).iv ∧ p_ = [] | 4 => v_ = .int .i64 (i : Int) ∧ p_ = [] | 5 => v_ = elP ((D.getD k md0).iv) (((i : Int)).toNat * 3) ∧ p_ = [] | 6 => v_ = elP ((D.getD k md0).iv) (((i : Int)).toNat * 3 + 0) ∧ p_ = [] | 7 => v_ = .int .i64 ((((D.getD k md0).xs).getD i ix0).m) ∧ p_ = [] | 8 => v_ = elP v (((((D.getD k md0).xs).getD i ix0).m).toNat * 4) ∧ p_ = [] | 9 => v_ = .agg #[(D.getD (((((D.getD k md0).xs).getD i ix0).m).toNat) md0).sv, (D.getD (((((D.getD k md0).xs).getD i ix0).m).toNat) md0).av, (D.getD (((((D.getD k md0).xs).getD i ix0).m).toNat) md0).iv, (D.getD (((((D.getD k md0).xs).getD i ix0).m).toNat) md0).mv] ∧ p_ = [] | 10 => IsBox #[.slice none 0 0, .slice none 0 0, .slice none 0 0, .slice none 0 0] 35 v_ p_ | _ => True) (List.take_append_drop 11 _).symm (by kernel_rfl) (by kernel_rfl) rfl rfl ?_ ?_
  ·
   refine ⟨?_, ?_, ?_, ?_, ?_, ?_, ?_, ?_, ?_, ?_, ?_, trivial⟩
   ·
    intro vf pf hR
    exact ovQ rfl (zav [3] rfl) (zbz (fdQ 0 rfl rfl rfl))
   ·
    intro vf pf hR
    have e0 := hR 0 (by decide)
    exact olQ rfl (sk 80 (congrArg some e0.1) (zam _)) (zbz (zac rfl rfl rfl (zaa 1 rfl rfl)))
   ·
    intro vf pf hR
    exact ovQ rfl (zav [7] rfl) (zbz (fdQ 2 rfl rfl rfl))
   ·
    intro vf pf hR
    have e2 := hR 2 (by decide)
    exact olQ rfl (sk 82 (congrArg some e2.1) (zam _)) (zbz (zac rfl rfl rfl (zaa 0 rfl rfl)))
   ·
    intro vf pf hR
    exact ovQ rfl (zav [11] rfl) (zbz (zax rfl))
   ·
    intro vf pf hR
    have e3 := hR 3 (by decide)
    have e4 := hR 4 (by decide)
    exact olQ rfl (sk 83 (congrArg some e3.1) (sk 84 (congrArg some e4.1) (zam _))) (zbz (riQ 3 rfl rfl rfl rfl (zae ((hd.at (k := k) (by omega)).x))))
   ·
    intro vf pf hR
    have e5 := hR 5 (by decide)
    exact olQ rfl (sk 85 (congrArg some e5.1) (zam _)) (zbz (zat (k0 := 0) rfl rfl rfl (zae ((hd.at (k := k) (by omega)).x)) (by omega)))
   ·
    intro vf pf hR
    have e6 := hR 6 (by decide)
    exact olQ rfl (sk 86 (congrArg some e6.1) (zam _)) (zbz (zak (u := .int .i64 ((((D.getD k md0).xs).getD i ix0).m)) rfl rfl rfl (zae ((hd.at (k := k) (by omega)).x)) ((zbg ixC 3 (fun _ => rfl) ((D.getD k md0).xs) ix0 (show i < _ by omega) (by decide)).trans rfl)))
   ·
    intro vf pf hR
    have e1 := hR 1 (by decide)
    have e7 := hR 7 (by decide)
    exact olQ rfl (sk 81 (congrArg some e1.1) (sk 87 (congrArg some e7.1) (zam _))) (zbz (riQ 4 rfl rfl rfl rfl (zae hd.row)))
   ·
    intro vf pf hR
    have e8 := hR 8 (by decide)
    exact olQ rfl (sk 88 (congrArg some e8.1) (zam _)) (zbz (zbj (us := [(D.getD (((((D.getD k md0).xs).getD i ix0).m).toNat) md0).sv, (D.getD (((((D.getD k md0).xs).getD i ix0).m).toNat) md0).av, (D.getD (((((D.getD k md0).xs).getD i ix0).m).toNat) md0).iv, (D.getD (((((D.getD k md0).xs).getD i ix0).m).toNat) md0).mv]) rfl rfl rfl rfl (zae hd.row) (by omega) rfl (zby mdC 4 (fun _ => rfl) D md0 (show ((((D.getD k md0).xs).getD i ix0).m).toNat < _ by omega) rfl)))
   intro vf pf hR
   exact olQ rfl (zam _) (zbf (z := .agg #[.slice none 0 0, .slice none 0 0, .slice none 0 0, .slice none 0 0]) rfl rfl)
  intro vf pf hR
  have e9 := hR 9 (by decide)
  have e10 : IsBox #[.slice none 0 0, .slice none 0 0, .slice none 0 0, .slice none 0 0] 35 (vf 10) (pf 10) := hR 10 (by decide)
  obtain ⟨b13, vE10, pE10⟩ := e10
  have q0 := hR 0 (by decide)
  have q1 := hR 1 (by decide)
  have q2 := hR 2 (by decide)
  have q3 := hR 3 (by decide)
  have q4 := hR 4 (by decide)
  have q5 := hR 5 (by decide)
  have q6 := hR 6 (by decide)
  have q7 := hR 7 (by decide)
  have q8 := hR 8 (by decide)
  have q9 := hR 9 (by decide)
  refine zdj (zcu [11, 8, 7, 6, 3, 2, 1, 0] _ (sk 12 (congrArg some vE10) (zcu [77, 60, 43, 33] _ (sk 89 (congrArg some e9.1) (zam _)) rfl)) rfl) (by simp only [pE10, vE10, q0.2, q1.2, q2.2, q3.2, q4.2, q5.2, q6.2, q7.2, q8.2, q9.2, fS] <;> rfl) ?_
  simp only [List.drop_succ_cons, List.drop_zero]
  refine zbd (cs' := #[(D.getD (((((D.getD k md0).xs).getD i ix0).m).toNat) md0).sv, (D.getD (((((D.getD k md0).xs).getD i ix0).m).toNat) md0).av, (D.getD (((((D.getD k md0).xs).getD i ix0).m).toNat) md0).iv, (D.getD (((((D.getD k md0).xs).getD i ix0).m).toNat) md0).mv]) (i := 0) (off := 0) (us := [(D.getD (((((D.getD k md0).xs).getD i ix0).m).toNat) md0).sv, (D.getD (((((D.getD k md0).xs).getD i ix0).m).toNat) md0).av, (D.getD (((((D.getD k md0).xs).getD i ix0).m).toNat) md0).iv, (D.getD (((((D.getD k md0).xs).getD i ix0).m).toNat) md0).mv]) rfl rfl rfl rfl rfl rfl rfl (zab (hd.at (k := ((((D.getD k md0).xs).getD i ix0).m).toNat) (by omega)).s.one (zab (hd.at (k := ((((D.getD k md0).xs).getD i ix0).m).toNat) (by omega)).g.one (zab (hd.at (k := ((((D.getD k md0).xs).getD i ix0).m).toNat) (by omega)).x.one (zab (hd.at (k := ((((D.getD k md0).xs).getD i ix0).m).toNat) (by omega)).m.one zbb)))) rfl rfl rfl ?_
  refine ntQ (srQ (hvQ rfl (zau (cs := [(D.getD (((((D.getD k md0).xs).getD i ix0).m).toNat) md0).sv, (D.getD (((((D.getD k md0).xs).getD i ix0).m).toNat) md0).av, (D.getD (((((D.getD k md0).xs).getD i ix0).m).toNat) md0).iv, (D.getD (((((D.getD k md0).xs).getD i ix0).m).toNat) md0).mv]) rfl rfl rfl rfl rfl (zaq 0 rfl 0 rfl)) ?_))
  refine zfq rfl rfl rfl (zaw rfl rfl (fun w hm => zeg (D.getD (((((D.getD k md0).xs).getD i ix0).m).toNat) md0) w ((hd.at (by omega)).below hm.bel))) ?_
  intro v14 p15 hR16
  subst hR16
  refine zaz 1 rfl (zbh 1 rfl (zba ?_))
  refine lkQ2 (α := Nat) (β := Int) [0, 1, 2, 3, 6, 7, 11, 12, 13, 33, 43, 60, 77] rfl (fun j y => [rowE 3 1 v14 ((ptsK (D.getD (((((D.getD k md0).xs).getD i ix0).m).toNat) md0)).length) ((ptsK (D.getD (((((D.getD k md0).xs).getD i ix0).m).toNat) md0)).map (Value.int .i64)), boxE b13 #[(D.getD (((((D.getD k md0).xs).getD i ix0).m).toNat) md0).sv, (D.getD (((((D.getD k md0).xs).getD i ix0).m).toNat) md0).av, (D.getD (((((D.getD k md0).xs).getD i ix0).m).toNat) md0).iv, (D.getD (((((D.getD k md0).xs).getD i ix0).m).toNat) md0).mv] 35, boxE b4 #[(D.getD k md0).sv, (D.getD k md0).av, (D.getD k md0).iv, (D.getD k md0).mv] 35, boxE b1 #[v] 26]) (fun j y => [(8, .int .i64 y), (14, .int .i64 (j : Int))]) (fun j y => j ≤ (ptsK (D.getD (((((D.getD k md0).xs).getD i ix0).m).toNat) md0)).length ∧ y = c + ((xoA D ((D.getD k md0).xs.getD i ix0) j).count (s : Int) : Int)) (fun j y => (ptsK (D.getD (((((D.getD k md0).xs).getD i ix0).m).toNat) md0)).length - j) 0 c ⟨Nat.zero_le _, by simp [xoA]⟩ (saQ rfl) (pfQ rfl) ?_
  intro j y hi17
  obtain ⟨hj, hcj⟩ := hi17
  have hpl := ptsK_le (D.getD (((((D.getD k md0).xs).getD i ix0).m).toNat) md0)
  have hxl9 := List.count_le_length (a := (s : Int)) (l := xoA D ((D.getD k md0).xs.getD i ix0) j)
  have hxl8 := xoA_le D ((D.getD k md0).xs.getD i ix0) j
  refine zag (zag (reQ 2 rfl (hvQ rfl (lnQ rfl rfl rfl (zai 0 rfl)) ?_)))
  refine zbp rfl rfl rfl rfl rfl rfl (fun h18 => ?_) (fun h18 => ?_)
  ·
   refine ntQ (zaj rfl (zcy (sbQ (zag ?_))))
   have hpt := zdy (m := (D.getD (((((D.getD k md0).xs).getD i ix0).m).toNat) md0)) (j := j) (by omega)
   have hkd := zcx hpt
   rcases Bool.eq_false_or_eq_true (((((D.getD (((((D.getD k md0).xs).getD i ix0).m).toNat) md0).ss).getD (((ptsK (D.getD (((((D.getD k md0).xs).getD i ix0).m).toNat) md0)).getD j 0).toNat) sg0).k) == 1) with hb19 | hb19
   ·
    have hb19p : (((D.getD (((((D.getD k md0).xs).getD i ix0).m).toNat) md0).ss).getD (((ptsK (D.getD (((((D.getD k md0).xs).getD i ix0).m).toNat) md0)).getD j 0).toNat) sg0).k = 1 := beq_iff_eq.1 hb19
    have hpt := zdy (m := (D.getD (((((D.getD k md0).xs).getD i ix0).m).toNat) md0)) (j := j) (by omega)
    have hkd := zcx hpt
    rcases Bool.eq_false_or_eq_true ((((((D.getD k md0).xs).getD i ix0).ps).getD j 0) == (s : Int)) with hb20 | hb20
    ·
     have hb20p : ((((D.getD k md0).xs).getD i ix0).ps).getD j 0 = (s : Int) := beq_iff_eq.1 hb20
     have hpt := zdy (m := (D.getD (((((D.getD k md0).xs).getD i ix0).m).toNat) md0)) (j := j) (by omega)
     have hkd := zcx hpt
     refine zbv 23 [[], [0], [], [], [2, 3], [4], [1, 5], [6], [7], [8], [9], [10], [10, 11], [10], [10, 12, 13], [10, 14], [10, 15], [10], [10, 16, 17], [10, 18], [10], [10, 19, 20], [10, 21]] [98, 99, 100, 101, 102, 103, 104, 105, 106, 107, 108, 109, 110, 111, 112, 113, 114, 115, 116, 117, 118, 119, 120] [.pointer (some ⟨b13, 0 + 0, none⟩), (D.getD (((((D.getD k md0).xs).getD i ix0).m).toNat) md0).sv, v14, .int .i64 (j : Int), elP v14 (((j : Int)).toNat * 1), .int .i64 ((ptsK (D.getD (((((D.getD k md0).xs).getD i ix0).m).toNat) md0)).getD j 0), elP ((D.getD (((((D.getD k md0).xs).getD i ix0).m).toNat) md0).sv) (((ptsK (D.getD (((((D.getD k md0).xs).getD i ix0).m).toNat) md0)).getD j 0).toNat * 3), elP ((D.getD (((((D.getD k md0).xs).getD i ix0).m).toNat) md0).sv) (((ptsK (D.getD (((((D.getD k md0).xs).getD i ix0).m).toNat) md0)).getD j 0).toNat * 3 + 0), .int .i64 ((((D.getD (((((D.getD k md0).xs).getD i ix0).m).toNat) md0).ss).getD (((ptsK (D.getD (((((D.getD k md0).xs).getD i ix0).m).toNat) md0)).getD j 0).toNat) sg0).k), .bool true, .bool true, .pointer (some ⟨b4, 0 + 2, none⟩), (D.getD k md0).iv, .int .i64 (i : Int), elP ((D.getD k md0).iv) (((i : Int)).toNat * 3), elP ((D.getD k md0).iv) (((i : Int)).toNat * 3 + 2), (((D.getD k md0).xs).getD i ix0).pv, .int .i64 (j : Int), elP ((((D.getD k md0).xs).getD i ix0).pv) (((j : Int)).toNat * 1), .int .i64 (((((D.getD k md0).xs).getD i ix0).ps).getD j 0), .int .i64 (s : Int), .bool true, .bool true] (by kernel_rfl) rfl ?_ ?_
     ·
      exact ⟨iaQ rfl (fdQ 0 rfl rfl rfl) rfl, iaQ rfl (zac rfl rfl rfl (zaa 1 rfl rfl)) rfl, iaQ rfl (zax rfl) rfl, iaQ rfl (zax rfl) rfl, iaQ rfl (riQ 1 rfl rfl rfl rfl (zai 0 rfl)) rfl, iaQ rfl (zak (u := .int .i64 ((ptsK (D.getD (((((D.getD k md0).xs).getD i ix0).m).toNat) md0)).getD j 0)) rfl rfl rfl (zai 0 rfl) (zca (show _ < (ptsK (D.getD (((((D.getD k md0).xs).getD i ix0).m).toNat) md0)).length by omega))) rfl, iaQ rfl (riQ 3 rfl rfl rfl rfl (zae ((hd.at (k := ((((D.getD k md0).xs).getD i ix0).m).toNat) (by omega)).s))) rfl, iaQ rfl (zat (k0 := 0) rfl rfl rfl (zae ((hd.at (k := ((((D.getD k md0).xs).getD i ix0).m).toNat) (by omega)).s)) (by omega)) rfl, iaQ rfl (zak (u := .int .i64 ((((D.getD (((((D.getD k md0).xs).getD i ix0).m).toNat) md0).ss).getD (((ptsK (D.getD (((((D.getD k md0).xs).getD i ix0).m).toNat) md0)).getD j 0).toNat) sg0).k)) rfl rfl rfl (zae ((hd.at (k := ((((D.getD k md0).xs).getD i ix0).m).toNat) (by omega)).s)) ((zbg sgC 3 (fun _ => rfl) ((D.getD (((((D.getD k md0).xs).getD i ix0).m).toNat) md0).ss) sg0 (show ((ptsK (D.getD (((((D.getD k md0).xs).getD i ix0).m).toNat) md0)).getD j 0).toNat < _ by omega) (by decide)).trans rfl)) rfl, .inl ⟨rfl, zdp (zck rfl rfl rfl rfl) hb19⟩, iaQ rfl (zax rfl) rfl, iaQ rfl (fdQ 2 rfl rfl rfl) rfl, iaQ rfl (zac rfl rfl rfl (zaa 2 rfl rfl)) rfl, iaQ rfl (zax rfl) rfl, iaQ rfl (riQ 3 rfl rfl rfl rfl (zae ((hd.at (k := k) (by omega)).x))) rfl, iaQ rfl (zat (k0 := 2) rfl rfl rfl (zae ((hd.at (k := k) (by omega)).x)) (by omega)) rfl, iaQ rfl (zak (u := (((D.getD k md0).xs).getD i ix0).pv) rfl rfl rfl (zae ((hd.at (k := k) (by omega)).x)) ((zbg ixC 3 (fun _ => rfl) ((D.getD k md0).xs) ix0 (show i < _ by omega) (by decide)).trans rfl)) rfl, iaQ rfl (zax rfl) rfl, iaQ rfl (riQ 1 rfl rfl rfl rfl (zae ((hd.at (k := k) (by omega)).p.at (k := i) (by omega)))) rfl, iaQ rfl (zak (u := .int .i64 (((((D.getD k md0).xs).getD i ix0).ps).getD j 0)) rfl rfl rfl (zae ((hd.at (k := k) (by omega)).p.at (k := i) (by omega))) (zca (show _ < ((((D.getD k md0).xs).getD i ix0).ps).length by omega))) rfl, iaQ rfl (zax rfl) rfl, .inl ⟨rfl, zdp (zck rfl rfl rfl rfl) hb20⟩, iaQ rfl (zax rfl) rfl, trivial⟩
     simp only [List.drop_succ_cons, List.drop_zero]
     refine ntQ (zaj rfl (reQ 1 rfl (hvQ rfl (vaQ rfl rfl rfl) (enQ 1 rfl (zde (reQ 1 rfl ?_))))))
     refine hvQ rfl (vaQ rfl rfl rfl) (enQ 1 rfl ?_)
     exact zcp (j + 1) (y + 1) ⟨by omega, by rw [xoA_yes (by omega), cnt_yes (by assumption)]; omega⟩ (by omega) (saQ rfl) (pfQ rfl)
    have hb20p : ((((D.getD k md0).xs).getD i ix0).ps).getD j 0 ≠ (s : Int) := beq_eq_false_iff_ne.1 hb20
    have hpt := zdy (m := (D.getD (((((D.getD k md0).xs).getD i ix0).m).toNat) md0)) (j := j) (by omega)
    have hkd := zcx hpt
    refine zbv 23 [[], [0], [], [], [2, 3], [4], [1, 5], [6], [7], [8], [9], [10], [10, 11], [10], [10, 12, 13], [10, 14], [10, 15], [10], [10, 16, 17], [10, 18], [10], [10, 19, 20], [10, 21]] [98, 99, 100, 101, 102, 103, 104, 105, 106, 107, 108, 109, 110, 111, 112, 113, 114, 115, 116, 117, 118, 119, 120] [.pointer (some ⟨b13, 0 + 0, none⟩), (D.getD (((((D.getD k md0).xs).getD i ix0).m).toNat) md0).sv, v14, .int .i64 (j : Int), elP v14 (((j : Int)).toNat * 1), .int .i64 ((ptsK (D.getD (((((D.getD k md0).xs).getD i ix0).m).toNat) md0)).getD j 0), elP ((D.getD (((((D.getD k md0).xs).getD i ix0).m).toNat) md0).sv) (((ptsK (D.getD (((((D.getD k md0).xs).getD i ix0).m).toNat) md0)).getD j 0).toNat * 3), elP ((D.getD (((((D.getD k md0).xs).getD i ix0).m).toNat) md0).sv) (((ptsK (D.getD (((((D.getD k md0).xs).getD i ix0).m).toNat) md0)).getD j 0).toNat * 3 + 0), .int .i64 ((((D.getD (((((D.getD k md0).xs).getD i ix0).m).toNat) md0).ss).getD (((ptsK (D.getD (((((D.getD k md0).xs).getD i ix0).m).toNat) md0)).getD j 0).toNat) sg0).k), .bool true, .bool true, .pointer (some ⟨b4, 0 + 2, none⟩), (D.getD k md0).iv, .int .i64 (i : Int), elP ((D.getD k md0).iv) (((i : Int)).toNat * 3), elP ((D.getD k md0).iv) (((i : Int)).toNat * 3 + 2), (((D.getD k md0).xs).getD i ix0).pv, .int .i64 (j : Int), elP ((((D.getD k md0).xs).getD i ix0).pv) (((j : Int)).toNat * 1), .int .i64 (((((D.getD k md0).xs).getD i ix0).ps).getD j 0), .int .i64 (s : Int), .bool false, .bool false] (by kernel_rfl) rfl ?_ ?_
    ·
     exact ⟨iaQ rfl (fdQ 0 rfl rfl rfl) rfl, iaQ rfl (zac rfl rfl rfl (zaa 1 rfl rfl)) rfl, iaQ rfl (zax rfl) rfl, iaQ rfl (zax rfl) rfl, iaQ rfl (riQ 1 rfl rfl rfl rfl (zai 0 rfl)) rfl, iaQ rfl (zak (u := .int .i64 ((ptsK (D.getD (((((D.getD k md0).xs).getD i ix0).m).toNat) md0)).getD j 0)) rfl rfl rfl (zai 0 rfl) (zca (show _ < (ptsK (D.getD (((((D.getD k md0).xs).getD i ix0).m).toNat) md0)).length by omega))) rfl, iaQ rfl (riQ 3 rfl rfl rfl rfl (zae ((hd.at (k := ((((D.getD k md0).xs).getD i ix0).m).toNat) (by omega)).s))) rfl, iaQ rfl (zat (k0 := 0) rfl rfl rfl (zae ((hd.at (k := ((((D.getD k md0).xs).getD i ix0).m).toNat) (by omega)).s)) (by omega)) rfl, iaQ rfl (zak (u := .int .i64 ((((D.getD (((((D.getD k md0).xs).getD i ix0).m).toNat) md0).ss).getD (((ptsK (D.getD (((((D.getD k md0).xs).getD i ix0).m).toNat) md0)).getD j 0).toNat) sg0).k)) rfl rfl rfl (zae ((hd.at (k := ((((D.getD k md0).xs).getD i ix0).m).toNat) (by omega)).s)) ((zbg sgC 3 (fun _ => rfl) ((D.getD (((((D.getD k md0).xs).getD i ix0).m).toNat) md0).ss) sg0 (show ((ptsK (D.getD (((((D.getD k md0).xs).getD i ix0).m).toNat) md0)).getD j 0).toNat < _ by omega) (by decide)).trans rfl)) rfl, .inl ⟨rfl, zdp (zck rfl rfl rfl rfl) hb19⟩, iaQ rfl (zax rfl) rfl, iaQ rfl (fdQ 2 rfl rfl rfl) rfl, iaQ rfl (zac rfl rfl rfl (zaa 2 rfl rfl)) rfl, iaQ rfl (zax rfl) rfl, iaQ rfl (riQ 3 rfl rfl rfl rfl (zae ((hd.at (k := k) (by omega)).x))) rfl, iaQ rfl (zat (k0 := 2) rfl rfl rfl (zae ((hd.at (k := k) (by omega)).x)) (by omega)) rfl, iaQ rfl (zak (u := (((D.getD k md0).xs).getD i ix0).pv) rfl rfl rfl (zae ((hd.at (k := k) (by omega)).x)) ((zbg ixC 3 (fun _ => rfl) ((D.getD k md0).xs) ix0 (show i < _ by omega) (by decide)).trans rfl)) rfl, iaQ rfl (zax rfl) rfl, iaQ rfl (riQ 1 rfl rfl rfl rfl (zae ((hd.at (k := k) (by omega)).p.at (k := i) (by omega)))) rfl, iaQ rfl (zak (u := .int .i64 (((((D.getD k md0).xs).getD i ix0).ps).getD j 0)) rfl rfl rfl (zae ((hd.at (k := k) (by omega)).p.at (k := i) (by omega))) (zca (show _ < ((((D.getD k md0).xs).getD i ix0).ps).length by omega))) rfl, iaQ rfl (zax rfl) rfl, .inl ⟨rfl, zdp (zck rfl rfl rfl rfl) hb20⟩, iaQ rfl (zax rfl) rfl, trivial⟩
    simp only [List.drop_succ_cons, List.drop_zero]
    refine ntQ (fsQ rfl (zde (reQ 1 rfl (hvQ rfl (vaQ rfl rfl rfl) (enQ 1 rfl ?_)))))
    exact zcp (j + 1) y ⟨by omega, by first | (rw [xoA_yes (by omega), cnt_no (by assumption)]; omega) | (rw [xoA_no (by omega)]; omega)⟩ (by omega) (saQ rfl) (pfQ rfl)
   have hb19p : (((D.getD (((((D.getD k md0).xs).getD i ix0).m).toNat) md0).ss).getD (((ptsK (D.getD (((((D.getD k md0).xs).getD i ix0).m).toNat) md0)).getD j 0).toNat) sg0).k ≠ 1 := beq_eq_false_iff_ne.1 hb19
   have hpt := zdy (m := (D.getD (((((D.getD k md0).xs).getD i ix0).m).toNat) md0)) (j := j) (by omega)
   have hkd := zcx hpt
   refine zbv 23 [[], [0], [], [], [2, 3], [4], [1, 5], [6], [7], [8], [9], [10], [10], [10], [10], [10], [10], [10], [10], [10], [10], [10], [10, 21]] [98, 99, 100, 101, 102, 103, 104, 105, 106, 107, 108, 109, 110, 111, 112, 113, 114, 115, 116, 117, 118, 119, 120] [.pointer (some ⟨b13, 0 + 0, none⟩), (D.getD (((((D.getD k md0).xs).getD i ix0).m).toNat) md0).sv, v14, .int .i64 (j : Int), elP v14 (((j : Int)).toNat * 1), .int .i64 ((ptsK (D.getD (((((D.getD k md0).xs).getD i ix0).m).toNat) md0)).getD j 0), elP ((D.getD (((((D.getD k md0).xs).getD i ix0).m).toNat) md0).sv) (((ptsK (D.getD (((((D.getD k md0).xs).getD i ix0).m).toNat) md0)).getD j 0).toNat * 3), elP ((D.getD (((((D.getD k md0).xs).getD i ix0).m).toNat) md0).sv) (((ptsK (D.getD (((((D.getD k md0).xs).getD i ix0).m).toNat) md0)).getD j 0).toNat * 3 + 0), .int .i64 ((((D.getD (((((D.getD k md0).xs).getD i ix0).m).toNat) md0).ss).getD (((ptsK (D.getD (((((D.getD k md0).xs).getD i ix0).m).toNat) md0)).getD j 0).toNat) sg0).k), .bool false, .bool false, undef, undef, undef, undef, undef, undef, undef, undef, undef, undef, undef, .bool false] (by kernel_rfl) rfl ?_ ?_
   ·
    exact ⟨iaQ rfl (fdQ 0 rfl rfl rfl) rfl, iaQ rfl (zac rfl rfl rfl (zaa 1 rfl rfl)) rfl, iaQ rfl (zax rfl) rfl, iaQ rfl (zax rfl) rfl, iaQ rfl (riQ 1 rfl rfl rfl rfl (zai 0 rfl)) rfl, iaQ rfl (zak (u := .int .i64 ((ptsK (D.getD (((((D.getD k md0).xs).getD i ix0).m).toNat) md0)).getD j 0)) rfl rfl rfl (zai 0 rfl) (zca (show _ < (ptsK (D.getD (((((D.getD k md0).xs).getD i ix0).m).toNat) md0)).length by omega))) rfl, iaQ rfl (riQ 3 rfl rfl rfl rfl (zae ((hd.at (k := ((((D.getD k md0).xs).getD i ix0).m).toNat) (by omega)).s))) rfl, iaQ rfl (zat (k0 := 0) rfl rfl rfl (zae ((hd.at (k := ((((D.getD k md0).xs).getD i ix0).m).toNat) (by omega)).s)) (by omega)) rfl, iaQ rfl (zak (u := .int .i64 ((((D.getD (((((D.getD k md0).xs).getD i ix0).m).toNat) md0).ss).getD (((ptsK (D.getD (((((D.getD k md0).xs).getD i ix0).m).toNat) md0)).getD j 0).toNat) sg0).k)) rfl rfl rfl (zae ((hd.at (k := ((((D.getD k md0).xs).getD i ix0).m).toNat) (by omega)).s)) ((zbg sgC 3 (fun _ => rfl) ((D.getD (((((D.getD k md0).xs).getD i ix0).m).toNat) md0).ss) sg0 (show ((ptsK (D.getD (((((D.getD k md0).xs).getD i ix0).m).toNat) md0)).getD j 0).toNat < _ by omega) (by decide)).trans rfl)) rfl, .inl ⟨rfl, zdp (zck rfl rfl rfl rfl) hb19⟩, iaQ rfl (zax rfl) rfl, .inr ⟨rfl, rfl⟩, .inr ⟨rfl, rfl⟩, .inr ⟨rfl, rfl⟩, .inr ⟨rfl, rfl⟩, .inr ⟨rfl, rfl⟩, .inr ⟨rfl, rfl⟩, .inr ⟨rfl, rfl⟩, .inr ⟨rfl, rfl⟩, .inr ⟨rfl, rfl⟩, .inr ⟨rfl, rfl⟩, .inr ⟨rfl, rfl⟩, iaQ rfl (zax rfl) rfl, trivial⟩
   simp only [List.drop_succ_cons, List.drop_zero]
   refine ntQ (fsQ rfl (zde (reQ 1 rfl (hvQ rfl (vaQ rfl rfl rfl) (enQ 1 rfl ?_)))))
   exact zcp (j + 1) y ⟨by omega, by first | (rw [xoA_yes (by omega), cnt_no (by assumption)]; omega) | (rw [xoA_no (by omega)]; omega)⟩ (by omega) (saQ rfl) (pfQ rfl)
  refine ntQ (zas rfl ?_)
  refine zbi (zdv ?_)
  refine zal (zde (reQ 1 rfl (hvQ rfl (vaQ rfl rfl rfl) (enQ 1 rfl ?_))))
  exact zcp (i + 1) y ⟨by omega, by rw [take_flatX (xoK D) ix0 (by omega), List.count_append]; show _ = _ + _ + (((_ : Nat) + (xoA D ((D.getD k md0).xs.getD i ix0) (ptsK (D.getD (((((D.getD k md0).xs).getD i ix0).m).toNat) md0)).length).count (s : Int) : Nat) : Int); rw [show j = (ptsK (D.getD (((((D.getD k md0).xs).getD i ix0).m).toNat) md0)).length by omega] at hcj; omega⟩ (by omega) (saQ rfl) (slQ [2, 0] rfl)
 refine ntQ (zas rfl ?_)
 refine zbi (zdv ?_)
 refine zal (zar (zbh 2 rfl ?_))
 exact zap (zay rfl rfl (congrArg _ (by unfold drvL; rw [List.count_append, List.count_append, hcc, show i = (D.getD k md0).xs.length by omega, List.take_length]; omega)))
theorem zel (m : Md) (s : Int) (w : World) (hr : RdsMd w m) :
   Calls Try.prog 153 #[.agg #[m.sv, m.av, m.iv, m.mv], .int .i64 s] w (Ans w (.int .i64 (knd m s))) := by
 have hs9 := sml hr.s
 refine zbw (N := 20) (args := [.agg #[m.sv, m.av, m.iv, m.mv], .int .i64 s]) Try.func153 rfl rfl (srQ ?_)
 refine zdk rfl (zda rfl rfl) ?_
 intro b1
 refine zaz 1 rfl (zag (zag (reQ 1 rfl ?_)))
 refine zbp rfl rfl rfl rfl rfl rfl (fun h2 => ?_) (fun h2 => ?_)
 ·
  refine zaz 7 rfl (zaj rfl (zag (reQ 1 rfl (?_))))
  refine ntQ ?_
  refine zap (zaf ?_)
  exact zay rfl rfl (congrArg _ ((zeh (by omega)).symm))
 refine zah 2 rfl (hvQ rfl (fdQ 0 rfl rfl rfl) (hvQ rfl (zac rfl rfl rfl (zaa 0 rfl rfl)) (hvQ rfl (lnQ rfl rfl rfl (zae ((hr).s))) ?_)))
 refine hl_geq rfl rfl rfl rfl rfl rfl (fun h3 => ?_) (fun h3 => ?_)
 ·
  refine zaz 1 rfl (zaj rfl (zbh 1 rfl ?_))
  refine zap (zaf ?_)
  exact zay rfl rfl (congrArg _ ((zeh (by omega)).symm))
 refine zaz 1 rfl (zas rfl (zcy (srQ (hvQ rfl (fdQ 0 rfl rfl rfl) (hvQ rfl (zac rfl rfl rfl (zaa 0 rfl rfl)) (zah 1 rfl (hvQ rfl (riQ 3 rfl rfl rfl rfl (zae ((hr).s))) (hvQ rfl (zat (k0 := 0) rfl rfl rfl (zae ((hr).s)) (by omega)) ?_))))))))
 refine hvQ rfl (zak (u := .int .i64 ((m.ss.getD ((s).toNat) sg0).k)) rfl rfl rfl (zae ((hr).s)) ((zbg sgC 3 (fun _ => rfl) m.ss sg0 (show (s).toNat < _ by omega) (by decide)).trans rfl)) (zaz 1 rfl ?_)
 exact zap (zay rfl rfl (congrArg _ ((zcx ⟨by omega, by omega⟩).symm)))
theorem zfp (m : Md) (s : Int) (w : World) (hr : RdsMd w m) :
   Calls Try.prog 152 #[.agg #[m.sv, m.av, m.iv, m.mv], .int .i64 s] w (Ans w (.bool (pB (Drv m s)))) := by
 have hs9 := sml hr.s
 refine zbw (N := 15) (args := [.agg #[m.sv, m.av, m.iv, m.mv], .int .i64 s]) Try.func152 rfl rfl (srQ ?_)
 refine zdk rfl (zda rfl rfl) ?_
 intro b1
 refine zaz 1 rfl (srQ (hvQ rfl (zau (cs := [m.sv, m.av, m.iv, m.mv]) rfl rfl rfl rfl rfl (zaq 0 rfl 0 rfl)) (zah 1 rfl ?_)))
 refine zej rfl (zaw rfl rfl (fun w hm => zbe (zel m s w (hr.below hm.bel)))) (zaz 1 rfl (zag (reQ 1 rfl ?_)))
 refine zbu rfl rfl rfl rfl rfl rfl (fun h2 => ?_) (fun h2 => ?_)
 ·
  refine zaz 5 rfl ?_
  exact zap (zay rfl rfl (congrArg _ (zdf (by first | exact .inl (by omega) | exact .inr (by omega))).symm))
 refine zah 2 rfl (zbu rfl rfl rfl rfl rfl rfl (fun h3 => ?_) (fun h3 => ?_))
 ·
  refine zaz 2 rfl ?_
  exact zap (zay rfl rfl (congrArg _ (zdf (by first | exact .inl (by omega) | exact .inr (by omega))).symm))
 refine zaz 2 rfl ?_
 exact zap (zay rfl rfl (congrArg _ (zcb (fun hp => by first | (rcases hp with hp | hp <;> omega))).symm))
theorem specModuleOk_ans (D : List Md) (k : Nat) (v : Value) (w : World) (hd : RdsDs w v D) (hk : k < D.length) :
   Calls Try.prog 109 #[.agg #[v], .int .i64 (k : Int)] w (Ans w (.bool (pB (ModP D k)))) := by
 have hd9 := sml hd.row
 refine zbw (N := 205) (args := [.agg #[v], .int .i64 (k : Int)]) Try.func109 rfl rfl (srQ ?_)
 refine zdk rfl (zda rfl rfl) ?_
 intro b1
 refine zaz 1 rfl (zfh (hvQ rfl (zau (cs := [v]) rfl rfl rfl rfl rfl (zaq 0 rfl 0 rfl)) (zah 1 rfl ?_)))
 refine zej rfl (zaw rfl rfl (fun w hm => zbe (l04Counts_ans D k v w (hd.below hm.bel)))) (zbq (fun h2 => ?_) (fun h2 => ?_))
 ·
  have h2p := zfc h2
  refine zaz 1 rfl (zas rfl (zcy (srQ (hvQ rfl (fdQ 0 rfl rfl rfl) (hvQ rfl (zac rfl rfl rfl (zaa 0 rfl rfl)) (zah 1 rfl (hvQ rfl (riQ 4 rfl rfl rfl rfl (zae hd.row)) ?_)))))))
  refine hvQ rfl (zbj (us := [(D.getD k md0).sv, (D.getD k md0).av, (D.getD k md0).iv, (D.getD k md0).mv]) rfl rfl rfl rfl (zae hd.row) (by omega) rfl (zby mdC 4 (fun _ => rfl) D md0 (show k < _ by omega) rfl)) (zdk rfl (zbf (z := .agg #[.slice none 0 0, .slice none 0 0, .slice none 0 0, .slice none 0 0]) rfl rfl) ?_)
  intro b3
  refine zbd (cs' := #[(D.getD k md0).sv, (D.getD k md0).av, (D.getD k md0).iv, (D.getD k md0).mv]) (i := 0) (off := 0) (us := [(D.getD k md0).sv, (D.getD k md0).av, (D.getD k md0).iv, (D.getD k md0).mv]) rfl rfl rfl rfl rfl rfl rfl (zab (hd.at (k := k) (by omega)).s.one (zab (hd.at (k := k) (by omega)).g.one (zab (hd.at (k := k) (by omega)).x.one (zab (hd.at (k := k) (by omega)).m.one zbb)))) rfl rfl rfl (ntQ (zag (zbh 1 rfl (zba ?_))))
  refine lkQ1 (α := Nat) [0, 1, 2, 4, 5, 20] rfl (fun i => [boxE b3 #[(D.getD k md0).sv, (D.getD k md0).av, (D.getD k md0).iv, (D.getD k md0).mv] 35, boxE b1 #[v] 26]) (fun i => [(6, .int .i64 (i : Int))]) (fun i => i ≤ (D.getD k md0).ss.length ∧ (∀ q, q < i → SgP ((D.getD k md0).ss.getD q sg0)) ∧ (∀ q, q < i → ((D.getD k md0).ss.getD q sg0).k ≠ 0 → (drvL D (D.getD k md0)).count (q : Int) = 1)) (fun i => (D.getD k md0).ss.length - i) 0 ⟨Nat.zero_le _, fun q hq => absurd hq (by omega), fun q hq => absurd hq (by omega)⟩ (saQ rfl) (pfQ rfl) ?_
  intro i hi4
  obtain ⟨hi, hsg, hdr⟩ := hi4
  have hcts : CtsP D k := by assumption
  obtain ⟨hkl, hcnt, hins⟩ := (show CtsP D k by assumption)
  obtain ⟨hn1, hn2, hn3, hn4⟩ := hcnt.md k hkl
  refine zag (zag (reQ 1 rfl (hvQ rfl (fdQ 0 rfl rfl rfl) (hvQ rfl (zac rfl rfl rfl (zaa 0 rfl rfl)) (hvQ rfl (lnQ rfl rfl rfl (zae ((hd.at (k := k) (by omega)).s))) ?_)))))
  refine zbp rfl rfl rfl rfl rfl rfl (fun h5 => ?_) (fun h5 => ?_)
  ·
   refine ntQ (zaj rfl (zcy (sbQ (srQ (hvQ rfl (fdQ 0 rfl rfl rfl) (hvQ rfl (zac rfl rfl rfl (zaa 0 rfl rfl)) (zah 1 rfl (hvQ rfl (riQ 3 rfl rfl rfl rfl (zae ((hd.at (k := k) (by omega)).s))) ?_))))))))
   refine hvQ rfl (zbj (us := [.int .i64 ((((D.getD k md0).ss).getD i sg0).k), .int .i64 ((((D.getD k md0).ss).getD i sg0).w), .int .i64 ((((D.getD k md0).ss).getD i sg0).i)]) rfl rfl rfl rfl (zae ((hd.at (k := k) (by omega)).s)) (by omega) rfl (zby sgC 3 (fun _ => rfl) ((D.getD k md0).ss) sg0 (show i < _ by omega) rfl)) (zdk rfl (zbf (z := .agg #[.int .i64 0, .int .i64 0, .int .i64 0]) rfl rfl) ?_)
   intro b6
   refine zbd (cs' := #[.int .i64 ((((D.getD k md0).ss).getD i sg0).k), .int .i64 ((((D.getD k md0).ss).getD i sg0).w), .int .i64 ((((D.getD k md0).ss).getD i sg0).i)]) (i := 0) (off := 0) (us := [.int .i64 ((((D.getD k md0).ss).getD i sg0).k), .int .i64 ((((D.getD k md0).ss).getD i sg0).w), .int .i64 ((((D.getD k md0).ss).getD i sg0).i)]) rfl rfl rfl rfl rfl rfl rfl (zab rfl (zab rfl (zab rfl zbb))) rfl rfl rfl (ntQ (zfh (hvQ rfl (fdQ 0 rfl rfl rfl) (hvQ rfl (zac rfl rfl rfl (zaa 0 rfl rfl)) ?_))))
   refine zej rfl (zaw rfl rfl (fun w hm => zbe (zgl ((((D.getD k md0).ss).getD i sg0).k) 0 3 w))) (zbq (fun h7 => ?_) (fun h7 => ?_))
   ·
    obtain ⟨h7a, h7b⟩ := (zdd _ _ _).1 h7
    refine zah 2 rfl (hvQ rfl (fdQ 1 rfl rfl rfl) (hvQ rfl (zac rfl rfl rfl (zaa 0 rfl rfl)) ?_))
    refine zej rfl (zaw rfl rfl (fun w hm => zbe (zgl ((((D.getD k md0).ss).getD i sg0).w) 0 4 w))) (zbq (fun h8 => ?_) (fun h8 => ?_))
    ·
     obtain ⟨h8a, h8b⟩ := (zdd _ _ _).1 h8
     refine zah 3 rfl (hvQ rfl (fdQ 2 rfl rfl rfl) (hvQ rfl (zac rfl rfl rfl (zaa 0 rfl rfl)) ?_))
     refine zej rfl (zaw rfl rfl (fun w hm => zbe (zgl ((((D.getD k md0).ss).getD i sg0).i) 0 15 w))) (zbq (fun h9 => ?_) (fun h9 => ?_))
     ·
      obtain ⟨h9a, h9b⟩ := (zdd _ _ _).1 h9
      refine zah 3 rfl (hvQ rfl (fdQ 2 rfl rfl rfl) (hvQ rfl (zac rfl rfl rfl (zaa 0 rfl rfl)) ?_))
      refine zff rfl rfl rfl rfl rfl rfl (fun h10 => ?_) (fun h10 => ?_)
      ·
       refine zah 1 rfl (hvQ rfl (fdQ 0 rfl rfl rfl) (hvQ rfl (zac rfl rfl rfl (zaa 0 rfl rfl)) ?_))
       refine zff rfl rfl rfl rfl rfl rfl (fun h11 => ?_) (fun h11 => ?_)
       ·
        refine zaz 2 rfl (zaj rfl (zbh 1 rfl ?_))
        refine zap (zaf ?_)
        refine zad (zdw ?_)
        refine zad (zaf ?_)
        exact zay rfl rfl (congrArg _ (zcb (fun hp => by first | (exact absurd (show CtsP D k from ⟨hp.lt, hp.cnt, hp.ins⟩) (by assumption)) | (have h9 := hp.sg i (by omega); obtain ⟨⟨h1, h2⟩, ⟨h3, h4⟩, ⟨h5, h6⟩, h7⟩ := h9; omega) | (have h9 := hp.dr i (by omega) (by omega); omega) | (exact absurd (hp.gs i (by omega)).2 (by assumption)) | (have h9 := (hp.gs i (by omega)).1; have h8 : ¬ Drv (D.getD k md0) ((D.getD k md0).gs.getD i as0).t := (by assumption); exact h8 (by first | exact .inl (by omega) | exact .inr (by omega))) | (have h9 := (hp.gs i (by omega)).1; have h8 : ¬ Drv (D.getD k md0) ((D.getD k md0).gs.getD i as0).t := (by assumption); unfold Drv at h8; omega) | (have h9 := (hp.xs i (by omega)).1; omega) | (have h9 := ((hp.xs i (by omega)).2 j (by omega)).1; have h8 := (zbs hsgA).2 h9; omega) | (have h9 := ((hp.xs i (by omega)).2 j (by omega)).2 (by omega); exact absurd h9 (by assumption)) | (obtain ⟨⟨h1, h2, h3⟩, h4⟩ := hp.ms i (by omega); have g1 := (zbs hsgA).2 h1; have g2 := (zbs hsgA).2 h2; have g3 := (zbs hsgA).2 h3; first | omega | exact absurd h4 (by assumption)))).symm)
       refine zaz 2 rfl (zas rfl (zcy (srQ (hvQ rfl (fdQ 0 rfl rfl rfl) (hvQ rfl (zac rfl rfl rfl (zaa 0 rfl rfl)) ?_)))))
       refine zff rfl rfl rfl rfl rfl rfl (fun h12 => ?_) (fun h12 => ?_)
       ·
        refine zah 1 rfl (hvQ rfl (zau (cs := [v]) rfl rfl rfl rfl rfl (zaq 2 rfl 0 rfl)) (zah 2 rfl ?_))
        refine zej rfl (zaw rfl rfl (fun w hm => zbe (zfs D k i v w (hd.below hm.bel) hcts (by omega)))) (zff rfl rfl rfl rfl rfl rfl (fun h13 => ?_) (fun h13 => ?_))
        ·
         refine zaz 1 rfl (zaj rfl (zbh 1 rfl ?_))
         refine zap (zad ?_)
         refine zdw ?_
         refine zad (zaf ?_)
         exact zay rfl rfl (congrArg _ (zcb (fun hp => by first | (exact absurd (show CtsP D k from ⟨hp.lt, hp.cnt, hp.ins⟩) (by assumption)) | (have h9 := hp.sg i (by omega); obtain ⟨⟨h1, h2⟩, ⟨h3, h4⟩, ⟨h5, h6⟩, h7⟩ := h9; omega) | (have h9 := hp.dr i (by omega) (by omega); omega) | (exact absurd (hp.gs i (by omega)).2 (by assumption)) | (have h9 := (hp.gs i (by omega)).1; have h8 : ¬ Drv (D.getD k md0) ((D.getD k md0).gs.getD i as0).t := (by assumption); exact h8 (by first | exact .inl (by omega) | exact .inr (by omega))) | (have h9 := (hp.gs i (by omega)).1; have h8 : ¬ Drv (D.getD k md0) ((D.getD k md0).gs.getD i as0).t := (by assumption); unfold Drv at h8; omega) | (have h9 := (hp.xs i (by omega)).1; omega) | (have h9 := ((hp.xs i (by omega)).2 j (by omega)).1; have h8 := (zbs hsgA).2 h9; omega) | (have h9 := ((hp.xs i (by omega)).2 j (by omega)).2 (by omega); exact absurd h9 (by assumption)) | (obtain ⟨⟨h1, h2, h3⟩, h4⟩ := hp.ms i (by omega); have g1 := (zbs hsgA).2 h1; have g2 := (zbs hsgA).2 h2; have g3 := (zbs hsgA).2 h3; first | omega | exact absurd h4 (by assumption)))).symm)
        refine zaz 1 rfl (fsQ rfl (zde (reQ 1 rfl (hvQ rfl (vaQ rfl rfl rfl) (enQ 1 rfl ?_)))))
        exact zbt (i + 1) ⟨by omega, ⟨fun q hq => by by_cases e : q = i; (subst e; exact ⟨⟨by omega, by omega⟩, ⟨by omega, by omega⟩, ⟨by omega, by omega⟩, by omega⟩); exact hsg q (by omega), fun q hq => by by_cases e : q = i; (subst e; omega); exact hdr q (by omega)⟩⟩ (by omega) (saQ rfl) (slQ [1, 0] rfl)
       refine zaz 7 rfl (fsQ rfl (zde (zao ?_)))
       refine zah 1 rfl (hvQ rfl (vaQ rfl rfl rfl) (enQ 1 rfl ?_))
       exact zbt (i + 1) ⟨by omega, ⟨fun q hq => by by_cases e : q = i; (subst e; exact ⟨⟨by omega, by omega⟩, ⟨by omega, by omega⟩, ⟨by omega, by omega⟩, by omega⟩); exact hsg q (by omega), fun q hq => by by_cases e : q = i; (subst e; omega); exact hdr q (by omega)⟩⟩ (by omega) (saQ rfl) (slQ [1, 0] rfl)
      refine zaz 6 rfl (zas rfl (zcy (srQ (hvQ rfl (fdQ 0 rfl rfl rfl) ?_))))
      refine hvQ rfl (zac rfl rfl rfl (zaa 0 rfl rfl)) (zff rfl rfl rfl rfl rfl rfl (fun h14 => ?_) (fun h14 => ?_))
      ·
       refine zah 1 rfl (hvQ rfl (zau (cs := [v]) rfl rfl rfl rfl rfl (zaq 2 rfl 0 rfl)) (zah 2 rfl ?_))
       refine zej rfl (zaw rfl rfl (fun w hm => zbe (zfs D k i v w (hd.below hm.bel) hcts (by omega)))) (zff rfl rfl rfl rfl rfl rfl (fun h15 => ?_) (fun h15 => ?_))
       ·
        refine zaz 1 rfl (zaj rfl (zbh 1 rfl ?_))
        refine zap (zad ?_)
        refine zdw ?_
        refine zad (zaf ?_)
        exact zay rfl rfl (congrArg _ (zcb (fun hp => by first | (exact absurd (show CtsP D k from ⟨hp.lt, hp.cnt, hp.ins⟩) (by assumption)) | (have h9 := hp.sg i (by omega); obtain ⟨⟨h1, h2⟩, ⟨h3, h4⟩, ⟨h5, h6⟩, h7⟩ := h9; omega) | (have h9 := hp.dr i (by omega) (by omega); omega) | (exact absurd (hp.gs i (by omega)).2 (by assumption)) | (have h9 := (hp.gs i (by omega)).1; have h8 : ¬ Drv (D.getD k md0) ((D.getD k md0).gs.getD i as0).t := (by assumption); exact h8 (by first | exact .inl (by omega) | exact .inr (by omega))) | (have h9 := (hp.gs i (by omega)).1; have h8 : ¬ Drv (D.getD k md0) ((D.getD k md0).gs.getD i as0).t := (by assumption); unfold Drv at h8; omega) | (have h9 := (hp.xs i (by omega)).1; omega) | (have h9 := ((hp.xs i (by omega)).2 j (by omega)).1; have h8 := (zbs hsgA).2 h9; omega) | (have h9 := ((hp.xs i (by omega)).2 j (by omega)).2 (by omega); exact absurd h9 (by assumption)) | (obtain ⟨⟨h1, h2, h3⟩, h4⟩ := hp.ms i (by omega); have g1 := (zbs hsgA).2 h1; have g2 := (zbs hsgA).2 h2; have g3 := (zbs hsgA).2 h3; first | omega | exact absurd h4 (by assumption)))).symm)
       refine zaz 1 rfl (fsQ rfl (zde (reQ 1 rfl (hvQ rfl (vaQ rfl rfl rfl) (enQ 1 rfl ?_)))))
       exact zbt (i + 1) ⟨by omega, ⟨fun q hq => by by_cases e : q = i; (subst e; exact ⟨⟨by omega, by omega⟩, ⟨by omega, by omega⟩, ⟨by omega, by omega⟩, by omega⟩); exact hsg q (by omega), fun q hq => by by_cases e : q = i; (subst e; omega); exact hdr q (by omega)⟩⟩ (by omega) (saQ rfl) (slQ [1, 0] rfl)
      refine zaz 7 rfl (fsQ rfl (zde (zao ?_)))
      refine zah 1 rfl (hvQ rfl (vaQ rfl rfl rfl) (enQ 1 rfl ?_))
      exact zbt (i + 1) ⟨by omega, ⟨fun q hq => by by_cases e : q = i; (subst e; exact ⟨⟨by omega, by omega⟩, ⟨by omega, by omega⟩, ⟨by omega, by omega⟩, by omega⟩); exact hsg q (by omega), fun q hq => by by_cases e : q = i; (subst e; omega); exact hdr q (by omega)⟩⟩ (by omega) (saQ rfl) (slQ [1, 0] rfl)
     have h9a := zcz h9
     refine zaz 12 rfl (zaj rfl (zag ?_))
     refine zao (zaz 1 rfl ?_)
     refine zap (zaf ?_)
     refine zad (zdw ?_)
     refine zad (zaf ?_)
     exact zay rfl rfl (congrArg _ (zcb (fun hp => by first | (exact absurd (show CtsP D k from ⟨hp.lt, hp.cnt, hp.ins⟩) (by assumption)) | (have h9 := hp.sg i (by omega); obtain ⟨⟨h1, h2⟩, ⟨h3, h4⟩, ⟨h5, h6⟩, h7⟩ := h9; omega) | (have h9 := hp.dr i (by omega) (by omega); omega) | (exact absurd (hp.gs i (by omega)).2 (by assumption)) | (have h9 := (hp.gs i (by omega)).1; have h8 : ¬ Drv (D.getD k md0) ((D.getD k md0).gs.getD i as0).t := (by assumption); exact h8 (by first | exact .inl (by omega) | exact .inr (by omega))) | (have h9 := (hp.gs i (by omega)).1; have h8 : ¬ Drv (D.getD k md0) ((D.getD k md0).gs.getD i as0).t := (by assumption); unfold Drv at h8; omega) | (have h9 := (hp.xs i (by omega)).1; omega) | (have h9 := ((hp.xs i (by omega)).2 j (by omega)).1; have h8 := (zbs hsgA).2 h9; omega) | (have h9 := ((hp.xs i (by omega)).2 j (by omega)).2 (by omega); exact absurd h9 (by assumption)) | (obtain ⟨⟨h1, h2, h3⟩, h4⟩ := hp.ms i (by omega); have g1 := (zbs hsgA).2 h1; have g2 := (zbs hsgA).2 h2; have g3 := (zbs hsgA).2 h3; first | omega | exact absurd h4 (by assumption)))).symm)
    have h8a := zcz h8
    refine zah 18 rfl (?_)
    refine ntQ (zaj rfl (zbh 1 rfl ?_))
    refine zap (zaf ?_)
    refine zad (zdw ?_)
    refine zad (zaf ?_)
    exact zay rfl rfl (congrArg _ (zcb (fun hp => by first | (exact absurd (show CtsP D k from ⟨hp.lt, hp.cnt, hp.ins⟩) (by assumption)) | (have h9 := hp.sg i (by omega); obtain ⟨⟨h1, h2⟩, ⟨h3, h4⟩, ⟨h5, h6⟩, h7⟩ := h9; omega) | (have h9 := hp.dr i (by omega) (by omega); omega) | (exact absurd (hp.gs i (by omega)).2 (by assumption)) | (have h9 := (hp.gs i (by omega)).1; have h8 : ¬ Drv (D.getD k md0) ((D.getD k md0).gs.getD i as0).t := (by assumption); exact h8 (by first | exact .inl (by omega) | exact .inr (by omega))) | (have h9 := (hp.gs i (by omega)).1; have h8 : ¬ Drv (D.getD k md0) ((D.getD k md0).gs.getD i as0).t := (by assumption); unfold Drv at h8; omega) | (have h9 := (hp.xs i (by omega)).1; omega) | (have h9 := ((hp.xs i (by omega)).2 j (by omega)).1; have h8 := (zbs hsgA).2 h9; omega) | (have h9 := ((hp.xs i (by omega)).2 j (by omega)).2 (by omega); exact absurd h9 (by assumption)) | (obtain ⟨⟨h1, h2, h3⟩, h4⟩ := hp.ms i (by omega); have g1 := (zbs hsgA).2 h1; have g2 := (zbs hsgA).2 h2; have g3 := (zbs hsgA).2 h3; first | omega | exact absurd h4 (by assumption)))).symm)
   have h7a := zcz h7
   refine zaz 23 rfl (zaj rfl (zbh 1 rfl ?_))
   refine zap (zaf ?_)
   refine zad (zdw ?_)
   refine zad (zaf ?_)
   exact zay rfl rfl (congrArg _ (zcb (fun hp => by first | (exact absurd (show CtsP D k from ⟨hp.lt, hp.cnt, hp.ins⟩) (by assumption)) | (have h9 := hp.sg i (by omega); obtain ⟨⟨h1, h2⟩, ⟨h3, h4⟩, ⟨h5, h6⟩, h7⟩ := h9; omega) | (have h9 := hp.dr i (by omega) (by omega); omega) | (exact absurd (hp.gs i (by omega)).2 (by assumption)) | (have h9 := (hp.gs i (by omega)).1; have h8 : ¬ Drv (D.getD k md0) ((D.getD k md0).gs.getD i as0).t := (by assumption); exact h8 (by first | exact .inl (by omega) | exact .inr (by omega))) | (have h9 := (hp.gs i (by omega)).1; have h8 : ¬ Drv (D.getD k md0) ((D.getD k md0).gs.getD i as0).t := (by assumption); unfold Drv at h8; omega) | (have h9 := (hp.xs i (by omega)).1; omega) | (have h9 := ((hp.xs i (by omega)).2 j (by omega)).1; have h8 := (zbs hsgA).2 h9; omega) | (have h9 := ((hp.xs i (by omega)).2 j (by omega)).2 (by omega); exact absurd h9 (by assumption)) | (obtain ⟨⟨h1, h2, h3⟩, h4⟩ := hp.ms i (by omega); have g1 := (zbs hsgA).2 h1; have g2 := (zbs hsgA).2 h2; have g3 := (zbs hsgA).2 h3; first | omega | exact absurd h4 (by assumption)))).symm)
  refine ntQ (zas rfl ?_)
  refine zbi (zdv ?_)
  refine zal (zar (zag (zbh 1 rfl (zba ?_))))
  refine lkQ1 (α := Nat) [0, 1, 2, 4, 5, 20, 30] rfl (fun i => [boxE b3 #[(D.getD k md0).sv, (D.getD k md0).av, (D.getD k md0).iv, (D.getD k md0).mv] 35, boxE b1 #[v] 26]) (fun i => [(8, .int .i64 (i : Int))]) (fun i => i ≤ (D.getD k md0).gs.length ∧ ∀ q, q < i → AsP (D.getD k md0) ((D.getD k md0).gs.getD q as0)) (fun i => (D.getD k md0).gs.length - i) 0 ⟨Nat.zero_le _, fun q hq => absurd hq (by omega)⟩ (saQ rfl) (pfQ rfl) ?_
  intro i hi16
  obtain ⟨hi, hgs⟩ := hi16
  have hsgA : ∀ q, q < (D.getD k md0).ss.length → SgP ((D.getD k md0).ss.getD q sg0) := fun q hq => hsg q (by omega)
  refine zag (zag (reQ 1 rfl (hvQ rfl (fdQ 1 rfl rfl rfl) (hvQ rfl (zac rfl rfl rfl (zaa 0 rfl rfl)) (hvQ rfl (lnQ rfl rfl rfl (zae ((hd.at (k := k) (by omega)).g))) ?_)))))
  refine zbp rfl rfl rfl rfl rfl rfl (fun h17 => ?_) (fun h17 => ?_)
  ·
   refine ntQ (zaj rfl (zcy (sbQ (srQ (hvQ rfl (fdQ 1 rfl rfl rfl) (hvQ rfl (zac rfl rfl rfl (zaa 0 rfl rfl)) (zah 1 rfl (hvQ rfl (riQ 2 rfl rfl rfl rfl (zae ((hd.at (k := k) (by omega)).g))) ?_))))))))
   refine hvQ rfl (zbj (us := [.int .i64 ((((D.getD k md0).gs).getD i as0).t), (((D.getD k md0).gs).getD i as0).ov]) rfl rfl rfl rfl (zae ((hd.at (k := k) (by omega)).g)) (by omega) rfl (zby asC 2 (fun _ => rfl) ((D.getD k md0).gs) as0 (show i < _ by omega) rfl)) (zdk rfl (zbf (z := .agg #[.int .i64 0, .slice none 0 0]) rfl rfl) ?_)
   intro b18
   refine zbd (cs' := #[.int .i64 ((((D.getD k md0).gs).getD i as0).t), (((D.getD k md0).gs).getD i as0).ov]) (i := 0) (off := 0) (us := [.int .i64 ((((D.getD k md0).gs).getD i as0).t), (((D.getD k md0).gs).getD i as0).ov]) rfl rfl rfl rfl rfl rfl rfl (zab rfl (zab ((hd.at (k := k) (by omega)).o.at (k := i) (by omega)).one zbb)) rfl rfl rfl (ntQ (srQ (hvQ rfl (zau (cs := [(D.getD k md0).sv, (D.getD k md0).av, (D.getD k md0).iv, (D.getD k md0).mv]) rfl rfl rfl rfl rfl (zaq 1 rfl 0 rfl)) (hvQ rfl (fdQ 0 rfl rfl rfl) (hvQ rfl (zac rfl rfl rfl (zaa 0 rfl rfl)) ?_)))))
   refine zej rfl (zaw rfl rfl (fun w hm => zbe (zfp (D.getD k md0) ((((D.getD k md0).gs).getD i as0).t) w ((hd.at (k := k) (by omega)).below hm.bel)))) (zbq (fun h19 => ?_) (fun h19 => ?_))
   ·
    have h19p := zfc h19
    refine zah 9 rfl (hvQ rfl (fdQ 1 rfl rfl rfl) (hvQ rfl (zac rfl rfl rfl (zaa 0 rfl rfl)) (hvQ rfl (fdQ 0 rfl rfl rfl) (hvQ rfl (zac rfl rfl rfl (zaa 1 rfl rfl)) (hvQ rfl (lnQ rfl rfl rfl (zae ((hd.at (k := k) (by omega)).s))) ?_)))))
    refine zej rfl (zaw rfl rfl (fun w hm => zbe (specOpsOk_ans ((D.getD k md0).gs.getD i as0).os (((D.getD k md0).ss).length : Int) _ w (((hd.at (k := k) (by omega)).below hm.bel).o.at (by omega))))) (zbq (fun h20 => ?_) (fun h20 => ?_))
    ·
     have h20p := zfc h20
     refine zaz 2 rfl (fsQ rfl (zde (reQ 1 rfl (hvQ rfl (vaQ rfl rfl rfl) (enQ 1 rfl ?_)))))
     exact zbt (i + 1) ⟨by omega, fun q hq => by by_cases e : q = i; (subst e; exact ⟨by first | exact ⟨by omega, by omega⟩ | (rename_i hdv9; rcases (show Drv _ _ by assumption) with h9 | h9 <;> exact ⟨by omega, by omega⟩), by assumption⟩); exact hgs q (by omega)⟩ (by omega) (saQ rfl) (slQ [1, 0] rfl)
    have h20p := zea h20
    refine zaz 2 rfl (zaj rfl (zbh 1 rfl ?_))
    refine zap (zad ?_)
    refine zdw ?_
    refine zad (zaf ?_)
    exact zay rfl rfl (congrArg _ (zcb (fun hp => by first | (exact absurd (show CtsP D k from ⟨hp.lt, hp.cnt, hp.ins⟩) (by assumption)) | (have h9 := hp.sg i (by omega); obtain ⟨⟨h1, h2⟩, ⟨h3, h4⟩, ⟨h5, h6⟩, h7⟩ := h9; omega) | (have h9 := hp.dr i (by omega) (by omega); omega) | (exact absurd (hp.gs i (by omega)).2 (by assumption)) | (have h9 := (hp.gs i (by omega)).1; have h8 : ¬ Drv (D.getD k md0) ((D.getD k md0).gs.getD i as0).t := (by assumption); exact h8 (by first | exact .inl (by omega) | exact .inr (by omega))) | (have h9 := (hp.gs i (by omega)).1; have h8 : ¬ Drv (D.getD k md0) ((D.getD k md0).gs.getD i as0).t := (by assumption); unfold Drv at h8; omega) | (have h9 := (hp.xs i (by omega)).1; omega) | (have h9 := ((hp.xs i (by omega)).2 j (by omega)).1; have h8 := (zbs hsgA).2 h9; omega) | (have h9 := ((hp.xs i (by omega)).2 j (by omega)).2 (by omega); exact absurd h9 (by assumption)) | (obtain ⟨⟨h1, h2, h3⟩, h4⟩ := hp.ms i (by omega); have g1 := (zbs hsgA).2 h1; have g2 := (zbs hsgA).2 h2; have g3 := (zbs hsgA).2 h3; first | omega | exact absurd h4 (by assumption)))).symm)
   have h19p := zea h19
   refine zah 2 rfl (hvQ rfl (zau (cs := [(D.getD k md0).sv, (D.getD k md0).av, (D.getD k md0).iv, (D.getD k md0).mv]) rfl rfl rfl rfl rfl (zaq 1 rfl 0 rfl)) (hvQ rfl (fdQ 0 rfl rfl rfl) (hvQ rfl (zac rfl rfl rfl (zaa 0 rfl rfl)) ?_)))
   refine zej rfl (zaw rfl rfl (fun w hm => zbe (zel (D.getD k md0) ((((D.getD k md0).gs).getD i as0).t) w ((hd.at (k := k) (by omega)).below hm.bel)))) (zff rfl rfl rfl rfl rfl rfl (fun h21 => ?_) (fun h21 => ?_))
   ·
    refine zaz 10 rfl (zaj rfl (srQ ?_))
    refine zaz 1 rfl ?_
    refine zap (zad ?_)
    refine zdw ?_
    refine zad (zaf ?_)
    exact zay rfl rfl (congrArg _ (zcb (fun hp => by first | (exact absurd (show CtsP D k from ⟨hp.lt, hp.cnt, hp.ins⟩) (by assumption)) | (have h9 := hp.sg i (by omega); obtain ⟨⟨h1, h2⟩, ⟨h3, h4⟩, ⟨h5, h6⟩, h7⟩ := h9; omega) | (have h9 := hp.dr i (by omega) (by omega); omega) | (exact absurd (hp.gs i (by omega)).2 (by assumption)) | (have h9 := (hp.gs i (by omega)).1; have h8 : ¬ Drv (D.getD k md0) ((D.getD k md0).gs.getD i as0).t := (by assumption); exact h8 (by first | exact .inl (by omega) | exact .inr (by omega))) | (have h9 := (hp.gs i (by omega)).1; have h8 : ¬ Drv (D.getD k md0) ((D.getD k md0).gs.getD i as0).t := (by assumption); unfold Drv at h8; omega) | (have h9 := (hp.xs i (by omega)).1; omega) | (have h9 := ((hp.xs i (by omega)).2 j (by omega)).1; have h8 := (zbs hsgA).2 h9; omega) | (have h9 := ((hp.xs i (by omega)).2 j (by omega)).2 (by omega); exact absurd h9 (by assumption)) | (obtain ⟨⟨h1, h2, h3⟩, h4⟩ := hp.ms i (by omega); have g1 := (zbs hsgA).2 h1; have g2 := (zbs hsgA).2 h2; have g3 := (zbs hsgA).2 h3; first | omega | exact absurd h4 (by assumption)))).symm)
   refine zah 2 rfl (hvQ rfl (fdQ 1 rfl rfl rfl) (hvQ rfl (zac rfl rfl rfl (zaa 0 rfl rfl)) (hvQ rfl (fdQ 0 rfl rfl rfl) (hvQ rfl (zac rfl rfl rfl (zaa 1 rfl rfl)) (hvQ rfl (lnQ rfl rfl rfl (zae ((hd.at (k := k) (by omega)).s))) ?_)))))
   refine zej rfl (zaw rfl rfl (fun w hm => zbe (specOpsOk_ans ((D.getD k md0).gs.getD i as0).os (((D.getD k md0).ss).length : Int) _ w (((hd.at (k := k) (by omega)).below hm.bel).o.at (by omega))))) (zbq (fun h22 => ?_) (fun h22 => ?_))
   ·
    have h22p := zfc h22
    refine zaz 2 rfl (fsQ rfl (zde (reQ 1 rfl (hvQ rfl (vaQ rfl rfl rfl) (enQ 1 rfl ?_)))))
    exact zbt (i + 1) ⟨by omega, fun q hq => by by_cases e : q = i; (subst e; exact ⟨by first | exact ⟨by omega, by omega⟩ | (rename_i hdv9; rcases (show Drv _ _ by assumption) with h9 | h9 <;> exact ⟨by omega, by omega⟩), by assumption⟩); exact hgs q (by omega)⟩ (by omega) (saQ rfl) (slQ [1, 0] rfl)
   have h22p := zea h22
   refine zaz 2 rfl (zaj rfl (zbh 1 rfl ?_))
   refine zap (zad ?_)
   refine zdw ?_
   refine zad (zaf ?_)
   exact zay rfl rfl (congrArg _ (zcb (fun hp => by first | (exact absurd (show CtsP D k from ⟨hp.lt, hp.cnt, hp.ins⟩) (by assumption)) | (have h9 := hp.sg i (by omega); obtain ⟨⟨h1, h2⟩, ⟨h3, h4⟩, ⟨h5, h6⟩, h7⟩ := h9; omega) | (have h9 := hp.dr i (by omega) (by omega); omega) | (exact absurd (hp.gs i (by omega)).2 (by assumption)) | (have h9 := (hp.gs i (by omega)).1; have h8 : ¬ Drv (D.getD k md0) ((D.getD k md0).gs.getD i as0).t := (by assumption); exact h8 (by first | exact .inl (by omega) | exact .inr (by omega))) | (have h9 := (hp.gs i (by omega)).1; have h8 : ¬ Drv (D.getD k md0) ((D.getD k md0).gs.getD i as0).t := (by assumption); unfold Drv at h8; omega) | (have h9 := (hp.xs i (by omega)).1; omega) | (have h9 := ((hp.xs i (by omega)).2 j (by omega)).1; have h8 := (zbs hsgA).2 h9; omega) | (have h9 := ((hp.xs i (by omega)).2 j (by omega)).2 (by omega); exact absurd h9 (by assumption)) | (obtain ⟨⟨h1, h2, h3⟩, h4⟩ := hp.ms i (by omega); have g1 := (zbs hsgA).2 h1; have g2 := (zbs hsgA).2 h2; have g3 := (zbs hsgA).2 h3; first | omega | exact absurd h4 (by assumption)))).symm)
  refine ntQ (zas rfl ?_)
  refine zbi (zdv ?_)
  refine zal (zar (zag (zbh 1 rfl (zba ?_))))
  refine lkQ1 (α := Nat) [0, 1, 2, 4, 5, 20, 30, 78] rfl (fun i => [boxE b3 #[(D.getD k md0).sv, (D.getD k md0).av, (D.getD k md0).iv, (D.getD k md0).mv] 35, boxE b1 #[v] 26]) (fun i => [(10, .int .i64 (i : Int))]) (fun i => i ≤ (D.getD k md0).xs.length ∧ ∀ q, q < i → IxP D (D.getD k md0) ((D.getD k md0).xs.getD q ix0)) (fun i => (D.getD k md0).xs.length - i) 0 ⟨Nat.zero_le _, fun q hq => absurd hq (by omega)⟩ (saQ rfl) (pfQ rfl) ?_
  intro i hi23
  obtain ⟨hi, hxs⟩ := hi23
  refine zag (zag (reQ 1 rfl (hvQ rfl (fdQ 2 rfl rfl rfl) (hvQ rfl (zac rfl rfl rfl (zaa 0 rfl rfl)) (hvQ rfl (lnQ rfl rfl rfl (zae ((hd.at (k := k) (by omega)).x))) ?_)))))
  refine zbp rfl rfl rfl rfl rfl rfl (fun h24 => ?_) (fun h24 => ?_)
  ·
   refine ntQ (zaj rfl (zcy (sbQ (srQ (hvQ rfl (fdQ 2 rfl rfl rfl) (hvQ rfl (zac rfl rfl rfl (zaa 0 rfl rfl)) (zah 1 rfl (hvQ rfl (riQ 3 rfl rfl rfl rfl (zae ((hd.at (k := k) (by omega)).x))) ?_))))))))
   refine hvQ rfl (zbj (us := [.int .i64 ((((D.getD k md0).xs).getD i ix0).m), .int .i64 ((((D.getD k md0).xs).getD i ix0).p), (((D.getD k md0).xs).getD i ix0).pv]) rfl rfl rfl rfl (zae ((hd.at (k := k) (by omega)).x)) (by omega) rfl (zby ixC 3 (fun _ => rfl) ((D.getD k md0).xs) ix0 (show i < _ by omega) rfl)) (zdk rfl (zbf (z := .agg #[.int .i64 0, .int .i64 0, .slice none 0 0]) rfl rfl) ?_)
   intro b25
   refine zbd (cs' := #[.int .i64 ((((D.getD k md0).xs).getD i ix0).m), .int .i64 ((((D.getD k md0).xs).getD i ix0).p), (((D.getD k md0).xs).getD i ix0).pv]) (i := 0) (off := 0) (us := [.int .i64 ((((D.getD k md0).xs).getD i ix0).m), .int .i64 ((((D.getD k md0).xs).getD i ix0).p), (((D.getD k md0).xs).getD i ix0).pv]) rfl rfl rfl rfl rfl rfl rfl (zab rfl (zab rfl (zab ((hd.at (k := k) (by omega)).p.at (k := i) (by omega)).one zbb))) rfl rfl rfl (ntQ (srQ ?_))
   obtain ⟨⟨hm0, hm1⟩, hpe⟩ := hins i (by omega)
   refine hvQ rfl (fdQ 0 rfl rfl rfl) (hvQ rfl (zac rfl rfl rfl (zaa 2 rfl rfl)) (hvQ rfl (fdQ 0 rfl rfl rfl) (hvQ rfl (zac rfl rfl rfl (zaa 0 rfl rfl)) (hvQ rfl (riQ 4 rfl rfl rfl rfl (zae hd.row)) ?_))))
   refine hvQ rfl (zbj (us := [(D.getD (((((D.getD k md0).xs).getD i ix0).m).toNat) md0).sv, (D.getD (((((D.getD k md0).xs).getD i ix0).m).toNat) md0).av, (D.getD (((((D.getD k md0).xs).getD i ix0).m).toNat) md0).iv, (D.getD (((((D.getD k md0).xs).getD i ix0).m).toNat) md0).mv]) rfl rfl rfl rfl (zae hd.row) (by omega) rfl (zby mdC 4 (fun _ => rfl) D md0 (show ((((D.getD k md0).xs).getD i ix0).m).toNat < _ by omega) rfl)) (zdk rfl (zbf (z := .agg #[.slice none 0 0, .slice none 0 0, .slice none 0 0, .slice none 0 0]) rfl rfl) ?_)
   intro b26
   refine zbd (cs' := #[(D.getD (((((D.getD k md0).xs).getD i ix0).m).toNat) md0).sv, (D.getD (((((D.getD k md0).xs).getD i ix0).m).toNat) md0).av, (D.getD (((((D.getD k md0).xs).getD i ix0).m).toNat) md0).iv, (D.getD (((((D.getD k md0).xs).getD i ix0).m).toNat) md0).mv]) (i := 0) (off := 0) (us := [(D.getD (((((D.getD k md0).xs).getD i ix0).m).toNat) md0).sv, (D.getD (((((D.getD k md0).xs).getD i ix0).m).toNat) md0).av, (D.getD (((((D.getD k md0).xs).getD i ix0).m).toNat) md0).iv, (D.getD (((((D.getD k md0).xs).getD i ix0).m).toNat) md0).mv]) rfl rfl rfl rfl rfl rfl rfl (zab (hd.at (k := ((((D.getD k md0).xs).getD i ix0).m).toNat) (by omega)).s.one (zab (hd.at (k := ((((D.getD k md0).xs).getD i ix0).m).toNat) (by omega)).g.one (zab (hd.at (k := ((((D.getD k md0).xs).getD i ix0).m).toNat) (by omega)).x.one (zab (hd.at (k := ((((D.getD k md0).xs).getD i ix0).m).toNat) (by omega)).m.one zbb)))) rfl rfl rfl ?_
   refine ntQ (srQ (hvQ rfl (zau (cs := [(D.getD (((((D.getD k md0).xs).getD i ix0).m).toNat) md0).sv, (D.getD (((((D.getD k md0).xs).getD i ix0).m).toNat) md0).av, (D.getD (((((D.getD k md0).xs).getD i ix0).m).toNat) md0).iv, (D.getD (((((D.getD k md0).xs).getD i ix0).m).toNat) md0).mv]) rfl rfl rfl rfl rfl (zaq 0 rfl 0 rfl)) ?_))
   refine zfq rfl rfl rfl (zaw rfl rfl (fun w hm => zeg (D.getD (((((D.getD k md0).xs).getD i ix0).m).toNat) md0) w ((hd.at (by omega)).below hm.bel))) ?_
   intro v27 p28 hR29
   subst hR29
   refine zaz 1 rfl (zfh (hvQ rfl (fdQ 1 rfl rfl rfl) (hvQ rfl (zac rfl rfl rfl (zaa 2 rfl rfl)) ?_)))
   refine zej rfl (zaw rfl rfl (fun w hm => zbe (zgl ((((D.getD k md0).xs).getD i ix0).p) 0 4 w))) (zbq (fun h30 => ?_) (fun h30 => ?_))
   ·
    obtain ⟨h30a, h30b⟩ := (zdd _ _ _).1 h30
    refine zaz 1 rfl (zas rfl (zcy (zbh 1 rfl (zba ?_))))
    refine lkQ1 (α := Nat) [0, 1, 2, 4, 5, 10, 11, 12, 13, 20, 30, 78, 111, 130] rfl (fun j => [rowE 3 1 v27 ((ptsK (D.getD (((((D.getD k md0).xs).getD i ix0).m).toNat) md0)).length) ((ptsK (D.getD (((((D.getD k md0).xs).getD i ix0).m).toNat) md0)).map (Value.int .i64)), boxE b26 #[(D.getD (((((D.getD k md0).xs).getD i ix0).m).toNat) md0).sv, (D.getD (((((D.getD k md0).xs).getD i ix0).m).toNat) md0).av, (D.getD (((((D.getD k md0).xs).getD i ix0).m).toNat) md0).iv, (D.getD (((((D.getD k md0).xs).getD i ix0).m).toNat) md0).mv] 35, boxE b25 #[.int .i64 ((((D.getD k md0).xs).getD i ix0).m), .int .i64 ((((D.getD k md0).xs).getD i ix0).p), (((D.getD k md0).xs).getD i ix0).pv] 63, boxE b3 #[(D.getD k md0).sv, (D.getD k md0).av, (D.getD k md0).iv, (D.getD k md0).mv] 35, boxE b1 #[v] 26]) (fun j => [(14, .int .i64 (j : Int))]) (fun j => j ≤ (ptsK (D.getD (((((D.getD k md0).xs).getD i ix0).m).toNat) md0)).length ∧ ∀ r, r < j → Inn (D.getD k md0) (((D.getD k md0).xs.getD i ix0).ps.getD r 0) ∧ (knd (D.getD (((((D.getD k md0).xs).getD i ix0).m).toNat) md0) ((ptsK (D.getD (((((D.getD k md0).xs).getD i ix0).m).toNat) md0)).getD r 0) = 1 → Drv (D.getD k md0) (((D.getD k md0).xs.getD i ix0).ps.getD r 0))) (fun j => (ptsK (D.getD (((((D.getD k md0).xs).getD i ix0).m).toNat) md0)).length - j) 0 ⟨Nat.zero_le _, fun q hq => absurd hq (by omega)⟩ (saQ rfl) (pfQ rfl) ?_
    intro j hi31
    obtain ⟨hj, hj9⟩ := hi31
    have hpl := ptsK_le (D.getD (((((D.getD k md0).xs).getD i ix0).m).toNat) md0)
    refine zag (zag (reQ 2 rfl (hvQ rfl (lnQ rfl rfl rfl (zai 0 rfl)) ?_)))
    refine zbp rfl rfl rfl rfl rfl rfl (fun h32 => ?_) (fun h32 => ?_)
    ·
     refine ntQ (zaj rfl (zcy (sbQ (zag ?_))))
     have hpt := zdy (m := (D.getD (((((D.getD k md0).xs).getD i ix0).m).toNat) md0)) (j := j) (by omega)
     have hkd := zcx hpt
     rcases Bool.eq_false_or_eq_true (decide (knd (D.getD k md0) (((((D.getD k md0).xs).getD i ix0).ps).getD j 0) < 0)) with hb33 | hb33
     ·
      have hb33p : knd (D.getD k md0) (((((D.getD k md0).xs).getD i ix0).ps).getD j 0) < 0 := of_decide_eq_true hb33
      have hpt := zdy (m := (D.getD (((((D.getD k md0).xs).getD i ix0).m).toNat) md0)) (j := j) (by omega)
      have hkd := zcx hpt
      refine zbv 30 [[], [], [1], [], [2, 3], [4], [0, 5], [6], [7], [8], [8], [8], [8], [8], [8], [8], [8], [8], [8], [8], [19], [19], [19], [19], [19], [19], [19], [19], [8], [8, 28]] [137, 138, 139, 140, 141, 142, 143, 144, 145, 146, 147, 148, 149, 150, 151, 152, 153, 154, 155, 156, 157, 158, 159, 160, 161, 162, 163, 164, 165, 166] [.agg #[(D.getD k md0).sv, (D.getD k md0).av, (D.getD k md0).iv, (D.getD k md0).mv], .pointer (some ⟨b25, 0 + 2, none⟩), (((D.getD k md0).xs).getD i ix0).pv, .int .i64 (j : Int), elP ((((D.getD k md0).xs).getD i ix0).pv) (((j : Int)).toNat * 1), .int .i64 (((((D.getD k md0).xs).getD i ix0).ps).getD j 0), .int .i64 (knd (D.getD k md0) (((((D.getD k md0).xs).getD i ix0).ps).getD j 0)), .bool true, .bool true, undef, undef, undef, undef, undef, undef, undef, undef, undef, undef, undef, undef, undef, undef, undef, undef, undef, undef, undef, undef, .bool true] (by kernel_rfl) rfl ?_ ?_
      ·
       exact ⟨iaQ rfl (zau (cs := [(D.getD k md0).sv, (D.getD k md0).av, (D.getD k md0).iv, (D.getD k md0).mv]) rfl rfl rfl rfl rfl (zaq 3 rfl 0 rfl)) rfl, iaQ rfl (fdQ 2 rfl rfl rfl) rfl, iaQ rfl (zac rfl rfl rfl (zaa 2 rfl rfl)) rfl, iaQ rfl (zax rfl) rfl, iaQ rfl (riQ 1 rfl rfl rfl rfl (zae ((hd.at (k := k) (by omega)).p.at (k := i) (by omega)))) rfl, iaQ rfl (zak (u := .int .i64 (((((D.getD k md0).xs).getD i ix0).ps).getD j 0)) rfl rfl rfl (zae ((hd.at (k := k) (by omega)).p.at (k := i) (by omega))) (zca (show _ < ((((D.getD k md0).xs).getD i ix0).ps).length by omega))) rfl, .inl ⟨rfl, zaw rfl rfl (fun w hm => zbe (zel (D.getD k md0) (((((D.getD k md0).xs).getD i ix0).ps).getD j 0) w ((hd.at (k := k) (by omega)).below hm.bel)))⟩, .inl ⟨rfl, zdp (zck rfl rfl rfl rfl) hb33⟩, iaQ rfl (zax rfl) rfl, .inr ⟨rfl, rfl⟩, .inr ⟨rfl, rfl⟩, .inr ⟨rfl, rfl⟩, .inr ⟨rfl, rfl⟩, .inr ⟨rfl, rfl⟩, .inr ⟨rfl, rfl⟩, .inr ⟨rfl, rfl⟩, .inr ⟨rfl, rfl⟩, .inr ⟨rfl, rfl⟩, .inr ⟨rfl, rfl⟩, .inr ⟨rfl, rfl⟩, .inr ⟨rfl, rfl⟩, .inr ⟨rfl, rfl⟩, .inr ⟨rfl, rfl⟩, .inr ⟨rfl, rfl⟩, .inr ⟨rfl, rfl⟩, .inr ⟨rfl, rfl⟩, .inr ⟨rfl, rfl⟩, .inr ⟨rfl, rfl⟩, .inr ⟨rfl, rfl⟩, iaQ rfl (zax rfl) rfl, trivial⟩
      simp only [List.drop_succ_cons, List.drop_zero]
      refine ntQ (zaj rfl (zbh 1 rfl ?_))
      refine zap (zad ?_)
      refine zdw ?_
      refine zad (zad ?_)
      refine zdw ?_
      refine zad (zaf ?_)
      exact zay rfl rfl (congrArg _ (zcb (fun hp => by first | (exact absurd (show CtsP D k from ⟨hp.lt, hp.cnt, hp.ins⟩) (by assumption)) | (have h9 := hp.sg i (by omega); obtain ⟨⟨h1, h2⟩, ⟨h3, h4⟩, ⟨h5, h6⟩, h7⟩ := h9; omega) | (have h9 := hp.dr i (by omega) (by omega); omega) | (exact absurd (hp.gs i (by omega)).2 (by assumption)) | (have h9 := (hp.gs i (by omega)).1; have h8 : ¬ Drv (D.getD k md0) ((D.getD k md0).gs.getD i as0).t := (by assumption); exact h8 (by first | exact .inl (by omega) | exact .inr (by omega))) | (have h9 := (hp.gs i (by omega)).1; have h8 : ¬ Drv (D.getD k md0) ((D.getD k md0).gs.getD i as0).t := (by assumption); unfold Drv at h8; omega) | (have h9 := (hp.xs i (by omega)).1; omega) | (have h9 := ((hp.xs i (by omega)).2 j (by omega)).1; have h8 := (zbs hsgA).2 h9; omega) | (have h9 := ((hp.xs i (by omega)).2 j (by omega)).2 (by omega); exact absurd h9 (by assumption)) | (obtain ⟨⟨h1, h2, h3⟩, h4⟩ := hp.ms i (by omega); have g1 := (zbs hsgA).2 h1; have g2 := (zbs hsgA).2 h2; have g3 := (zbs hsgA).2 h3; first | omega | exact absurd h4 (by assumption)))).symm)
     have hb33p : ¬ (knd (D.getD k md0) (((((D.getD k md0).xs).getD i ix0).ps).getD j 0) < 0) := of_decide_eq_false hb33
     have hpt := zdy (m := (D.getD (((((D.getD k md0).xs).getD i ix0).m).toNat) md0)) (j := j) (by omega)
     have hkd := zcx hpt
     rcases Bool.eq_false_or_eq_true (((((D.getD (((((D.getD k md0).xs).getD i ix0).m).toNat) md0).ss).getD (((ptsK (D.getD (((((D.getD k md0).xs).getD i ix0).m).toNat) md0)).getD j 0).toNat) sg0).k) == 1) with hb34 | hb34
     ·
      have hb34p : (((D.getD (((((D.getD k md0).xs).getD i ix0).m).toNat) md0).ss).getD (((ptsK (D.getD (((((D.getD k md0).xs).getD i ix0).m).toNat) md0)).getD j 0).toNat) sg0).k = 1 := beq_iff_eq.1 hb34
      have hpt := zdy (m := (D.getD (((((D.getD k md0).xs).getD i ix0).m).toNat) md0)) (j := j) (by omega)
      have hkd := zcx hpt
      rcases Bool.eq_false_or_eq_true (pB (Drv (D.getD k md0) (((((D.getD k md0).xs).getD i ix0).ps).getD j 0))) with hb35 | hb35
      ·
       have hb35p := zfc hb35
       have hpt := zdy (m := (D.getD (((((D.getD k md0).xs).getD i ix0).m).toNat) md0)) (j := j) (by omega)
       have hkd := zcx hpt
       refine zbv 30 [[], [], [1], [], [2, 3], [4], [0, 5], [6], [7], [8], [8, 9], [8], [8], [8, 11, 12], [8, 13], [8, 10, 14], [8, 15], [8, 16], [8, 17], [8, 18], [19], [19], [19, 21], [19], [19, 22, 23], [19, 24], [19, 20, 25], [19, 26], [8, 19, 27], [8, 28]] [137, 138, 139, 140, 141, 142, 143, 144, 145, 146, 147, 148, 149, 150, 151, 152, 153, 154, 155, 156, 157, 158, 159, 160, 161, 162, 163, 164, 165, 166] [.agg #[(D.getD k md0).sv, (D.getD k md0).av, (D.getD k md0).iv, (D.getD k md0).mv], .pointer (some ⟨b25, 0 + 2, none⟩), (((D.getD k md0).xs).getD i ix0).pv, .int .i64 (j : Int), elP ((((D.getD k md0).xs).getD i ix0).pv) (((j : Int)).toNat * 1), .int .i64 (((((D.getD k md0).xs).getD i ix0).ps).getD j 0), .int .i64 (knd (D.getD k md0) (((((D.getD k md0).xs).getD i ix0).ps).getD j 0)), .bool false, .bool false, .pointer (some ⟨b26, 0 + 0, none⟩), (D.getD (((((D.getD k md0).xs).getD i ix0).m).toNat) md0).sv, v27, .int .i64 (j : Int), elP v27 (((j : Int)).toNat * 1), .int .i64 ((ptsK (D.getD (((((D.getD k md0).xs).getD i ix0).m).toNat) md0)).getD j 0), elP ((D.getD (((((D.getD k md0).xs).getD i ix0).m).toNat) md0).sv) (((ptsK (D.getD (((((D.getD k md0).xs).getD i ix0).m).toNat) md0)).getD j 0).toNat * 3), elP ((D.getD (((((D.getD k md0).xs).getD i ix0).m).toNat) md0).sv) (((ptsK (D.getD (((((D.getD k md0).xs).getD i ix0).m).toNat) md0)).getD j 0).toNat * 3 + 0), .int .i64 ((((D.getD (((((D.getD k md0).xs).getD i ix0).m).toNat) md0).ss).getD (((ptsK (D.getD (((((D.getD k md0).xs).getD i ix0).m).toNat) md0)).getD j 0).toNat) sg0).k), .bool true, .bool true, .agg #[(D.getD k md0).sv, (D.getD k md0).av, (D.getD k md0).iv, (D.getD k md0).mv], .pointer (some ⟨b25, 0 + 2, none⟩), (((D.getD k md0).xs).getD i ix0).pv, .int .i64 (j : Int), elP ((((D.getD k md0).xs).getD i ix0).pv) (((j : Int)).toNat * 1), .int .i64 (((((D.getD k md0).xs).getD i ix0).ps).getD j 0), .bool true, .bool false, .bool false, .bool false] (by kernel_rfl) rfl ?_ ?_
       ·
        exact ⟨iaQ rfl (zau (cs := [(D.getD k md0).sv, (D.getD k md0).av, (D.getD k md0).iv, (D.getD k md0).mv]) rfl rfl rfl rfl rfl (zaq 3 rfl 0 rfl)) rfl, iaQ rfl (fdQ 2 rfl rfl rfl) rfl, iaQ rfl (zac rfl rfl rfl (zaa 2 rfl rfl)) rfl, iaQ rfl (zax rfl) rfl, iaQ rfl (riQ 1 rfl rfl rfl rfl (zae ((hd.at (k := k) (by omega)).p.at (k := i) (by omega)))) rfl, iaQ rfl (zak (u := .int .i64 (((((D.getD k md0).xs).getD i ix0).ps).getD j 0)) rfl rfl rfl (zae ((hd.at (k := k) (by omega)).p.at (k := i) (by omega))) (zca (show _ < ((((D.getD k md0).xs).getD i ix0).ps).length by omega))) rfl, .inl ⟨rfl, zaw rfl rfl (fun w hm => zbe (zel (D.getD k md0) (((((D.getD k md0).xs).getD i ix0).ps).getD j 0) w ((hd.at (k := k) (by omega)).below hm.bel)))⟩, .inl ⟨rfl, zdp (zck rfl rfl rfl rfl) hb33⟩, iaQ rfl (zax rfl) rfl, iaQ rfl (fdQ 0 rfl rfl rfl) rfl, iaQ rfl (zac rfl rfl rfl (zaa 1 rfl rfl)) rfl, iaQ rfl (zax rfl) rfl, iaQ rfl (zax rfl) rfl, iaQ rfl (riQ 1 rfl rfl rfl rfl (zai 0 rfl)) rfl, iaQ rfl (zak (u := .int .i64 ((ptsK (D.getD (((((D.getD k md0).xs).getD i ix0).m).toNat) md0)).getD j 0)) rfl rfl rfl (zai 0 rfl) (zca (show _ < (ptsK (D.getD (((((D.getD k md0).xs).getD i ix0).m).toNat) md0)).length by omega))) rfl, iaQ rfl (riQ 3 rfl rfl rfl rfl (zae ((hd.at (k := ((((D.getD k md0).xs).getD i ix0).m).toNat) (by omega)).s))) rfl, iaQ rfl (zat (k0 := 0) rfl rfl rfl (zae ((hd.at (k := ((((D.getD k md0).xs).getD i ix0).m).toNat) (by omega)).s)) (by omega)) rfl, iaQ rfl (zak (u := .int .i64 ((((D.getD (((((D.getD k md0).xs).getD i ix0).m).toNat) md0).ss).getD (((ptsK (D.getD (((((D.getD k md0).xs).getD i ix0).m).toNat) md0)).getD j 0).toNat) sg0).k)) rfl rfl rfl (zae ((hd.at (k := ((((D.getD k md0).xs).getD i ix0).m).toNat) (by omega)).s)) ((zbg sgC 3 (fun _ => rfl) ((D.getD (((((D.getD k md0).xs).getD i ix0).m).toNat) md0).ss) sg0 (show ((ptsK (D.getD (((((D.getD k md0).xs).getD i ix0).m).toNat) md0)).getD j 0).toNat < _ by omega) (by decide)).trans rfl)) rfl, .inl ⟨rfl, zdp (zck rfl rfl rfl rfl) hb34⟩, iaQ rfl (zax rfl) rfl, iaQ rfl (zau (cs := [(D.getD k md0).sv, (D.getD k md0).av, (D.getD k md0).iv, (D.getD k md0).mv]) rfl rfl rfl rfl rfl (zaq 3 rfl 0 rfl)) rfl, iaQ rfl (fdQ 2 rfl rfl rfl) rfl, iaQ rfl (zac rfl rfl rfl (zaa 2 rfl rfl)) rfl, iaQ rfl (zax rfl) rfl, iaQ rfl (riQ 1 rfl rfl rfl rfl (zae ((hd.at (k := k) (by omega)).p.at (k := i) (by omega)))) rfl, iaQ rfl (zak (u := .int .i64 (((((D.getD k md0).xs).getD i ix0).ps).getD j 0)) rfl rfl rfl (zae ((hd.at (k := k) (by omega)).p.at (k := i) (by omega))) (zca (show _ < ((((D.getD k md0).xs).getD i ix0).ps).length by omega))) rfl, .inl ⟨rfl, rq_cb (zaw rfl rfl (fun w hm => zbe (zfp (D.getD k md0) (((((D.getD k md0).xs).getD i ix0).ps).getD j 0) w ((hd.at (k := k) (by omega)).below hm.bel)))) hb35⟩, iaQ rfl (zax rfl) rfl, iaQ rfl (zax rfl) rfl, iaQ rfl (zax rfl) rfl, trivial⟩
       simp only [List.drop_succ_cons, List.drop_zero]
       refine ntQ (fsQ rfl (zde (reQ 1 rfl (hvQ rfl (vaQ rfl rfl rfl) (enQ 1 rfl ?_)))))
       exact zbt (j + 1) ⟨by omega, fun r hr9 => by by_cases e : r = j; (subst e; exact ⟨(zbs hsgA).1 (by omega), fun _ => by first | assumption | (exfalso; omega)⟩); exact hj9 r (by omega)⟩ (by omega) (saQ rfl) (pfQ rfl)
      have hb35p := zea hb35
      have hpt := zdy (m := (D.getD (((((D.getD k md0).xs).getD i ix0).m).toNat) md0)) (j := j) (by omega)
      have hkd := zcx hpt
      refine zbv 30 [[], [], [1], [], [2, 3], [4], [0, 5], [6], [7], [8], [8, 9], [8], [8], [8, 11, 12], [8, 13], [8, 10, 14], [8, 15], [8, 16], [8, 17], [8, 18], [19], [19], [19, 21], [19], [19, 22, 23], [19, 24], [19, 20, 25], [19, 26], [8, 19, 27], [8, 28]] [137, 138, 139, 140, 141, 142, 143, 144, 145, 146, 147, 148, 149, 150, 151, 152, 153, 154, 155, 156, 157, 158, 159, 160, 161, 162, 163, 164, 165, 166] [.agg #[(D.getD k md0).sv, (D.getD k md0).av, (D.getD k md0).iv, (D.getD k md0).mv], .pointer (some ⟨b25, 0 + 2, none⟩), (((D.getD k md0).xs).getD i ix0).pv, .int .i64 (j : Int), elP ((((D.getD k md0).xs).getD i ix0).pv) (((j : Int)).toNat * 1), .int .i64 (((((D.getD k md0).xs).getD i ix0).ps).getD j 0), .int .i64 (knd (D.getD k md0) (((((D.getD k md0).xs).getD i ix0).ps).getD j 0)), .bool false, .bool false, .pointer (some ⟨b26, 0 + 0, none⟩), (D.getD (((((D.getD k md0).xs).getD i ix0).m).toNat) md0).sv, v27, .int .i64 (j : Int), elP v27 (((j : Int)).toNat * 1), .int .i64 ((ptsK (D.getD (((((D.getD k md0).xs).getD i ix0).m).toNat) md0)).getD j 0), elP ((D.getD (((((D.getD k md0).xs).getD i ix0).m).toNat) md0).sv) (((ptsK (D.getD (((((D.getD k md0).xs).getD i ix0).m).toNat) md0)).getD j 0).toNat * 3), elP ((D.getD (((((D.getD k md0).xs).getD i ix0).m).toNat) md0).sv) (((ptsK (D.getD (((((D.getD k md0).xs).getD i ix0).m).toNat) md0)).getD j 0).toNat * 3 + 0), .int .i64 ((((D.getD (((((D.getD k md0).xs).getD i ix0).m).toNat) md0).ss).getD (((ptsK (D.getD (((((D.getD k md0).xs).getD i ix0).m).toNat) md0)).getD j 0).toNat) sg0).k), .bool true, .bool true, .agg #[(D.getD k md0).sv, (D.getD k md0).av, (D.getD k md0).iv, (D.getD k md0).mv], .pointer (some ⟨b25, 0 + 2, none⟩), (((D.getD k md0).xs).getD i ix0).pv, .int .i64 (j : Int), elP ((((D.getD k md0).xs).getD i ix0).pv) (((j : Int)).toNat * 1), .int .i64 (((((D.getD k md0).xs).getD i ix0).ps).getD j 0), .bool false, .bool true, .bool true, .bool true] (by kernel_rfl) rfl ?_ ?_
      ·
       exact ⟨iaQ rfl (zau (cs := [(D.getD k md0).sv, (D.getD k md0).av, (D.getD k md0).iv, (D.getD k md0).mv]) rfl rfl rfl rfl rfl (zaq 3 rfl 0 rfl)) rfl, iaQ rfl (fdQ 2 rfl rfl rfl) rfl, iaQ rfl (zac rfl rfl rfl (zaa 2 rfl rfl)) rfl, iaQ rfl (zax rfl) rfl, iaQ rfl (riQ 1 rfl rfl rfl rfl (zae ((hd.at (k := k) (by omega)).p.at (k := i) (by omega)))) rfl, iaQ rfl (zak (u := .int .i64 (((((D.getD k md0).xs).getD i ix0).ps).getD j 0)) rfl rfl rfl (zae ((hd.at (k := k) (by omega)).p.at (k := i) (by omega))) (zca (show _ < ((((D.getD k md0).xs).getD i ix0).ps).length by omega))) rfl, .inl ⟨rfl, zaw rfl rfl (fun w hm => zbe (zel (D.getD k md0) (((((D.getD k md0).xs).getD i ix0).ps).getD j 0) w ((hd.at (k := k) (by omega)).below hm.bel)))⟩, .inl ⟨rfl, zdp (zck rfl rfl rfl rfl) hb33⟩, iaQ rfl (zax rfl) rfl, iaQ rfl (fdQ 0 rfl rfl rfl) rfl, iaQ rfl (zac rfl rfl rfl (zaa 1 rfl rfl)) rfl, iaQ rfl (zax rfl) rfl, iaQ rfl (zax rfl) rfl, iaQ rfl (riQ 1 rfl rfl rfl rfl (zai 0 rfl)) rfl, iaQ rfl (zak (u := .int .i64 ((ptsK (D.getD (((((D.getD k md0).xs).getD i ix0).m).toNat) md0)).getD j 0)) rfl rfl rfl (zai 0 rfl) (zca (show _ < (ptsK (D.getD (((((D.getD k md0).xs).getD i ix0).m).toNat) md0)).length by omega))) rfl, iaQ rfl (riQ 3 rfl rfl rfl rfl (zae ((hd.at (k := ((((D.getD k md0).xs).getD i ix0).m).toNat) (by omega)).s))) rfl, iaQ rfl (zat (k0 := 0) rfl rfl rfl (zae ((hd.at (k := ((((D.getD k md0).xs).getD i ix0).m).toNat) (by omega)).s)) (by omega)) rfl, iaQ rfl (zak (u := .int .i64 ((((D.getD (((((D.getD k md0).xs).getD i ix0).m).toNat) md0).ss).getD (((ptsK (D.getD (((((D.getD k md0).xs).getD i ix0).m).toNat) md0)).getD j 0).toNat) sg0).k)) rfl rfl rfl (zae ((hd.at (k := ((((D.getD k md0).xs).getD i ix0).m).toNat) (by omega)).s)) ((zbg sgC 3 (fun _ => rfl) ((D.getD (((((D.getD k md0).xs).getD i ix0).m).toNat) md0).ss) sg0 (show ((ptsK (D.getD (((((D.getD k md0).xs).getD i ix0).m).toNat) md0)).getD j 0).toNat < _ by omega) (by decide)).trans rfl)) rfl, .inl ⟨rfl, zdp (zck rfl rfl rfl rfl) hb34⟩, iaQ rfl (zax rfl) rfl, iaQ rfl (zau (cs := [(D.getD k md0).sv, (D.getD k md0).av, (D.getD k md0).iv, (D.getD k md0).mv]) rfl rfl rfl rfl rfl (zaq 3 rfl 0 rfl)) rfl, iaQ rfl (fdQ 2 rfl rfl rfl) rfl, iaQ rfl (zac rfl rfl rfl (zaa 2 rfl rfl)) rfl, iaQ rfl (zax rfl) rfl, iaQ rfl (riQ 1 rfl rfl rfl rfl (zae ((hd.at (k := k) (by omega)).p.at (k := i) (by omega)))) rfl, iaQ rfl (zak (u := .int .i64 (((((D.getD k md0).xs).getD i ix0).ps).getD j 0)) rfl rfl rfl (zae ((hd.at (k := k) (by omega)).p.at (k := i) (by omega))) (zca (show _ < ((((D.getD k md0).xs).getD i ix0).ps).length by omega))) rfl, .inl ⟨rfl, rq_cb (zaw rfl rfl (fun w hm => zbe (zfp (D.getD k md0) (((((D.getD k md0).xs).getD i ix0).ps).getD j 0) w ((hd.at (k := k) (by omega)).below hm.bel)))) hb35⟩, iaQ rfl (zax rfl) rfl, iaQ rfl (zax rfl) rfl, iaQ rfl (zax rfl) rfl, trivial⟩
      simp only [List.drop_succ_cons, List.drop_zero]
      refine ntQ (zaj rfl (zbh 1 rfl ?_))
      refine zap (zad ?_)
      refine zdw ?_
      refine zad (zad ?_)
      refine zdw ?_
      refine zad (zaf ?_)
      exact zay rfl rfl (congrArg _ (zcb (fun hp => by first | (exact absurd (show CtsP D k from ⟨hp.lt, hp.cnt, hp.ins⟩) (by assumption)) | (have h9 := hp.sg i (by omega); obtain ⟨⟨h1, h2⟩, ⟨h3, h4⟩, ⟨h5, h6⟩, h7⟩ := h9; omega) | (have h9 := hp.dr i (by omega) (by omega); omega) | (exact absurd (hp.gs i (by omega)).2 (by assumption)) | (have h9 := (hp.gs i (by omega)).1; have h8 : ¬ Drv (D.getD k md0) ((D.getD k md0).gs.getD i as0).t := (by assumption); exact h8 (by first | exact .inl (by omega) | exact .inr (by omega))) | (have h9 := (hp.gs i (by omega)).1; have h8 : ¬ Drv (D.getD k md0) ((D.getD k md0).gs.getD i as0).t := (by assumption); unfold Drv at h8; omega) | (have h9 := (hp.xs i (by omega)).1; omega) | (have h9 := ((hp.xs i (by omega)).2 j (by omega)).1; have h8 := (zbs hsgA).2 h9; omega) | (have h9 := ((hp.xs i (by omega)).2 j (by omega)).2 (by omega); exact absurd h9 (by assumption)) | (obtain ⟨⟨h1, h2, h3⟩, h4⟩ := hp.ms i (by omega); have g1 := (zbs hsgA).2 h1; have g2 := (zbs hsgA).2 h2; have g3 := (zbs hsgA).2 h3; first | omega | exact absurd h4 (by assumption)))).symm)
     have hb34p : (((D.getD (((((D.getD k md0).xs).getD i ix0).m).toNat) md0).ss).getD (((ptsK (D.getD (((((D.getD k md0).xs).getD i ix0).m).toNat) md0)).getD j 0).toNat) sg0).k ≠ 1 := beq_eq_false_iff_ne.1 hb34
     have hpt := zdy (m := (D.getD (((((D.getD k md0).xs).getD i ix0).m).toNat) md0)) (j := j) (by omega)
     have hkd := zcx hpt
     refine zbv 30 [[], [], [1], [], [2, 3], [4], [0, 5], [6], [7], [8], [8, 9], [8], [8], [8, 11, 12], [8, 13], [8, 10, 14], [8, 15], [8, 16], [8, 17], [8, 18], [19], [19], [19], [19], [19], [19], [19], [19], [8, 19, 27], [8, 28]] [137, 138, 139, 140, 141, 142, 143, 144, 145, 146, 147, 148, 149, 150, 151, 152, 153, 154, 155, 156, 157, 158, 159, 160, 161, 162, 163, 164, 165, 166] [.agg #[(D.getD k md0).sv, (D.getD k md0).av, (D.getD k md0).iv, (D.getD k md0).mv], .pointer (some ⟨b25, 0 + 2, none⟩), (((D.getD k md0).xs).getD i ix0).pv, .int .i64 (j : Int), elP ((((D.getD k md0).xs).getD i ix0).pv) (((j : Int)).toNat * 1), .int .i64 (((((D.getD k md0).xs).getD i ix0).ps).getD j 0), .int .i64 (knd (D.getD k md0) (((((D.getD k md0).xs).getD i ix0).ps).getD j 0)), .bool false, .bool false, .pointer (some ⟨b26, 0 + 0, none⟩), (D.getD (((((D.getD k md0).xs).getD i ix0).m).toNat) md0).sv, v27, .int .i64 (j : Int), elP v27 (((j : Int)).toNat * 1), .int .i64 ((ptsK (D.getD (((((D.getD k md0).xs).getD i ix0).m).toNat) md0)).getD j 0), elP ((D.getD (((((D.getD k md0).xs).getD i ix0).m).toNat) md0).sv) (((ptsK (D.getD (((((D.getD k md0).xs).getD i ix0).m).toNat) md0)).getD j 0).toNat * 3), elP ((D.getD (((((D.getD k md0).xs).getD i ix0).m).toNat) md0).sv) (((ptsK (D.getD (((((D.getD k md0).xs).getD i ix0).m).toNat) md0)).getD j 0).toNat * 3 + 0), .int .i64 ((((D.getD (((((D.getD k md0).xs).getD i ix0).m).toNat) md0).ss).getD (((ptsK (D.getD (((((D.getD k md0).xs).getD i ix0).m).toNat) md0)).getD j 0).toNat) sg0).k), .bool false, .bool false, undef, undef, undef, undef, undef, undef, undef, undef, .bool false, .bool false] (by kernel_rfl) rfl ?_ ?_
     ·
      exact ⟨iaQ rfl (zau (cs := [(D.getD k md0).sv, (D.getD k md0).av, (D.getD k md0).iv, (D.getD k md0).mv]) rfl rfl rfl rfl rfl (zaq 3 rfl 0 rfl)) rfl, iaQ rfl (fdQ 2 rfl rfl rfl) rfl, iaQ rfl (zac rfl rfl rfl (zaa 2 rfl rfl)) rfl, iaQ rfl (zax rfl) rfl, iaQ rfl (riQ 1 rfl rfl rfl rfl (zae ((hd.at (k := k) (by omega)).p.at (k := i) (by omega)))) rfl, iaQ rfl (zak (u := .int .i64 (((((D.getD k md0).xs).getD i ix0).ps).getD j 0)) rfl rfl rfl (zae ((hd.at (k := k) (by omega)).p.at (k := i) (by omega))) (zca (show _ < ((((D.getD k md0).xs).getD i ix0).ps).length by omega))) rfl, .inl ⟨rfl, zaw rfl rfl (fun w hm => zbe (zel (D.getD k md0) (((((D.getD k md0).xs).getD i ix0).ps).getD j 0) w ((hd.at (k := k) (by omega)).below hm.bel)))⟩, .inl ⟨rfl, zdp (zck rfl rfl rfl rfl) hb33⟩, iaQ rfl (zax rfl) rfl, iaQ rfl (fdQ 0 rfl rfl rfl) rfl, iaQ rfl (zac rfl rfl rfl (zaa 1 rfl rfl)) rfl, iaQ rfl (zax rfl) rfl, iaQ rfl (zax rfl) rfl, iaQ rfl (riQ 1 rfl rfl rfl rfl (zai 0 rfl)) rfl, iaQ rfl (zak (u := .int .i64 ((ptsK (D.getD (((((D.getD k md0).xs).getD i ix0).m).toNat) md0)).getD j 0)) rfl rfl rfl (zai 0 rfl) (zca (show _ < (ptsK (D.getD (((((D.getD k md0).xs).getD i ix0).m).toNat) md0)).length by omega))) rfl, iaQ rfl (riQ 3 rfl rfl rfl rfl (zae ((hd.at (k := ((((D.getD k md0).xs).getD i ix0).m).toNat) (by omega)).s))) rfl, iaQ rfl (zat (k0 := 0) rfl rfl rfl (zae ((hd.at (k := ((((D.getD k md0).xs).getD i ix0).m).toNat) (by omega)).s)) (by omega)) rfl, iaQ rfl (zak (u := .int .i64 ((((D.getD (((((D.getD k md0).xs).getD i ix0).m).toNat) md0).ss).getD (((ptsK (D.getD (((((D.getD k md0).xs).getD i ix0).m).toNat) md0)).getD j 0).toNat) sg0).k)) rfl rfl rfl (zae ((hd.at (k := ((((D.getD k md0).xs).getD i ix0).m).toNat) (by omega)).s)) ((zbg sgC 3 (fun _ => rfl) ((D.getD (((((D.getD k md0).xs).getD i ix0).m).toNat) md0).ss) sg0 (show ((ptsK (D.getD (((((D.getD k md0).xs).getD i ix0).m).toNat) md0)).getD j 0).toNat < _ by omega) (by decide)).trans rfl)) rfl, .inl ⟨rfl, zdp (zck rfl rfl rfl rfl) hb34⟩, iaQ rfl (zax rfl) rfl, .inr ⟨rfl, rfl⟩, .inr ⟨rfl, rfl⟩, .inr ⟨rfl, rfl⟩, .inr ⟨rfl, rfl⟩, .inr ⟨rfl, rfl⟩, .inr ⟨rfl, rfl⟩, .inr ⟨rfl, rfl⟩, .inr ⟨rfl, rfl⟩, iaQ rfl (zax rfl) rfl, iaQ rfl (zax rfl) rfl, trivial⟩
     simp only [List.drop_succ_cons, List.drop_zero]
     refine ntQ (fsQ rfl (zde (reQ 1 rfl (hvQ rfl (vaQ rfl rfl rfl) (enQ 1 rfl ?_)))))
     exact zbt (j + 1) ⟨by omega, fun r hr9 => by by_cases e : r = j; (subst e; exact ⟨(zbs hsgA).1 (by omega), fun _ => by first | assumption | (exfalso; omega)⟩); exact hj9 r (by omega)⟩ (by omega) (saQ rfl) (pfQ rfl)
    refine ntQ (zas rfl ?_)
    refine zbi (zdv ?_)
    refine zal (zde (reQ 1 rfl (hvQ rfl (vaQ rfl rfl rfl) (enQ 1 rfl ?_))))
    exact zbt (i + 1) ⟨by omega, fun q hq => by by_cases e : q = i; (subst e; exact ⟨⟨by omega, by omega⟩, fun r hr9 => hj9 r (by omega)⟩); exact hxs q (by omega)⟩ (by omega) (saQ rfl) (slQ [3, 0] rfl)
   have h30a := zcz h30
   refine zaz 1 rfl (zaj rfl (zbh 1 rfl ?_))
   refine zap (zaf ?_)
   refine zad (zdw ?_)
   refine zad (zaf ?_)
   exact zay rfl rfl (congrArg _ (zcb (fun hp => by first | (exact absurd (show CtsP D k from ⟨hp.lt, hp.cnt, hp.ins⟩) (by assumption)) | (have h9 := hp.sg i (by omega); obtain ⟨⟨h1, h2⟩, ⟨h3, h4⟩, ⟨h5, h6⟩, h7⟩ := h9; omega) | (have h9 := hp.dr i (by omega) (by omega); omega) | (exact absurd (hp.gs i (by omega)).2 (by assumption)) | (have h9 := (hp.gs i (by omega)).1; have h8 : ¬ Drv (D.getD k md0) ((D.getD k md0).gs.getD i as0).t := (by assumption); exact h8 (by first | exact .inl (by omega) | exact .inr (by omega))) | (have h9 := (hp.gs i (by omega)).1; have h8 : ¬ Drv (D.getD k md0) ((D.getD k md0).gs.getD i as0).t := (by assumption); unfold Drv at h8; omega) | (have h9 := (hp.xs i (by omega)).1; omega) | (have h9 := ((hp.xs i (by omega)).2 j (by omega)).1; have h8 := (zbs hsgA).2 h9; omega) | (have h9 := ((hp.xs i (by omega)).2 j (by omega)).2 (by omega); exact absurd h9 (by assumption)) | (obtain ⟨⟨h1, h2, h3⟩, h4⟩ := hp.ms i (by omega); have g1 := (zbs hsgA).2 h1; have g2 := (zbs hsgA).2 h2; have g3 := (zbs hsgA).2 h3; first | omega | exact absurd h4 (by assumption)))).symm)
  refine ntQ (zas rfl ?_)
  refine zbi (zdv ?_)
  refine zal (zar (zag (zbh 1 rfl (zba ?_))))
  refine lkQ1 (α := Nat) [0, 1, 2, 4, 5, 20, 30, 78, 111] rfl (fun i => [boxE b3 #[(D.getD k md0).sv, (D.getD k md0).av, (D.getD k md0).iv, (D.getD k md0).mv] 35, boxE b1 #[v] 26]) (fun i => [(15, .int .i64 (i : Int))]) (fun i => i ≤ (D.getD k md0).ms.length ∧ ∀ q, q < i → MmP (D.getD k md0) ((D.getD k md0).ms.getD q mm0)) (fun i => (D.getD k md0).ms.length - i) 0 ⟨Nat.zero_le _, fun q hq => absurd hq (by omega)⟩ (saQ rfl) (pfQ rfl) ?_
  intro i hi36
  obtain ⟨hi, hms⟩ := hi36
  refine zag (zag (reQ 1 rfl (hvQ rfl (fdQ 3 rfl rfl rfl) (hvQ rfl (zac rfl rfl rfl (zaa 0 rfl rfl)) (hvQ rfl (lnQ rfl rfl rfl (zae ((hd.at (k := k) (by omega)).m))) ?_)))))
  refine zbp rfl rfl rfl rfl rfl rfl (fun h37 => ?_) (fun h37 => ?_)
  ·
   refine ntQ (zaj rfl (zcy (sbQ (srQ (hvQ rfl (fdQ 3 rfl rfl rfl) (hvQ rfl (zac rfl rfl rfl (zaa 0 rfl rfl)) (zah 1 rfl (hvQ rfl (riQ 4 rfl rfl rfl rfl (zae ((hd.at (k := k) (by omega)).m))) ?_))))))))
   refine hvQ rfl (zbj (us := [.int .i64 ((((D.getD k md0).ms).getD i mm0).a), .int .i64 ((((D.getD k md0).ms).getD i mm0).d), .int .i64 ((((D.getD k md0).ms).getD i mm0).w), .int .i64 ((((D.getD k md0).ms).getD i mm0).o)]) rfl rfl rfl rfl (zae ((hd.at (k := k) (by omega)).m)) (by omega) rfl (zby mmC 4 (fun _ => rfl) ((D.getD k md0).ms) mm0 (show i < _ by omega) rfl)) (zdk rfl (zbf (z := .agg #[.int .i64 0, .int .i64 0, .int .i64 0, .int .i64 0]) rfl rfl) ?_)
   intro b38
   refine zbd (cs' := #[.int .i64 ((((D.getD k md0).ms).getD i mm0).a), .int .i64 ((((D.getD k md0).ms).getD i mm0).d), .int .i64 ((((D.getD k md0).ms).getD i mm0).w), .int .i64 ((((D.getD k md0).ms).getD i mm0).o)]) (i := 0) (off := 0) (us := [.int .i64 ((((D.getD k md0).ms).getD i mm0).a), .int .i64 ((((D.getD k md0).ms).getD i mm0).d), .int .i64 ((((D.getD k md0).ms).getD i mm0).w), .int .i64 ((((D.getD k md0).ms).getD i mm0).o)]) rfl rfl rfl rfl rfl rfl rfl (zab rfl (zab rfl (zab rfl (zab rfl zbb)))) rfl rfl rfl (ntQ (srQ (hvQ rfl (zau (cs := [(D.getD k md0).sv, (D.getD k md0).av, (D.getD k md0).iv, (D.getD k md0).mv]) rfl rfl rfl rfl rfl (zaq 1 rfl 0 rfl)) (hvQ rfl (fdQ 0 rfl rfl rfl) (hvQ rfl (zac rfl rfl rfl (zaa 0 rfl rfl)) ?_)))))
   refine zej rfl (zaw rfl rfl (fun w hm => zbe (zel (D.getD k md0) ((((D.getD k md0).ms).getD i mm0).a) w ((hd.at (k := k) (by omega)).below hm.bel)))) (zbp rfl rfl rfl rfl rfl rfl (fun h39 => ?_) (fun h39 => ?_))
   ·
    refine zaz 21 rfl (zaj rfl (zbh 1 rfl ?_))
    refine zap (zad ?_)
    refine zdw ?_
    refine zad (zaf ?_)
    exact zay rfl rfl (congrArg _ (zcb (fun hp => by first | (exact absurd (show CtsP D k from ⟨hp.lt, hp.cnt, hp.ins⟩) (by assumption)) | (have h9 := hp.sg i (by omega); obtain ⟨⟨h1, h2⟩, ⟨h3, h4⟩, ⟨h5, h6⟩, h7⟩ := h9; omega) | (have h9 := hp.dr i (by omega) (by omega); omega) | (exact absurd (hp.gs i (by omega)).2 (by assumption)) | (have h9 := (hp.gs i (by omega)).1; have h8 : ¬ Drv (D.getD k md0) ((D.getD k md0).gs.getD i as0).t := (by assumption); exact h8 (by first | exact .inl (by omega) | exact .inr (by omega))) | (have h9 := (hp.gs i (by omega)).1; have h8 : ¬ Drv (D.getD k md0) ((D.getD k md0).gs.getD i as0).t := (by assumption); unfold Drv at h8; omega) | (have h9 := (hp.xs i (by omega)).1; omega) | (have h9 := ((hp.xs i (by omega)).2 j (by omega)).1; have h8 := (zbs hsgA).2 h9; omega) | (have h9 := ((hp.xs i (by omega)).2 j (by omega)).2 (by omega); exact absurd h9 (by assumption)) | (obtain ⟨⟨h1, h2, h3⟩, h4⟩ := hp.ms i (by omega); have g1 := (zbs hsgA).2 h1; have g2 := (zbs hsgA).2 h2; have g3 := (zbs hsgA).2 h3; first | omega | exact absurd h4 (by assumption)))).symm)
   refine zah 1 rfl (hvQ rfl (zau (cs := [(D.getD k md0).sv, (D.getD k md0).av, (D.getD k md0).iv, (D.getD k md0).mv]) rfl rfl rfl rfl rfl (zaq 1 rfl 0 rfl)) (hvQ rfl (fdQ 1 rfl rfl rfl) (hvQ rfl (zac rfl rfl rfl (zaa 0 rfl rfl)) ?_)))
   refine zej rfl (zaw rfl rfl (fun w hm => zbe (zel (D.getD k md0) ((((D.getD k md0).ms).getD i mm0).d) w ((hd.at (k := k) (by omega)).below hm.bel)))) (zbp rfl rfl rfl rfl rfl rfl (fun h40 => ?_) (fun h40 => ?_))
   ·
    refine enQ 15 rfl ?_
    refine zar (zaj rfl (zbh 1 rfl ?_))
    refine zap (zad ?_)
    refine zdw ?_
    refine zad (zaf ?_)
    exact zay rfl rfl (congrArg _ (zcb (fun hp => by first | (exact absurd (show CtsP D k from ⟨hp.lt, hp.cnt, hp.ins⟩) (by assumption)) | (have h9 := hp.sg i (by omega); obtain ⟨⟨h1, h2⟩, ⟨h3, h4⟩, ⟨h5, h6⟩, h7⟩ := h9; omega) | (have h9 := hp.dr i (by omega) (by omega); omega) | (exact absurd (hp.gs i (by omega)).2 (by assumption)) | (have h9 := (hp.gs i (by omega)).1; have h8 : ¬ Drv (D.getD k md0) ((D.getD k md0).gs.getD i as0).t := (by assumption); exact h8 (by first | exact .inl (by omega) | exact .inr (by omega))) | (have h9 := (hp.gs i (by omega)).1; have h8 : ¬ Drv (D.getD k md0) ((D.getD k md0).gs.getD i as0).t := (by assumption); unfold Drv at h8; omega) | (have h9 := (hp.xs i (by omega)).1; omega) | (have h9 := ((hp.xs i (by omega)).2 j (by omega)).1; have h8 := (zbs hsgA).2 h9; omega) | (have h9 := ((hp.xs i (by omega)).2 j (by omega)).2 (by omega); exact absurd h9 (by assumption)) | (obtain ⟨⟨h1, h2, h3⟩, h4⟩ := hp.ms i (by omega); have g1 := (zbs hsgA).2 h1; have g2 := (zbs hsgA).2 h2; have g3 := (zbs hsgA).2 h3; first | omega | exact absurd h4 (by assumption)))).symm)
   refine zah 2 rfl (hvQ rfl (zau (cs := [(D.getD k md0).sv, (D.getD k md0).av, (D.getD k md0).iv, (D.getD k md0).mv]) rfl rfl rfl rfl rfl (zaq 1 rfl 0 rfl)) (hvQ rfl (fdQ 2 rfl rfl rfl) (hvQ rfl (zac rfl rfl rfl (zaa 0 rfl rfl)) ?_)))
   refine zej rfl (zaw rfl rfl (fun w hm => zbe (zel (D.getD k md0) ((((D.getD k md0).ms).getD i mm0).w) w ((hd.at (k := k) (by omega)).below hm.bel)))) (zbp rfl rfl rfl rfl rfl rfl (fun h41 => ?_) (fun h41 => ?_))
   ·
    refine zaz 8 rfl (zaj rfl (zag (reQ 1 rfl (?_))))
    refine ntQ ?_
    refine zap (zad ?_)
    refine zdw ?_
    refine zad (zaf ?_)
    exact zay rfl rfl (congrArg _ (zcb (fun hp => by first | (exact absurd (show CtsP D k from ⟨hp.lt, hp.cnt, hp.ins⟩) (by assumption)) | (have h9 := hp.sg i (by omega); obtain ⟨⟨h1, h2⟩, ⟨h3, h4⟩, ⟨h5, h6⟩, h7⟩ := h9; omega) | (have h9 := hp.dr i (by omega) (by omega); omega) | (exact absurd (hp.gs i (by omega)).2 (by assumption)) | (have h9 := (hp.gs i (by omega)).1; have h8 : ¬ Drv (D.getD k md0) ((D.getD k md0).gs.getD i as0).t := (by assumption); exact h8 (by first | exact .inl (by omega) | exact .inr (by omega))) | (have h9 := (hp.gs i (by omega)).1; have h8 : ¬ Drv (D.getD k md0) ((D.getD k md0).gs.getD i as0).t := (by assumption); unfold Drv at h8; omega) | (have h9 := (hp.xs i (by omega)).1; omega) | (have h9 := ((hp.xs i (by omega)).2 j (by omega)).1; have h8 := (zbs hsgA).2 h9; omega) | (have h9 := ((hp.xs i (by omega)).2 j (by omega)).2 (by omega); exact absurd h9 (by assumption)) | (obtain ⟨⟨h1, h2, h3⟩, h4⟩ := hp.ms i (by omega); have g1 := (zbs hsgA).2 h1; have g2 := (zbs hsgA).2 h2; have g3 := (zbs hsgA).2 h3; first | omega | exact absurd h4 (by assumption)))).symm)
   refine zah 2 rfl (hvQ rfl (zau (cs := [(D.getD k md0).sv, (D.getD k md0).av, (D.getD k md0).iv, (D.getD k md0).mv]) rfl rfl rfl rfl rfl (zaq 1 rfl 0 rfl)) (hvQ rfl (fdQ 3 rfl rfl rfl) (hvQ rfl (zac rfl rfl rfl (zaa 0 rfl rfl)) ?_)))
   refine zej rfl (zaw rfl rfl (fun w hm => zbe (zfp (D.getD k md0) ((((D.getD k md0).ms).getD i mm0).o) w ((hd.at (k := k) (by omega)).below hm.bel)))) (zbq (fun h42 => ?_) (fun h42 => ?_))
   ·
    have h42p := zfc h42
    refine zaz 2 rfl (fsQ rfl (zde (reQ 1 rfl (hvQ rfl (vaQ rfl rfl rfl) (enQ 1 rfl ?_)))))
    exact zbt (i + 1) ⟨by omega, fun q hq => by by_cases e : q = i; (subst e; exact ⟨⟨(zbs hsgA).1 (by omega), (zbs hsgA).1 (by omega), (zbs hsgA).1 (by omega)⟩, by assumption⟩); exact hms q (by omega)⟩ (by omega) (saQ rfl) (slQ [1, 0] rfl)
   have h42p := zea h42
   refine zaz 2 rfl (zaj rfl (zbh 1 rfl ?_))
   refine zap (zad ?_)
   refine zdw ?_
   refine zad (zaf ?_)
   exact zay rfl rfl (congrArg _ (zcb (fun hp => by first | (exact absurd (show CtsP D k from ⟨hp.lt, hp.cnt, hp.ins⟩) (by assumption)) | (have h9 := hp.sg i (by omega); obtain ⟨⟨h1, h2⟩, ⟨h3, h4⟩, ⟨h5, h6⟩, h7⟩ := h9; omega) | (have h9 := hp.dr i (by omega) (by omega); omega) | (exact absurd (hp.gs i (by omega)).2 (by assumption)) | (have h9 := (hp.gs i (by omega)).1; have h8 : ¬ Drv (D.getD k md0) ((D.getD k md0).gs.getD i as0).t := (by assumption); exact h8 (by first | exact .inl (by omega) | exact .inr (by omega))) | (have h9 := (hp.gs i (by omega)).1; have h8 : ¬ Drv (D.getD k md0) ((D.getD k md0).gs.getD i as0).t := (by assumption); unfold Drv at h8; omega) | (have h9 := (hp.xs i (by omega)).1; omega) | (have h9 := ((hp.xs i (by omega)).2 j (by omega)).1; have h8 := (zbs hsgA).2 h9; omega) | (have h9 := ((hp.xs i (by omega)).2 j (by omega)).2 (by omega); exact absurd h9 (by assumption)) | (obtain ⟨⟨h1, h2, h3⟩, h4⟩ := hp.ms i (by omega); have g1 := (zbs hsgA).2 h1; have g2 := (zbs hsgA).2 h2; have g3 := (zbs hsgA).2 h3; first | omega | exact absurd h4 (by assumption)))).symm)
  refine ntQ (zas rfl ?_)
  refine zbi (zdv ?_)
  refine zal (zar (zbh 1 rfl ?_))
  exact zap (zay rfl rfl (congrArg _ (zdf ⟨hkl, hcnt, hins, hsgA, fun q hq => hgs q (by omega), fun q hq => hxs q (by omega), fun q hq => hms q (by omega), fun q hq => hdr q (by omega)⟩).symm))
 have h2p := zea h2
 refine zaz 1 rfl (zaj rfl (zbh 1 rfl ?_))
 refine zap (zaf ?_)
 exact zay rfl rfl (congrArg _ (zcb (fun hp => by first | (exact absurd (show CtsP D k from ⟨hp.lt, hp.cnt, hp.ins⟩) (by assumption)) | (have h9 := hp.sg i (by omega); obtain ⟨⟨h1, h2⟩, ⟨h3, h4⟩, ⟨h5, h6⟩, h7⟩ := h9; omega) | (have h9 := hp.dr i (by omega) (by omega); omega) | (exact absurd (hp.gs i (by omega)).2 (by assumption)) | (have h9 := (hp.gs i (by omega)).1; have h8 : ¬ Drv (D.getD k md0) ((D.getD k md0).gs.getD i as0).t := (by assumption); exact h8 (by first | exact .inl (by omega) | exact .inr (by omega))) | (have h9 := (hp.gs i (by omega)).1; have h8 : ¬ Drv (D.getD k md0) ((D.getD k md0).gs.getD i as0).t := (by assumption); unfold Drv at h8; omega) | (have h9 := (hp.xs i (by omega)).1; omega) | (have h9 := ((hp.xs i (by omega)).2 j (by omega)).1; have h8 := (zbs hsgA).2 h9; omega) | (have h9 := ((hp.xs i (by omega)).2 j (by omega)).2 (by omega); exact absurd h9 (by assumption)) | (obtain ⟨⟨h1, h2, h3⟩, h4⟩ := hp.ms i (by omega); have g1 := (zbs hsgA).2 h1; have g2 := (zbs hsgA).2 h2; have g3 := (zbs hsgA).2 h3; first | omega | exact absurd h4 (by assumption)))).symm)
theorem specDesignOk_ans (D : List Md) (v : Value) (w : World) (hd : RdsDs w v D) :
   Calls Try.prog 51 #[.agg #[v]] w (Ans w (.bool (pB (DesP D)))) := by
 have hd9 := sml hd.row
 refine zbw (N := 20) (args := [.agg #[v]]) Try.func51 rfl rfl (srQ ?_)
 refine zdk rfl (zda rfl rfl) ?_
 intro b1
 refine zaz 1 rfl (zfh (hvQ rfl (fdQ 0 rfl rfl rfl) (hvQ rfl (zac rfl rfl rfl (zaa 0 rfl rfl)) (hvQ rfl (lnQ rfl rfl rfl (zae hd.row)) ?_))))
 refine zej rfl (zaw rfl rfl (fun w hm => zbe (zgl (D.length : Int) 1 4 w))) (zbq (fun h2 => ?_) (fun h2 => ?_))
 ·
  obtain ⟨h2a, h2b⟩ := (zdd _ _ _).1 h2
  refine zaz 1 rfl (zas rfl (zcy (zag (zbh 1 rfl ?_))))
  refine zba ?_
  refine lkQ1 (α := Nat) [0, 1, 2, 8] rfl (fun k => [boxE b1 #[v] 26]) (fun k => [(3, .int .i64 (k : Int))]) (fun k => k ≤ D.length ∧ ∀ q, q < k → ModP D q) (fun k => D.length - k) 0 ⟨Nat.zero_le _, fun q hq => absurd hq (by omega)⟩ (saQ rfl) (pfQ rfl) ?_
  intro k hi3
  obtain ⟨hk, hall⟩ := hi3
  refine zag (zag (reQ 1 rfl (hvQ rfl (fdQ 0 rfl rfl rfl) (hvQ rfl (zac rfl rfl rfl (zaa 0 rfl rfl)) (hvQ rfl (lnQ rfl rfl rfl (zae hd.row)) ?_)))))
  refine zbp rfl rfl rfl rfl rfl rfl (fun h4 => ?_) (fun h4 => ?_)
  ·
   refine ntQ (zaj rfl (zcy (sbQ (srQ (hvQ rfl (zau (cs := [v]) rfl rfl rfl rfl rfl (zaq 0 rfl 0 rfl)) (zah 1 rfl ?_))))))
   refine zej rfl (zaw rfl rfl (fun w hm => zbe (specModuleOk_ans D k v w (hd.below hm.bel) (by omega)))) (zbq (fun h5 => ?_) (fun h5 => ?_))
   ·
    have h5p := zfc h5
    refine zaz 1 rfl (fsQ rfl (zde (reQ 1 rfl (hvQ rfl (vaQ rfl rfl rfl) (enQ 1 rfl ?_)))))
    exact zbt (k + 1) ⟨by omega, fun q hq => by by_cases e : q = k; (subst e; assumption); exact hall q (by omega)⟩ (by omega) (saQ rfl) (pfQ rfl)
   have h5p := zea h5
   refine zaz 1 rfl (zaj rfl (zbh 1 rfl ?_))
   refine zap (zad ?_)
   refine zdw ?_
   refine zad (zaf ?_)
   exact zay rfl rfl (congrArg _ (zcb (fun hp => by first | (have := hp.1; omega) | (exact absurd (hp.2 k (by omega)) (by assumption)))).symm)
  refine ntQ (zas rfl ?_)
  refine zbi (zdv ?_)
  refine zal (zar (zbh 1 rfl ?_))
  exact zap (zay rfl rfl (congrArg _ (zdf ⟨⟨by omega, by omega⟩, fun q hq => hall q (by omega)⟩).symm))
 have h2a := zcz h2
 refine zaz 1 rfl (zaj rfl (zbh 1 rfl ?_))
 refine zap (zaf ?_)
 exact zay rfl rfl (congrArg _ (zcb (fun hp => by first | (have := hp.1; omega) | (exact absurd (hp.2 k (by omega)) (by assumption)))).symm)
theorem zdz (g : Nat) (a : Option Addr) (len cap : Nat) (z : List Int) (v : Value) (L : List Int) (w0 : World) (l : List HP) (w : World) (hm0 : Mem w0 (curE g a len cap :: l) w) (hb : BRow .u8 w0 a len cap z) (hv : Rd w0 l v 1 L.length (L.map (Value.int .i64))) (hL : 1 ≤ L.length ∧ L.length ≤ 256) :
   Calls Try.prog 85 #[.pointer (some ⟨g, 0, none⟩), v] w (fun e_ w_ => ∃ v_ p_, e_ = .returned v_ ∧ (fun u_ p_ => (∃ x : Int, u_ = .int .i64 x ∧ x ∈ L) ∧ p_ = curE g a len cap) v_ p_ ∧ Mem w0 (p_ :: l) w_) := by
 refine zes (N := 12) (args := [.pointer (some ⟨g, 0, none⟩), v]) Try.func85 rfl rfl hm0 (zbh 1 rfl (zag (reQ 3 rfl ?_)))
 refine hvQ rfl (lnQ rfl rfl rfl (fun w hm => hv w (hm.sub (.cons _ (.refl _))))) (zcm (R := (fun u_ p_ => (∃ x_ : Int, u_ = .int .i64 x_ ∧ 0 ≤ x_ ∧ x_ < (L.length : Int)) ∧ p_ = curE g a len cap)) 0 rfl rfl rfl rfl rfl (fun l' w hm => zce g a len cap z (L.length : Int) _ _ _ hm hb (by constructor <;> omega)) ?_)
 intro v1 p2 hR3
 obtain ⟨⟨xhR3, rfl, xhR30, xhR31⟩, rfl⟩ := hR3
 refine zcs (l' := (curE g a len cap :: l)) rfl ?_
 refine hvQ rfl (riQ 1 rfl rfl rfl rfl (fun w hm => hv w (hm.sub (.cons _ (.refl _))))) (hvQ rfl (lzQ rfl rfl rfl (fun w hm => hv w (hm.sub (.cons _ (.refl _))))) ?_)
 refine zaz 1 rfl ?_
 exact zap (zdb (rs := [.tmp 4]) (vs := [.int .i64 (L.getD ((xhR3).toNat) 0)]) rfl ⟨rfl, trivial⟩ rfl (fun w hm => ⟨_, curE g a len cap, rfl, ⟨⟨_, rfl, getD_mem' (es := L) (d := 0) (by omega)⟩, rfl⟩, hm.sub (.refl _)⟩))
theorem l04Expr_step (g : Nat) (a : Option Addr) (len cap : Nat) (z : List Int) (n : Int) (u : Value) (A : List Int) (M : Int) (w0 : World) (l : List HP) (w : World) (hm0 : Mem w0 (curE g a len cap :: l) w) (hb : BRow .u8 w0 a len cap z) (hu : Rd w0 l u 1 A.length (A.map (Value.int .i64))) (hA : ∀ x ∈ A, 0 ≤ x ∧ x < n) (hAl : A.length ≤ 100) (hM : 1 ≤ M ∧ M ≤ 15) (IH : ∀ (q : Int), 1 ≤ q → q < M → ∀ (l2 : List HP) (w2 : World), Mem w0 (curE g a len cap :: l2) w2 → Rd w0 l2 u 1 A.length (A.map (Value.int .i64)) → Calls Try.prog 86 #[.pointer (some ⟨g, 0, none⟩), u, .int .i64 (q)] w2 (fun e_ w_ => ∃ v_ p_, e_ = .returned v_ ∧ (fun u_ p_ => ∃ os : List Oq, p_ = bigE [curE g a len cap, rowE 97 3 u_ os.length (os.flatMap oqC)] ∧ ExP n q os) v_ p_ ∧ Mem w0 (p_ :: l2) w_)) :
   Calls Try.prog 86 #[.pointer (some ⟨g, 0, none⟩), u, .int .i64 M] w (fun e_ w_ => ∃ v_ p_, e_ = .returned v_ ∧ (fun u_ p_ => ∃ os : List Oq, p_ = bigE [curE g a len cap, rowE 97 3 u_ os.length (os.flatMap oqC)] ∧ ExP n M os) v_ p_ ∧ Mem w0 (p_ :: l) w_) := by
 refine zes (N := 85) (args := [.pointer (some ⟨g, 0, none⟩), u, .int .i64 M]) Try.func86 rfl rfl hm0 (zbh 1 rfl (zag (zag (reQ 1 rfl ?_))))
 refine zbp rfl rfl rfl rfl rfl rfl (fun h1 => ?_) (fun h1 => ?_)
 ·
  refine zaz 4 rfl (zaj rfl (zag (zag (reQ 1 rfl ?_))))
  refine zcm (R := (fun u_ p_ => (∃ x_ : Int, u_ = .int .i64 x_ ∧ 0 ≤ x_ ∧ x_ < 8) ∧ p_ = curE g a len cap)) 0 rfl rfl rfl rfl rfl (fun l' w hm => zce g a len cap z 8 _ _ _ hm hb (by constructor <;> omega)) ?_
  intro v2 p3 hR4
  obtain ⟨⟨xhR4, rfl, xhR40, xhR41⟩, rfl⟩ := hR4
  refine zcs (l' := (curE g a len cap :: l)) rfl ?_
  refine ntQ (zba (srQ ?_))
  refine zbu rfl rfl rfl rfl rfl rfl (fun h5 => ?_) (fun h5 => ?_)
  ·
   refine zaz 1 rfl (zaj rfl (zag (reQ 1 rfl ?_)))
   refine zcm (R := (fun u_ p_ => (∃ x_ : Int, u_ = .int .i64 x_ ∧ 0 ≤ x_ ∧ x_ < 16) ∧ p_ = curE g a len cap)) 0 rfl rfl rfl rfl rfl (fun l' w hm => zce g a len cap z 16 _ _ _ hm hb (by constructor <;> omega)) ?_
   intro v6 p7 hR8
   obtain ⟨⟨xhR8, rfl, xhR80, xhR81⟩, rfl⟩ := hR8
   refine zcs (l' := (curE g a len cap :: l)) rfl ?_
   refine hvQ rfl (zbl (cs := #[.int .i64 0, .int .i64 xhR8, .int .i64 0]) rfl rfl rfl) (zdu rfl (zan (z := .agg #[.int .i64 0, .int .i64 0, .int .i64 0]) (s := 3) (cs := ([0, xhR8, 0].map (Value.int .i64))) rfl Try.underlying71 rfl (by decide) rfl (by kernel_rfl) rfl) ?_)
   intro g9
   refine zaz 1 rfl ?_
   refine zap (zad ?_)
   refine zdw ?_
   refine zbk 2 [0, 1] rfl rfl (by decide) ?_
   refine zcf 2 rfl ?_
   exact zdb (rs := [.tmp 6]) (vs := [.slice (some ⟨g9, 0, none⟩) 1 1]) rfl ⟨rfl, trivial⟩ rfl (fun w hm => ⟨_, bigE [curE g a len cap, rowE 97 3 (.slice (some ⟨g9, 0, none⟩) 1 1) 1 ([0, xhR8, 0].map (Value.int .i64))], rfl, ⟨[Oq.mk 0 xhR8 0], rfl, zdm (by first | exact .inl ⟨rfl, ⟨by dsimp only; omega, by dsimp only; omega⟩, rfl⟩ | exact .inr (.inl ⟨rfl, ⟨by dsimp only; omega, by dsimp only; omega⟩, rfl⟩) | exact .inr (.inr (.inl ⟨rfl, ⟨by dsimp only; omega, by dsimp only; omega⟩, by dsimp only; omega, by dsimp only; omega⟩)) | exact .inr (.inr (.inr ⟨by decide, by decide, by decide, by decide, rfl, rfl⟩))) rfl (by omega)⟩, hm.sub (.refl _)⟩)
  refine zaz 1 rfl (zas rfl (srQ ?_))
  refine zbu rfl rfl rfl rfl rfl rfl (fun h10 => ?_) (fun h10 => ?_)
  ·
   refine zaz 1 rfl (zaj rfl (zag (reQ 1 rfl ?_)))
   refine zcm (R := (fun u_ p_ => (∃ b : Bool, u_ = .bool b) ∧ p_ = curE g a len cap)) 0 rfl rfl rfl rfl rfl (fun l' w hm => once_mut hm hb (3) (by omega) (by omega)) ?_
   intro v11 p12 hR13
   obtain ⟨⟨xhR13, rfl⟩, rfl⟩ := hR13
   refine zcs (l' := (curE g a len cap :: l)) rfl ?_
   refine zbq (fun h14 => ?_) (fun h14 => ?_)
   ·
    refine ntQ (zaj rfl (srQ (hvQ rfl (zbl (cs := #[.int .i64 1, .int .i64 0, .int .i64 0]) rfl rfl rfl) ?_)))
    refine zdu rfl (zan (z := .agg #[.int .i64 0, .int .i64 0, .int .i64 0]) (s := 3) (cs := ([1, 0, 0].map (Value.int .i64))) rfl Try.underlying71 rfl (by decide) rfl (by kernel_rfl) rfl) ?_
    intro g15
    refine zaz 1 rfl ?_
    refine zap (zad ?_)
    refine zdw ?_
    refine zbk 2 [0, 1] rfl rfl (by decide) ?_
    refine zcf 2 rfl ?_
    exact zdb (rs := [.tmp 6]) (vs := [.slice (some ⟨g15, 0, none⟩) 1 1]) rfl ⟨rfl, trivial⟩ rfl (fun w hm => ⟨_, bigE [curE g a len cap, rowE 97 3 (.slice (some ⟨g15, 0, none⟩) 1 1) 1 ([1, 0, 0].map (Value.int .i64))], rfl, ⟨[Oq.mk 1 0 0], rfl, zdm (by first | exact .inl ⟨rfl, ⟨by dsimp only; omega, by dsimp only; omega⟩, rfl⟩ | exact .inr (.inl ⟨rfl, ⟨by dsimp only; omega, by dsimp only; omega⟩, rfl⟩) | exact .inr (.inr (.inl ⟨rfl, ⟨by dsimp only; omega, by dsimp only; omega⟩, by dsimp only; omega, by dsimp only; omega⟩)) | exact .inr (.inr (.inr ⟨by decide, by decide, by decide, by decide, rfl, rfl⟩))) rfl (by omega)⟩, hm.sub (.refl _)⟩)
   refine ntQ (fsQ rfl (zde (zag (zag (reQ 1 rfl ?_)))))
   refine hvQ rfl (lnQ rfl rfl rfl (fun w hm => hu w (hm.sub (.cons _ (.refl _))))) (zbu rfl rfl rfl rfl rfl rfl (fun h16 => ?_) (fun h16 => ?_))
   ·
    refine ntQ (zaj rfl (srQ (hvQ rfl (zbl (cs := #[.int .i64 0, .int .i64 1, .int .i64 0]) rfl rfl rfl) ?_)))
    refine zdu rfl (zan (z := .agg #[.int .i64 0, .int .i64 0, .int .i64 0]) (s := 3) (cs := ([0, 1, 0].map (Value.int .i64))) rfl Try.underlying71 rfl (by decide) rfl (by kernel_rfl) rfl) ?_
    intro g17
    refine zaz 1 rfl ?_
    refine zap (zdw ?_)
    refine zbk 2 [0, 1] rfl rfl (by decide) ?_
    refine zcf 2 rfl ?_
    exact zdb (rs := [.tmp 6]) (vs := [.slice (some ⟨g17, 0, none⟩) 1 1]) rfl ⟨rfl, trivial⟩ rfl (fun w hm => ⟨_, bigE [curE g a len cap, rowE 97 3 (.slice (some ⟨g17, 0, none⟩) 1 1) 1 ([0, 1, 0].map (Value.int .i64))], rfl, ⟨[Oq.mk 0 1 0], rfl, zdm (by first | exact .inl ⟨rfl, ⟨by dsimp only; omega, by dsimp only; omega⟩, rfl⟩ | exact .inr (.inl ⟨rfl, ⟨by dsimp only; omega, by dsimp only; omega⟩, rfl⟩) | exact .inr (.inr (.inl ⟨rfl, ⟨by dsimp only; omega, by dsimp only; omega⟩, by dsimp only; omega, by dsimp only; omega⟩)) | exact .inr (.inr (.inr ⟨by decide, by decide, by decide, by decide, rfl, rfl⟩))) rfl (by omega)⟩, hm.sub (.refl _)⟩)
   refine ntQ (zas rfl (zcy (zag (reQ 3 rfl ?_))))
   refine hvQ rfl (lnQ rfl rfl rfl (fun w hm => hu w (hm.sub (.cons _ (.refl _))))) (zcm (R := (fun u_ p_ => (∃ x_ : Int, u_ = .int .i64 x_ ∧ 0 ≤ x_ ∧ x_ < (A.length : Int)) ∧ p_ = curE g a len cap)) 0 rfl rfl rfl rfl rfl (fun l' w hm => zce g a len cap z (A.length : Int) _ _ _ hm hb (by constructor <;> omega)) ?_)
   intro v18 p19 hR20
   obtain ⟨⟨xhR20, rfl, xhR200, xhR201⟩, rfl⟩ := hR20
   refine zcs (l' := (curE g a len cap :: l)) rfl ?_
   refine hvQ rfl (riQ 1 rfl rfl rfl rfl (fun w hm => hu w (hm.sub (.cons _ (.refl _))))) (hvQ rfl (lzQ rfl rfl rfl (fun w hm => hu w (hm.sub (.cons _ (.refl _))))) ?_)
   refine hvQ rfl (zbl (cs := #[.int .i64 2, .int .i64 (A.getD ((xhR20).toNat) 0), .int .i64 0]) rfl rfl rfl) (zdu rfl (zan (z := .agg #[.int .i64 0, .int .i64 0, .int .i64 0]) (s := 3) (cs := ([2, A.getD ((xhR20).toNat) 0, 0].map (Value.int .i64))) rfl Try.underlying71 rfl (by decide) rfl (by kernel_rfl) rfl) ?_)
   intro g21
   refine zaz 1 rfl ?_
   refine zap (zaf ?_)
   have hA8 := hA _ (zch (d := (0 : Int)) (show xhR20.toNat < A.length by omega))
   refine zbk 2 [0, 1] rfl rfl (by decide) ?_
   refine zcf 2 rfl ?_
   exact zdb (rs := [.tmp 6]) (vs := [.slice (some ⟨g21, 0, none⟩) 1 1]) rfl ⟨rfl, trivial⟩ rfl (fun w hm => ⟨_, bigE [curE g a len cap, rowE 97 3 (.slice (some ⟨g21, 0, none⟩) 1 1) 1 ([2, A.getD ((xhR20).toNat) 0, 0].map (Value.int .i64))], rfl, ⟨[Oq.mk 2 (A.getD ((xhR20).toNat) 0) 0], rfl, zdm (by first | exact .inl ⟨rfl, ⟨by dsimp only; omega, by dsimp only; omega⟩, rfl⟩ | exact .inr (.inl ⟨rfl, ⟨by dsimp only; omega, by dsimp only; omega⟩, rfl⟩) | exact .inr (.inr (.inl ⟨rfl, ⟨by dsimp only; omega, by dsimp only; omega⟩, by dsimp only; omega, by dsimp only; omega⟩)) | exact .inr (.inr (.inr ⟨by decide, by decide, by decide, by decide, rfl, rfl⟩))) rfl (by omega)⟩, hm.sub (.refl _)⟩)
  refine zaz 1 rfl (zas rfl (zfh ?_))
  refine zbu rfl rfl rfl rfl rfl rfl (fun h22 => ?_) (fun h22 => ?_)
  ·
   refine zaz 1 rfl (zaj rfl (zcy (zaj rfl (zag (reQ 1 rfl ?_)))))
   refine hvQ rfl (lnQ rfl rfl rfl (fun w hm => hu w (hm.sub (.cons _ (.refl _))))) (zec rfl rfl rfl rfl rfl rfl (fun h23 => ?_) (fun h23 => ?_))
   ·
    refine ntQ (zaj rfl (zag ?_))
    refine zeu (l := (l)) rfl 11 [0, 1, 2, 3, 4, 5, 6, 7, 8, 9, 10] (List.take 11 _) (List.drop 11 _) [[], [], [], [2], [1, 3], [0, 4], [4, 5], [], [4, 7], [4, 6, 8], [4, 8, 9]] [37, 38, 39, 40, 41, 42, 43, 44, 45, 46, 47] (fun i_ vs_ v_ p_ => match i_ with | 0 => v_ = u ∧ p_ = [] | 1 => v_ = .pointer (some ⟨g, 0, none⟩) ∧ p_ = [] | 2 => v_ = u ∧ p_ = [] | 3 => v_ = .int .i64 (A.length : Int) ∧ p_ = [] | 4 => (∃ pm_, p_ = [pm_] ∧ (fun u_ p_ => (∃ x_ : Int, u_ = .int .i64 x_ ∧ 0 ≤ x_ ∧ x_ < (A.length : Int)) ∧ p_ = curE g a len cap) v_ pm_) | 5 => v_ = elP u (((intOf_o (List.getD vs_ 1 undef))).toNat * 1) ∧ p_ = [] | 6 => v_ = .int .i64 (A.getD (((intOf_o (List.getD vs_ 0 undef))).toNat) 0) ∧ p_ = [] | 7 => v_ = .pointer (some ⟨g, 0, none⟩) ∧ p_ = [] | 8 => (∃ pm_, p_ = [pm_] ∧ (fun u_ p_ => (∃ x_ : Int, u_ = .int .i64 x_ ∧ 0 ≤ x_ ∧ x_ < 2) ∧ p_ = curE g a len cap) v_ pm_) | 9 => v_ = .agg #[.int .i64 3, .int .i64 (A.getD (((intOf_o (List.getD vs_ 0 undef))).toNat) 0), .int .i64 (intOf_o (List.getD vs_ 2 undef))] ∧ p_ = [] | 10 => IsRow 97 3 1 ([3, A.getD (((intOf_o (List.getD vs_ 0 undef))).toNat) 0, (intOf_o (List.getD vs_ 1 undef))].map (Value.int .i64)) v_ p_ | _ => True) [[], [], [], [2], [1, 3], [0], [5], [], [7], [6, 8], [8, 9]] [none, none, none, none, some 12, none, none, none, some 4, none, none] [curE g a len cap] [0, 1, 2, 3, 5, 6, 7, 8, 9, 10] 12 (List.take_append_drop 11 _).symm (by kernel_rfl) (by kernel_rfl) (by kernel_rfl) rfl rfl ?_ ?_
    ·
     refine ⟨?_, ?_, ?_, ?_, ?_, ?_, ?_, ?_, ?_, ?_, ?_, trivial⟩
     ·
      intro vf pf hmu hR
      refine dqQ [] [] rfl (zcd (zav [1] rfl) ?_)
      exact zbz (zax rfl)
     ·
      intro vf pf hmu hR
      refine dqQ [] [] rfl (zcd (zav [0] rfl) ?_)
      exact zbz (zax rfl)
     ·
      intro vf pf hmu hR
      refine dqQ [] [] rfl (zcd (zav [1] rfl) ?_)
      exact zbz (zax rfl)
     ·
      intro vf pf hmu hR
      have e2 := hR 2 (by decide)
      refine dqQ [2] [2] rfl (zbm (sk 39 (congrArg some e2.1) (zam _)) (List.sublist_append_right _ _) ?_)
      exact zbz (lnQ rfl rfl rfl (fun w hm => hu w (hm.sub (.refl _))))
     ·
      intro vf pf hmu hR
      have e1 := hR 1 (by decide)
      have e3 := hR 3 (by decide)
      refine Or.inl ⟨rfl, ?_⟩
      show RunM _ _ _ (pf 12) (([1, 3] : List Nat).flatMap pf ++ _) (envOf _ vf [1, 3] ++ _) _ _
      rw [hmu]
      exact zdn (sk 38 (congrArg some e1.1) (sk 40 (congrArg some e3.1) (zam _))) (by simp only [e1.2, e3.2, fS] <;> rfl) (zdr (R := (fun u_ p_ => (∃ x_ : Int, u_ = .int .i64 x_ ∧ 0 ≤ x_ ∧ x_ < (A.length : Int)) ∧ p_ = curE g a len cap)) rfl rfl (fun L w hX hm => zce g a len cap z (A.length : Int) _ _ _ hm hb (by constructor <;> omega)))
     ·
      intro vf pf hmu hR
      have e0 := hR 0 (by decide)
      have e4 : (∃ pm_, (pf 4) = [pm_] ∧ (fun u_ p_ => (∃ x_ : Int, u_ = .int .i64 x_ ∧ 0 ≤ x_ ∧ x_ < (A.length : Int)) ∧ p_ = curE g a len cap) (vf 4) pm_) := hR 4 (by decide)
      obtain ⟨p25, pE4, hR26⟩ := e4
      obtain ⟨v24, vE4⟩ : ∃ x, vf 4 = x := ⟨_, rfl⟩
      rw [vE4] at hR26
      obtain ⟨⟨xhR26, rfl, xhR260, xhR261⟩, rfl⟩ := hR26
      refine dqQ [0] [0, 4] rfl (zbm (sk 37 (congrArg some e0.1) (sk 41 (congrArg some vE4) (zam _))) (List.sublist_append_right _ _) ?_)
      exact zct (zbz (riQ 1 rfl rfl rfl rfl (fun w hm => hu w (hm.sub (.refl _))))) (fun _ _ h => ⟨h.1.trans (by show _ = (elP u (((intOf_o (vf 4))).toNat * 1) : Value); first | (rw [vE4]; done) | (rw [vE4]; rfl)), h.2⟩)
     ·
      intro vf pf hmu hR
      have e4 : (∃ pm_, (pf 4) = [pm_] ∧ (fun u_ p_ => (∃ x_ : Int, u_ = .int .i64 x_ ∧ 0 ≤ x_ ∧ x_ < (A.length : Int)) ∧ p_ = curE g a len cap) (vf 4) pm_) := hR 4 (by decide)
      obtain ⟨p25, pE4, hR26⟩ := e4
      obtain ⟨v24, vE4⟩ : ∃ x, vf 4 = x := ⟨_, rfl⟩
      rw [vE4] at hR26
      obtain ⟨⟨xhR26, rfl, xhR260, xhR261⟩, rfl⟩ := hR26
      have e5 : (vf 5) = elP u (((intOf_o (vf 4))).toNat * 1) ∧ (pf 5) = [] := hR 5 (by decide)
      rw [vE4] at e5; try simp only [intOf_o] at e5
      refine dqQ [5] [4, 5] rfl (zbm (sk 42 (congrArg some e5.1) (zam _)) (List.sublist_append_right _ _) ?_)
      exact zct (zbz (lzQ rfl rfl rfl (fun w hm => hu w (hm.sub (.refl _))))) (fun _ _ h => ⟨h.1.trans (by show _ = (.int .i64 (A.getD (((intOf_o (vf 4))).toNat) 0) : Value); first | (rw [vE4]; done) | (rw [vE4]; rfl)), h.2⟩)
     ·
      intro vf pf hmu hR
      refine dqQ [] [] rfl (zcd (zav [0] rfl) ?_)
      exact zbz (zax rfl)
     ·
      intro vf pf hmu hR
      have e4 : (∃ pm_, (pf 4) = [pm_] ∧ (fun u_ p_ => (∃ x_ : Int, u_ = .int .i64 x_ ∧ 0 ≤ x_ ∧ x_ < (A.length : Int)) ∧ p_ = curE g a len cap) (vf 4) pm_) := hR 4 (by decide)
      obtain ⟨p25, pE4, hR26⟩ := e4
      obtain ⟨v24, vE4⟩ : ∃ x, vf 4 = x := ⟨_, rfl⟩
      rw [vE4] at hR26
      obtain ⟨⟨xhR26, rfl, xhR260, xhR261⟩, rfl⟩ := hR26
      have e7 := hR 7 (by decide)
      refine Or.inl ⟨rfl, ?_⟩
      show RunM _ _ _ (pf 4) (([7] : List Nat).flatMap pf ++ _) (envOf _ vf [4, 7] ++ _) _ _
      rw [pE4]
      exact zdn (sk 44 (congrArg some e7.1) (zam _)) (by simp only [e7.2, fS] <;> rfl) (zdr (R := (fun u_ p_ => (∃ x_ : Int, u_ = .int .i64 x_ ∧ 0 ≤ x_ ∧ x_ < 2) ∧ p_ = curE g a len cap)) rfl rfl (fun L w hX hm => zce g a len cap z 2 _ _ _ hm hb (by constructor <;> omega)))
     ·
      intro vf pf hmu hR
      have e4 : (∃ pm_, (pf 4) = [pm_] ∧ (fun u_ p_ => (∃ x_ : Int, u_ = .int .i64 x_ ∧ 0 ≤ x_ ∧ x_ < (A.length : Int)) ∧ p_ = curE g a len cap) (vf 4) pm_) := hR 4 (by decide)
      obtain ⟨p25, pE4, hR26⟩ := e4
      obtain ⟨v24, vE4⟩ : ∃ x, vf 4 = x := ⟨_, rfl⟩
      rw [vE4] at hR26
      obtain ⟨⟨xhR26, rfl, xhR260, xhR261⟩, rfl⟩ := hR26
      have e6 : (vf 6) = .int .i64 (A.getD (((intOf_o (vf 4))).toNat) 0) ∧ (pf 6) = [] := hR 6 (by decide)
      rw [vE4] at e6; try simp only [intOf_o] at e6
      have e8 : (∃ pm_, (pf 8) = [pm_] ∧ (fun u_ p_ => (∃ x_ : Int, u_ = .int .i64 x_ ∧ 0 ≤ x_ ∧ x_ < 2) ∧ p_ = curE g a len cap) (vf 8) pm_) := hR 8 (by decide)
      obtain ⟨p28, pE8, hR29⟩ := e8
      obtain ⟨v27, vE8⟩ : ∃ x, vf 8 = x := ⟨_, rfl⟩
      rw [vE8] at hR29
      obtain ⟨⟨xhR29, rfl, xhR290, xhR291⟩, rfl⟩ := hR29
      refine dqQ [6, 8] [4, 6, 8] rfl (zco (sk 43 (congrArg some e6.1) (sk 45 (congrArg some vE8) (zam _))) (by simp only [pE8, vE8, e6.2, fS] <;> rfl) ?_)
      exact zct (zbz (zbl (cs := #[.int .i64 3, .int .i64 (A.getD ((xhR26).toNat) 0), .int .i64 xhR29]) rfl rfl rfl)) (fun _ _ h => ⟨h.1.trans (by show _ = (.agg #[.int .i64 3, .int .i64 (A.getD (((intOf_o (vf 4))).toNat) 0), .int .i64 (intOf_o (vf 8))] : Value); first | (rw [vE4, vE8]; done) | (rw [vE4, vE8]; rfl)), h.2⟩)
     intro vf pf hmu hR
     have e4 : (∃ pm_, (pf 4) = [pm_] ∧ (fun u_ p_ => (∃ x_ : Int, u_ = .int .i64 x_ ∧ 0 ≤ x_ ∧ x_ < (A.length : Int)) ∧ p_ = curE g a len cap) (vf 4) pm_) := hR 4 (by decide)
     obtain ⟨p25, pE4, hR26⟩ := e4
     obtain ⟨v24, vE4⟩ : ∃ x, vf 4 = x := ⟨_, rfl⟩
     rw [vE4] at hR26
     obtain ⟨⟨xhR26, rfl, xhR260, xhR261⟩, rfl⟩ := hR26
     have e8 : (∃ pm_, (pf 8) = [pm_] ∧ (fun u_ p_ => (∃ x_ : Int, u_ = .int .i64 x_ ∧ 0 ≤ x_ ∧ x_ < 2) ∧ p_ = curE g a len cap) (vf 8) pm_) := hR 8 (by decide)
     obtain ⟨p28, pE8, hR29⟩ := e8
     obtain ⟨v27, vE8⟩ : ∃ x, vf 8 = x := ⟨_, rfl⟩
     rw [vE8] at hR29
     obtain ⟨⟨xhR29, rfl, xhR290, xhR291⟩, rfl⟩ := hR29
     have e9 : (vf 9) = .agg #[.int .i64 3, .int .i64 (A.getD (((intOf_o (vf 4))).toNat) 0), .int .i64 (intOf_o (vf 8))] ∧ (pf 9) = [] := hR 9 (by decide)
     rw [vE4, vE8] at e9; try simp only [intOf_o] at e9
     refine dqQ [8, 9] [4, 8, 9] rfl (zco (sk 46 (congrArg some e9.1) (zam _)) (by simp only [pE8, vE8, e9.2, fS] <;> rfl) ?_)
     exact zct (zan (z := .agg #[.int .i64 0, .int .i64 0, .int .i64 0]) (s := 3) (cs := ([3, A.getD ((xhR26).toNat) 0, xhR29].map (Value.int .i64))) rfl Try.underlying71 rfl (by decide) rfl (by kernel_rfl) rfl) (fun v_ p_ h => by show IsRow 97 3 1 ([3, A.getD (((intOf_o (vf 4))).toNat) 0, (intOf_o (vf 8))].map (Value.int .i64)) v_ p_; rw [vE4, vE8]; exact h)
    intro vf pf hmu hR
    have e4 : (∃ pm_, (pf 4) = [pm_] ∧ (fun u_ p_ => (∃ x_ : Int, u_ = .int .i64 x_ ∧ 0 ≤ x_ ∧ x_ < (A.length : Int)) ∧ p_ = curE g a len cap) (vf 4) pm_) := hR 4 (by decide)
    obtain ⟨p25, pE4, hR26⟩ := e4
    obtain ⟨v24, vE4⟩ : ∃ x, vf 4 = x := ⟨_, rfl⟩
    rw [vE4] at hR26
    obtain ⟨⟨xhR26, rfl, xhR260, xhR261⟩, rfl⟩ := hR26
    have e8 : (∃ pm_, (pf 8) = [pm_] ∧ (fun u_ p_ => (∃ x_ : Int, u_ = .int .i64 x_ ∧ 0 ≤ x_ ∧ x_ < 2) ∧ p_ = curE g a len cap) (vf 8) pm_) := hR 8 (by decide)
    obtain ⟨p28, pE8, hR29⟩ := e8
    obtain ⟨v27, vE8⟩ : ∃ x, vf 8 = x := ⟨_, rfl⟩
    rw [vE8] at hR29
    obtain ⟨⟨xhR29, rfl, xhR290, xhR291⟩, rfl⟩ := hR29
    have e10 : IsRow 97 3 1 ([3, A.getD (((intOf_o (vf 4))).toNat) 0, (intOf_o (vf 8))].map (Value.int .i64)) (vf 10) (pf 10) := hR 10 (by decide)
    rw [vE4, vE8] at e10; try simp only [intOf_o] at e10
    obtain ⟨g30, vE10, pE10⟩ := e10
    have q0 := hR 0 (by decide)
    have q1 := hR 1 (by decide)
    have q2 := hR 2 (by decide)
    have q3 := hR 3 (by decide)
    have q5 := hR 5 (by decide)
    have q6 := hR 6 (by decide)
    have q7 := hR 7 (by decide)
    have q9 := hR 9 (by decide)
    refine zdj (zcu [36, 31, 25, 19, 18, 16, 6, 2, 1, 0] _ (sk 47 (congrArg some vE10) (zam _)) rfl) (by simp only [pE8, vE8, pE10, vE10, q0.2, q1.2, q2.2, q3.2, q5.2, q6.2, q7.2, q9.2, fS] <;> rfl) ?_
    simp only [List.drop_succ_cons, List.drop_zero]
    refine zaz 1 rfl ?_
    refine zap (zad ?_)
    refine zdw ?_
    have hA8 := hA _ (zch (d := (0 : Int)) (show xhR26.toNat < A.length by omega))
    refine zbk 2 [1, 0] rfl rfl (by decide) ?_
    refine zcf 2 rfl ?_
    exact zdb (rs := [.tmp 6]) (vs := [.slice (some ⟨g30, 0, none⟩) 1 1]) rfl ⟨rfl, trivial⟩ rfl (fun w hm => ⟨_, bigE [curE g a len cap, rowE 97 3 (.slice (some ⟨g30, 0, none⟩) 1 1) 1 ([3, A.getD ((xhR26).toNat) 0, xhR29].map (Value.int .i64))], rfl, ⟨[Oq.mk 3 (A.getD ((xhR26).toNat) 0) xhR29], rfl, zdm (by first | exact .inl ⟨rfl, ⟨by dsimp only; omega, by dsimp only; omega⟩, rfl⟩ | exact .inr (.inl ⟨rfl, ⟨by dsimp only; omega, by dsimp only; omega⟩, rfl⟩) | exact .inr (.inr (.inl ⟨rfl, ⟨by dsimp only; omega, by dsimp only; omega⟩, by dsimp only; omega, by dsimp only; omega⟩)) | exact .inr (.inr (.inr ⟨by decide, by decide, by decide, by decide, rfl, rfl⟩))) rfl (by omega)⟩, hm.sub (.refl _)⟩)
   refine ntQ (fsQ rfl (zde (zag (zag (reQ 1 rfl ?_)))))
   refine hvQ rfl (lnQ rfl rfl rfl (fun w hm => hu w (hm.sub (.cons _ (.refl _))))) (zbu rfl rfl rfl rfl rfl rfl (fun h31 => ?_) (fun h31 => ?_))
   ·
    refine ntQ (zaj rfl (srQ (hvQ rfl (zbl (cs := #[.int .i64 0, .int .i64 1, .int .i64 0]) rfl rfl rfl) ?_)))
    refine zdu rfl (zan (z := .agg #[.int .i64 0, .int .i64 0, .int .i64 0]) (s := 3) (cs := ([0, 1, 0].map (Value.int .i64))) rfl Try.underlying71 rfl (by decide) rfl (by kernel_rfl) rfl) ?_
    intro g32
    refine zaz 1 rfl ?_
    refine zap (zdw ?_)
    refine zbk 2 [0, 1] rfl rfl (by decide) ?_
    refine zcf 2 rfl ?_
    exact zdb (rs := [.tmp 6]) (vs := [.slice (some ⟨g32, 0, none⟩) 1 1]) rfl ⟨rfl, trivial⟩ rfl (fun w hm => ⟨_, bigE [curE g a len cap, rowE 97 3 (.slice (some ⟨g32, 0, none⟩) 1 1) 1 ([0, 1, 0].map (Value.int .i64))], rfl, ⟨[Oq.mk 0 1 0], rfl, zdm (by first | exact .inl ⟨rfl, ⟨by dsimp only; omega, by dsimp only; omega⟩, rfl⟩ | exact .inr (.inl ⟨rfl, ⟨by dsimp only; omega, by dsimp only; omega⟩, rfl⟩) | exact .inr (.inr (.inl ⟨rfl, ⟨by dsimp only; omega, by dsimp only; omega⟩, by dsimp only; omega, by dsimp only; omega⟩)) | exact .inr (.inr (.inr ⟨by decide, by decide, by decide, by decide, rfl, rfl⟩))) rfl (by omega)⟩, hm.sub (.refl _)⟩)
   refine ntQ (zas rfl (zcy (zag (reQ 3 rfl ?_))))
   refine hvQ rfl (lnQ rfl rfl rfl (fun w hm => hu w (hm.sub (.cons _ (.refl _))))) (zcm (R := (fun u_ p_ => (∃ x_ : Int, u_ = .int .i64 x_ ∧ 0 ≤ x_ ∧ x_ < (A.length : Int)) ∧ p_ = curE g a len cap)) 0 rfl rfl rfl rfl rfl (fun l' w hm => zce g a len cap z (A.length : Int) _ _ _ hm hb (by constructor <;> omega)) ?_)
   intro v33 p34 hR35
   obtain ⟨⟨xhR35, rfl, xhR350, xhR351⟩, rfl⟩ := hR35
   refine zcs (l' := (curE g a len cap :: l)) rfl ?_
   refine hvQ rfl (riQ 1 rfl rfl rfl rfl (fun w hm => hu w (hm.sub (.cons _ (.refl _))))) (hvQ rfl (lzQ rfl rfl rfl (fun w hm => hu w (hm.sub (.cons _ (.refl _))))) ?_)
   refine hvQ rfl (zbl (cs := #[.int .i64 2, .int .i64 (A.getD ((xhR35).toNat) 0), .int .i64 0]) rfl rfl rfl) (zdu rfl (zan (z := .agg #[.int .i64 0, .int .i64 0, .int .i64 0]) (s := 3) (cs := ([2, A.getD ((xhR35).toNat) 0, 0].map (Value.int .i64))) rfl Try.underlying71 rfl (by decide) rfl (by kernel_rfl) rfl) ?_)
   intro g36
   refine zaz 1 rfl ?_
   refine zap (zaf ?_)
   have hA8 := hA _ (zch (d := (0 : Int)) (show xhR35.toNat < A.length by omega))
   refine zbk 2 [0, 1] rfl rfl (by decide) ?_
   refine zcf 2 rfl ?_
   exact zdb (rs := [.tmp 6]) (vs := [.slice (some ⟨g36, 0, none⟩) 1 1]) rfl ⟨rfl, trivial⟩ rfl (fun w hm => ⟨_, bigE [curE g a len cap, rowE 97 3 (.slice (some ⟨g36, 0, none⟩) 1 1) 1 ([2, A.getD ((xhR35).toNat) 0, 0].map (Value.int .i64))], rfl, ⟨[Oq.mk 2 (A.getD ((xhR35).toNat) 0) 0], rfl, zdm (by first | exact .inl ⟨rfl, ⟨by dsimp only; omega, by dsimp only; omega⟩, rfl⟩ | exact .inr (.inl ⟨rfl, ⟨by dsimp only; omega, by dsimp only; omega⟩, rfl⟩) | exact .inr (.inr (.inl ⟨rfl, ⟨by dsimp only; omega, by dsimp only; omega⟩, by dsimp only; omega, by dsimp only; omega⟩)) | exact .inr (.inr (.inr ⟨by decide, by decide, by decide, by decide, rfl, rfl⟩))) rfl (by omega)⟩, hm.sub (.refl _)⟩)
  refine zaz 1 rfl (zas rfl (zao ?_))
  refine zbu rfl rfl rfl rfl rfl rfl (fun h37 => ?_) (fun h37 => ?_)
  ·
   refine zaz 1 rfl (zaj rfl (zag (reQ 1 rfl ?_)))
   refine hvQ rfl (lnQ rfl rfl rfl (fun w hm => hu w (hm.sub (.cons _ (.refl _))))) (zec rfl rfl rfl rfl rfl rfl (fun h38 => ?_) (fun h38 => ?_))
   ·
    refine ntQ (zaj rfl (zag ?_))
    refine zeu (l := (l)) rfl 11 [0, 1, 2, 3, 4, 5, 6, 7, 8, 9, 10] (List.take 11 _) (List.drop 11 _) [[], [], [], [2], [1, 3], [0, 4], [4, 5], [], [4, 7], [4, 6, 8], [4, 8, 9]] [37, 38, 39, 40, 41, 42, 43, 44, 45, 46, 47] (fun i_ vs_ v_ p_ => match i_ with | 0 => v_ = u ∧ p_ = [] | 1 => v_ = .pointer (some ⟨g, 0, none⟩) ∧ p_ = [] | 2 => v_ = u ∧ p_ = [] | 3 => v_ = .int .i64 (A.length : Int) ∧ p_ = [] | 4 => (∃ pm_, p_ = [pm_] ∧ (fun u_ p_ => (∃ x_ : Int, u_ = .int .i64 x_ ∧ 0 ≤ x_ ∧ x_ < (A.length : Int)) ∧ p_ = curE g a len cap) v_ pm_) | 5 => v_ = elP u (((intOf_o (List.getD vs_ 1 undef))).toNat * 1) ∧ p_ = [] | 6 => v_ = .int .i64 (A.getD (((intOf_o (List.getD vs_ 0 undef))).toNat) 0) ∧ p_ = [] | 7 => v_ = .pointer (some ⟨g, 0, none⟩) ∧ p_ = [] | 8 => (∃ pm_, p_ = [pm_] ∧ (fun u_ p_ => (∃ x_ : Int, u_ = .int .i64 x_ ∧ 0 ≤ x_ ∧ x_ < 2) ∧ p_ = curE g a len cap) v_ pm_) | 9 => v_ = .agg #[.int .i64 3, .int .i64 (A.getD (((intOf_o (List.getD vs_ 0 undef))).toNat) 0), .int .i64 (intOf_o (List.getD vs_ 2 undef))] ∧ p_ = [] | 10 => IsRow 97 3 1 ([3, A.getD (((intOf_o (List.getD vs_ 0 undef))).toNat) 0, (intOf_o (List.getD vs_ 1 undef))].map (Value.int .i64)) v_ p_ | _ => True) [[], [], [], [2], [1, 3], [0], [5], [], [7], [6, 8], [8, 9]] [none, none, none, none, some 12, none, none, none, some 4, none, none] [curE g a len cap] [0, 1, 2, 3, 5, 6, 7, 8, 9, 10] 12 (List.take_append_drop 11 _).symm (by kernel_rfl) (by kernel_rfl) (by kernel_rfl) rfl rfl ?_ ?_
    ·
     refine ⟨?_, ?_, ?_, ?_, ?_, ?_, ?_, ?_, ?_, ?_, ?_, trivial⟩
     ·
      intro vf pf hmu hR
      refine dqQ [] [] rfl (zcd (zav [1] rfl) ?_)
      exact zbz (zax rfl)
     ·
      intro vf pf hmu hR
      refine dqQ [] [] rfl (zcd (zav [0] rfl) ?_)
      exact zbz (zax rfl)
     ·
      intro vf pf hmu hR
      refine dqQ [] [] rfl (zcd (zav [1] rfl) ?_)
      exact zbz (zax rfl)
     ·
      intro vf pf hmu hR
      have e2 := hR 2 (by decide)
      refine dqQ [2] [2] rfl (zbm (sk 39 (congrArg some e2.1) (zam _)) (List.sublist_append_right _ _) ?_)
      exact zbz (lnQ rfl rfl rfl (fun w hm => hu w (hm.sub (.refl _))))
     ·
      intro vf pf hmu hR
      have e1 := hR 1 (by decide)
      have e3 := hR 3 (by decide)
      refine Or.inl ⟨rfl, ?_⟩
      show RunM _ _ _ (pf 12) (([1, 3] : List Nat).flatMap pf ++ _) (envOf _ vf [1, 3] ++ _) _ _
      rw [hmu]
      exact zdn (sk 38 (congrArg some e1.1) (sk 40 (congrArg some e3.1) (zam _))) (by simp only [e1.2, e3.2, fS] <;> rfl) (zdr (R := (fun u_ p_ => (∃ x_ : Int, u_ = .int .i64 x_ ∧ 0 ≤ x_ ∧ x_ < (A.length : Int)) ∧ p_ = curE g a len cap)) rfl rfl (fun L w hX hm => zce g a len cap z (A.length : Int) _ _ _ hm hb (by constructor <;> omega)))
     ·
      intro vf pf hmu hR
      have e0 := hR 0 (by decide)
      have e4 : (∃ pm_, (pf 4) = [pm_] ∧ (fun u_ p_ => (∃ x_ : Int, u_ = .int .i64 x_ ∧ 0 ≤ x_ ∧ x_ < (A.length : Int)) ∧ p_ = curE g a len cap) (vf 4) pm_) := hR 4 (by decide)
      obtain ⟨p40, pE4, hR41⟩ := e4
      obtain ⟨v39, vE4⟩ : ∃ x, vf 4 = x := ⟨_, rfl⟩
      rw [vE4] at hR41
      obtain ⟨⟨xhR41, rfl, xhR410, xhR411⟩, rfl⟩ := hR41
      refine dqQ [0] [0, 4] rfl (zbm (sk 37 (congrArg some e0.1) (sk 41 (congrArg some vE4) (zam _))) (List.sublist_append_right _ _) ?_)
      exact zct (zbz (riQ 1 rfl rfl rfl rfl (fun w hm => hu w (hm.sub (.refl _))))) (fun _ _ h => ⟨h.1.trans (by show _ = (elP u (((intOf_o (vf 4))).toNat * 1) : Value); first | (rw [vE4]; done) | (rw [vE4]; rfl)), h.2⟩)
     ·
      intro vf pf hmu hR
      have e4 : (∃ pm_, (pf 4) = [pm_] ∧ (fun u_ p_ => (∃ x_ : Int, u_ = .int .i64 x_ ∧ 0 ≤ x_ ∧ x_ < (A.length : Int)) ∧ p_ = curE g a len cap) (vf 4) pm_) := hR 4 (by decide)
      obtain ⟨p40, pE4, hR41⟩ := e4
      obtain ⟨v39, vE4⟩ : ∃ x, vf 4 = x := ⟨_, rfl⟩
      rw [vE4] at hR41
      obtain ⟨⟨xhR41, rfl, xhR410, xhR411⟩, rfl⟩ := hR41
      have e5 : (vf 5) = elP u (((intOf_o (vf 4))).toNat * 1) ∧ (pf 5) = [] := hR 5 (by decide)
      rw [vE4] at e5; try simp only [intOf_o] at e5
      refine dqQ [5] [4, 5] rfl (zbm (sk 42 (congrArg some e5.1) (zam _)) (List.sublist_append_right _ _) ?_)
      exact zct (zbz (lzQ rfl rfl rfl (fun w hm => hu w (hm.sub (.refl _))))) (fun _ _ h => ⟨h.1.trans (by show _ = (.int .i64 (A.getD (((intOf_o (vf 4))).toNat) 0) : Value); first | (rw [vE4]; done) | (rw [vE4]; rfl)), h.2⟩)
     ·
      intro vf pf hmu hR
      refine dqQ [] [] rfl (zcd (zav [0] rfl) ?_)
      exact zbz (zax rfl)
     ·
      intro vf pf hmu hR
      have e4 : (∃ pm_, (pf 4) = [pm_] ∧ (fun u_ p_ => (∃ x_ : Int, u_ = .int .i64 x_ ∧ 0 ≤ x_ ∧ x_ < (A.length : Int)) ∧ p_ = curE g a len cap) (vf 4) pm_) := hR 4 (by decide)
      obtain ⟨p40, pE4, hR41⟩ := e4
      obtain ⟨v39, vE4⟩ : ∃ x, vf 4 = x := ⟨_, rfl⟩
      rw [vE4] at hR41
      obtain ⟨⟨xhR41, rfl, xhR410, xhR411⟩, rfl⟩ := hR41
      have e7 := hR 7 (by decide)
      refine Or.inl ⟨rfl, ?_⟩
      show RunM _ _ _ (pf 4) (([7] : List Nat).flatMap pf ++ _) (envOf _ vf [4, 7] ++ _) _ _
      rw [pE4]
      exact zdn (sk 44 (congrArg some e7.1) (zam _)) (by simp only [e7.2, fS] <;> rfl) (zdr (R := (fun u_ p_ => (∃ x_ : Int, u_ = .int .i64 x_ ∧ 0 ≤ x_ ∧ x_ < 2) ∧ p_ = curE g a len cap)) rfl rfl (fun L w hX hm => zce g a len cap z 2 _ _ _ hm hb (by constructor <;> omega)))
     ·
      intro vf pf hmu hR
      have e4 : (∃ pm_, (pf 4) = [pm_] ∧ (fun u_ p_ => (∃ x_ : Int, u_ = .int .i64 x_ ∧ 0 ≤ x_ ∧ x_ < (A.length : Int)) ∧ p_ = curE g a len cap) (vf 4) pm_) := hR 4 (by decide)
      obtain ⟨p40, pE4, hR41⟩ := e4
      obtain ⟨v39, vE4⟩ : ∃ x, vf 4 = x := ⟨_, rfl⟩
      rw [vE4] at hR41
      obtain ⟨⟨xhR41, rfl, xhR410, xhR411⟩, rfl⟩ := hR41
      have e6 : (vf 6) = .int .i64 (A.getD (((intOf_o (vf 4))).toNat) 0) ∧ (pf 6) = [] := hR 6 (by decide)
      rw [vE4] at e6; try simp only [intOf_o] at e6
      have e8 : (∃ pm_, (pf 8) = [pm_] ∧ (fun u_ p_ => (∃ x_ : Int, u_ = .int .i64 x_ ∧ 0 ≤ x_ ∧ x_ < 2) ∧ p_ = curE g a len cap) (vf 8) pm_) := hR 8 (by decide)
      obtain ⟨p43, pE8, hR44⟩ := e8
      obtain ⟨v42, vE8⟩ : ∃ x, vf 8 = x := ⟨_, rfl⟩
      rw [vE8] at hR44
      obtain ⟨⟨xhR44, rfl, xhR440, xhR441⟩, rfl⟩ := hR44
      refine dqQ [6, 8] [4, 6, 8] rfl (zco (sk 43 (congrArg some e6.1) (sk 45 (congrArg some vE8) (zam _))) (by simp only [pE8, vE8, e6.2, fS] <;> rfl) ?_)
      exact zct (zbz (zbl (cs := #[.int .i64 3, .int .i64 (A.getD ((xhR41).toNat) 0), .int .i64 xhR44]) rfl rfl rfl)) (fun _ _ h => ⟨h.1.trans (by show _ = (.agg #[.int .i64 3, .int .i64 (A.getD (((intOf_o (vf 4))).toNat) 0), .int .i64 (intOf_o (vf 8))] : Value); first | (rw [vE4, vE8]; done) | (rw [vE4, vE8]; rfl)), h.2⟩)
     intro vf pf hmu hR
     have e4 : (∃ pm_, (pf 4) = [pm_] ∧ (fun u_ p_ => (∃ x_ : Int, u_ = .int .i64 x_ ∧ 0 ≤ x_ ∧ x_ < (A.length : Int)) ∧ p_ = curE g a len cap) (vf 4) pm_) := hR 4 (by decide)
     obtain ⟨p40, pE4, hR41⟩ := e4
     obtain ⟨v39, vE4⟩ : ∃ x, vf 4 = x := ⟨_, rfl⟩
     rw [vE4] at hR41
     obtain ⟨⟨xhR41, rfl, xhR410, xhR411⟩, rfl⟩ := hR41
     have e8 : (∃ pm_, (pf 8) = [pm_] ∧ (fun u_ p_ => (∃ x_ : Int, u_ = .int .i64 x_ ∧ 0 ≤ x_ ∧ x_ < 2) ∧ p_ = curE g a len cap) (vf 8) pm_) := hR 8 (by decide)
     obtain ⟨p43, pE8, hR44⟩ := e8
     obtain ⟨v42, vE8⟩ : ∃ x, vf 8 = x := ⟨_, rfl⟩
     rw [vE8] at hR44
     obtain ⟨⟨xhR44, rfl, xhR440, xhR441⟩, rfl⟩ := hR44
     have e9 : (vf 9) = .agg #[.int .i64 3, .int .i64 (A.getD (((intOf_o (vf 4))).toNat) 0), .int .i64 (intOf_o (vf 8))] ∧ (pf 9) = [] := hR 9 (by decide)
     rw [vE4, vE8] at e9; try simp only [intOf_o] at e9
     refine dqQ [8, 9] [4, 8, 9] rfl (zco (sk 46 (congrArg some e9.1) (zam _)) (by simp only [pE8, vE8, e9.2, fS] <;> rfl) ?_)
     exact zct (zan (z := .agg #[.int .i64 0, .int .i64 0, .int .i64 0]) (s := 3) (cs := ([3, A.getD ((xhR41).toNat) 0, xhR44].map (Value.int .i64))) rfl Try.underlying71 rfl (by decide) rfl (by kernel_rfl) rfl) (fun v_ p_ h => by show IsRow 97 3 1 ([3, A.getD (((intOf_o (vf 4))).toNat) 0, (intOf_o (vf 8))].map (Value.int .i64)) v_ p_; rw [vE4, vE8]; exact h)
    intro vf pf hmu hR
    have e4 : (∃ pm_, (pf 4) = [pm_] ∧ (fun u_ p_ => (∃ x_ : Int, u_ = .int .i64 x_ ∧ 0 ≤ x_ ∧ x_ < (A.length : Int)) ∧ p_ = curE g a len cap) (vf 4) pm_) := hR 4 (by decide)
    obtain ⟨p40, pE4, hR41⟩ := e4
    obtain ⟨v39, vE4⟩ : ∃ x, vf 4 = x := ⟨_, rfl⟩
    rw [vE4] at hR41
    obtain ⟨⟨xhR41, rfl, xhR410, xhR411⟩, rfl⟩ := hR41
    have e8 : (∃ pm_, (pf 8) = [pm_] ∧ (fun u_ p_ => (∃ x_ : Int, u_ = .int .i64 x_ ∧ 0 ≤ x_ ∧ x_ < 2) ∧ p_ = curE g a len cap) (vf 8) pm_) := hR 8 (by decide)
    obtain ⟨p43, pE8, hR44⟩ := e8
    obtain ⟨v42, vE8⟩ : ∃ x, vf 8 = x := ⟨_, rfl⟩
    rw [vE8] at hR44
    obtain ⟨⟨xhR44, rfl, xhR440, xhR441⟩, rfl⟩ := hR44
    have e10 : IsRow 97 3 1 ([3, A.getD (((intOf_o (vf 4))).toNat) 0, (intOf_o (vf 8))].map (Value.int .i64)) (vf 10) (pf 10) := hR 10 (by decide)
    rw [vE4, vE8] at e10; try simp only [intOf_o] at e10
    obtain ⟨g45, vE10, pE10⟩ := e10
    have q0 := hR 0 (by decide)
    have q1 := hR 1 (by decide)
    have q2 := hR 2 (by decide)
    have q3 := hR 3 (by decide)
    have q5 := hR 5 (by decide)
    have q6 := hR 6 (by decide)
    have q7 := hR 7 (by decide)
    have q9 := hR 9 (by decide)
    refine zdj (zcu [36, 31, 25, 19, 18, 16, 6, 2, 1, 0] _ (sk 47 (congrArg some vE10) (zam _)) rfl) (by simp only [pE8, vE8, pE10, vE10, q0.2, q1.2, q2.2, q3.2, q5.2, q6.2, q7.2, q9.2, fS] <;> rfl) ?_
    simp only [List.drop_succ_cons, List.drop_zero]
    refine zaz 1 rfl ?_
    refine zap (zad ?_)
    refine zdw ?_
    have hA8 := hA _ (zch (d := (0 : Int)) (show xhR41.toNat < A.length by omega))
    refine zbk 2 [1, 0] rfl rfl (by decide) ?_
    refine zcf 2 rfl ?_
    exact zdb (rs := [.tmp 6]) (vs := [.slice (some ⟨g45, 0, none⟩) 1 1]) rfl ⟨rfl, trivial⟩ rfl (fun w hm => ⟨_, bigE [curE g a len cap, rowE 97 3 (.slice (some ⟨g45, 0, none⟩) 1 1) 1 ([3, A.getD ((xhR41).toNat) 0, xhR44].map (Value.int .i64))], rfl, ⟨[Oq.mk 3 (A.getD ((xhR41).toNat) 0) xhR44], rfl, zdm (by first | exact .inl ⟨rfl, ⟨by dsimp only; omega, by dsimp only; omega⟩, rfl⟩ | exact .inr (.inl ⟨rfl, ⟨by dsimp only; omega, by dsimp only; omega⟩, rfl⟩) | exact .inr (.inr (.inl ⟨rfl, ⟨by dsimp only; omega, by dsimp only; omega⟩, by dsimp only; omega, by dsimp only; omega⟩)) | exact .inr (.inr (.inr ⟨by decide, by decide, by decide, by decide, rfl, rfl⟩))) rfl (by omega)⟩, hm.sub (.refl _)⟩)
   refine ntQ (fsQ rfl (zde (zag (zag (reQ 1 rfl ?_)))))
   refine hvQ rfl (lnQ rfl rfl rfl (fun w hm => hu w (hm.sub (.cons _ (.refl _))))) (zbu rfl rfl rfl rfl rfl rfl (fun h46 => ?_) (fun h46 => ?_))
   ·
    refine ntQ (zaj rfl (srQ (hvQ rfl (zbl (cs := #[.int .i64 0, .int .i64 1, .int .i64 0]) rfl rfl rfl) ?_)))
    refine zdu rfl (zan (z := .agg #[.int .i64 0, .int .i64 0, .int .i64 0]) (s := 3) (cs := ([0, 1, 0].map (Value.int .i64))) rfl Try.underlying71 rfl (by decide) rfl (by kernel_rfl) rfl) ?_
    intro g47
    refine zaz 1 rfl ?_
    refine zap (zdw ?_)
    refine zbk 2 [0, 1] rfl rfl (by decide) ?_
    refine zcf 2 rfl ?_
    exact zdb (rs := [.tmp 6]) (vs := [.slice (some ⟨g47, 0, none⟩) 1 1]) rfl ⟨rfl, trivial⟩ rfl (fun w hm => ⟨_, bigE [curE g a len cap, rowE 97 3 (.slice (some ⟨g47, 0, none⟩) 1 1) 1 ([0, 1, 0].map (Value.int .i64))], rfl, ⟨[Oq.mk 0 1 0], rfl, zdm (by first | exact .inl ⟨rfl, ⟨by dsimp only; omega, by dsimp only; omega⟩, rfl⟩ | exact .inr (.inl ⟨rfl, ⟨by dsimp only; omega, by dsimp only; omega⟩, rfl⟩) | exact .inr (.inr (.inl ⟨rfl, ⟨by dsimp only; omega, by dsimp only; omega⟩, by dsimp only; omega, by dsimp only; omega⟩)) | exact .inr (.inr (.inr ⟨by decide, by decide, by decide, by decide, rfl, rfl⟩))) rfl (by omega)⟩, hm.sub (.refl _)⟩)
   refine ntQ (zas rfl (zcy (zag (reQ 3 rfl ?_))))
   refine hvQ rfl (lnQ rfl rfl rfl (fun w hm => hu w (hm.sub (.cons _ (.refl _))))) (zcm (R := (fun u_ p_ => (∃ x_ : Int, u_ = .int .i64 x_ ∧ 0 ≤ x_ ∧ x_ < (A.length : Int)) ∧ p_ = curE g a len cap)) 0 rfl rfl rfl rfl rfl (fun l' w hm => zce g a len cap z (A.length : Int) _ _ _ hm hb (by constructor <;> omega)) ?_)
   intro v48 p49 hR50
   obtain ⟨⟨xhR50, rfl, xhR500, xhR501⟩, rfl⟩ := hR50
   refine zcs (l' := (curE g a len cap :: l)) rfl ?_
   refine hvQ rfl (riQ 1 rfl rfl rfl rfl (fun w hm => hu w (hm.sub (.cons _ (.refl _))))) (hvQ rfl (lzQ rfl rfl rfl (fun w hm => hu w (hm.sub (.cons _ (.refl _))))) ?_)
   refine hvQ rfl (zbl (cs := #[.int .i64 2, .int .i64 (A.getD ((xhR50).toNat) 0), .int .i64 0]) rfl rfl rfl) (zdu rfl (zan (z := .agg #[.int .i64 0, .int .i64 0, .int .i64 0]) (s := 3) (cs := ([2, A.getD ((xhR50).toNat) 0, 0].map (Value.int .i64))) rfl Try.underlying71 rfl (by decide) rfl (by kernel_rfl) rfl) ?_)
   intro g51
   refine zaz 1 rfl ?_
   refine zap (zaf ?_)
   have hA8 := hA _ (zch (d := (0 : Int)) (show xhR50.toNat < A.length by omega))
   refine zbk 2 [0, 1] rfl rfl (by decide) ?_
   refine zcf 2 rfl ?_
   exact zdb (rs := [.tmp 6]) (vs := [.slice (some ⟨g51, 0, none⟩) 1 1]) rfl ⟨rfl, trivial⟩ rfl (fun w hm => ⟨_, bigE [curE g a len cap, rowE 97 3 (.slice (some ⟨g51, 0, none⟩) 1 1) 1 ([2, A.getD ((xhR50).toNat) 0, 0].map (Value.int .i64))], rfl, ⟨[Oq.mk 2 (A.getD ((xhR50).toNat) 0) 0], rfl, zdm (by first | exact .inl ⟨rfl, ⟨by dsimp only; omega, by dsimp only; omega⟩, rfl⟩ | exact .inr (.inl ⟨rfl, ⟨by dsimp only; omega, by dsimp only; omega⟩, rfl⟩) | exact .inr (.inr (.inl ⟨rfl, ⟨by dsimp only; omega, by dsimp only; omega⟩, by dsimp only; omega, by dsimp only; omega⟩)) | exact .inr (.inr (.inr ⟨by decide, by decide, by decide, by decide, rfl, rfl⟩))) rfl (by omega)⟩, hm.sub (.refl _)⟩)
  refine zaz 1 rfl (fsQ rfl (zde (zag (zag (reQ 1 rfl ?_)))))
  refine hvQ rfl (lnQ rfl rfl rfl (fun w hm => hu w (hm.sub (.cons _ (.refl _))))) (zbu rfl rfl rfl rfl rfl rfl (fun h52 => ?_) (fun h52 => ?_))
  ·
   refine ntQ (zaj rfl (srQ (hvQ rfl (zbl (cs := #[.int .i64 0, .int .i64 1, .int .i64 0]) rfl rfl rfl) ?_)))
   refine zdu rfl (zan (z := .agg #[.int .i64 0, .int .i64 0, .int .i64 0]) (s := 3) (cs := ([0, 1, 0].map (Value.int .i64))) rfl Try.underlying71 rfl (by decide) rfl (by kernel_rfl) rfl) ?_
   intro g53
   refine zaz 1 rfl ?_
   refine zap (zdw ?_)
   refine zbk 2 [0, 1] rfl rfl (by decide) ?_
   refine zcf 2 rfl ?_
   exact zdb (rs := [.tmp 6]) (vs := [.slice (some ⟨g53, 0, none⟩) 1 1]) rfl ⟨rfl, trivial⟩ rfl (fun w hm => ⟨_, bigE [curE g a len cap, rowE 97 3 (.slice (some ⟨g53, 0, none⟩) 1 1) 1 ([0, 1, 0].map (Value.int .i64))], rfl, ⟨[Oq.mk 0 1 0], rfl, zdm (by first | exact .inl ⟨rfl, ⟨by dsimp only; omega, by dsimp only; omega⟩, rfl⟩ | exact .inr (.inl ⟨rfl, ⟨by dsimp only; omega, by dsimp only; omega⟩, rfl⟩) | exact .inr (.inr (.inl ⟨rfl, ⟨by dsimp only; omega, by dsimp only; omega⟩, by dsimp only; omega, by dsimp only; omega⟩)) | exact .inr (.inr (.inr ⟨by decide, by decide, by decide, by decide, rfl, rfl⟩))) rfl (by omega)⟩, hm.sub (.refl _)⟩)
  refine ntQ (zas rfl (zcy (zag (reQ 3 rfl ?_))))
  refine hvQ rfl (lnQ rfl rfl rfl (fun w hm => hu w (hm.sub (.cons _ (.refl _))))) (zcm (R := (fun u_ p_ => (∃ x_ : Int, u_ = .int .i64 x_ ∧ 0 ≤ x_ ∧ x_ < (A.length : Int)) ∧ p_ = curE g a len cap)) 0 rfl rfl rfl rfl rfl (fun l' w hm => zce g a len cap z (A.length : Int) _ _ _ hm hb (by constructor <;> omega)) ?_)
  intro v54 p55 hR56
  obtain ⟨⟨xhR56, rfl, xhR560, xhR561⟩, rfl⟩ := hR56
  refine zcs (l' := (curE g a len cap :: l)) rfl ?_
  refine hvQ rfl (riQ 1 rfl rfl rfl rfl (fun w hm => hu w (hm.sub (.cons _ (.refl _))))) (hvQ rfl (lzQ rfl rfl rfl (fun w hm => hu w (hm.sub (.cons _ (.refl _))))) ?_)
  refine hvQ rfl (zbl (cs := #[.int .i64 2, .int .i64 (A.getD ((xhR56).toNat) 0), .int .i64 0]) rfl rfl rfl) (zdu rfl (zan (z := .agg #[.int .i64 0, .int .i64 0, .int .i64 0]) (s := 3) (cs := ([2, A.getD ((xhR56).toNat) 0, 0].map (Value.int .i64))) rfl Try.underlying71 rfl (by decide) rfl (by kernel_rfl) rfl) ?_)
  intro g57
  refine zaz 1 rfl ?_
  refine zap (zaf ?_)
  have hA8 := hA _ (zch (d := (0 : Int)) (show xhR56.toNat < A.length by omega))
  refine zbk 2 [0, 1] rfl rfl (by decide) ?_
  refine zcf 2 rfl ?_
  exact zdb (rs := [.tmp 6]) (vs := [.slice (some ⟨g57, 0, none⟩) 1 1]) rfl ⟨rfl, trivial⟩ rfl (fun w hm => ⟨_, bigE [curE g a len cap, rowE 97 3 (.slice (some ⟨g57, 0, none⟩) 1 1) 1 ([2, A.getD ((xhR56).toNat) 0, 0].map (Value.int .i64))], rfl, ⟨[Oq.mk 2 (A.getD ((xhR56).toNat) 0) 0], rfl, zdm (by first | exact .inl ⟨rfl, ⟨by dsimp only; omega, by dsimp only; omega⟩, rfl⟩ | exact .inr (.inl ⟨rfl, ⟨by dsimp only; omega, by dsimp only; omega⟩, rfl⟩) | exact .inr (.inr (.inl ⟨rfl, ⟨by dsimp only; omega, by dsimp only; omega⟩, by dsimp only; omega, by dsimp only; omega⟩)) | exact .inr (.inr (.inr ⟨by decide, by decide, by decide, by decide, rfl, rfl⟩))) rfl (by omega)⟩, hm.sub (.refl _)⟩)
 refine zah 2 rfl (zcm (R := (fun u_ p_ => (∃ b : Bool, u_ = .bool b) ∧ p_ = curE g a len cap)) 0 rfl rfl rfl rfl rfl (fun l' w hm => once_mut hm hb (3) (by omega) (by omega)) ?_)
 intro v58 p59 hR60
 obtain ⟨⟨xhR60, rfl⟩, rfl⟩ := hR60
 refine zcs (l' := (curE g a len cap :: l)) rfl ?_
 refine zbq (fun h61 => ?_) (fun h61 => ?_)
 ·
  refine zaz 1 rfl (zaj rfl (zag (zag (reQ 1 rfl ?_))))
  refine zcm (R := (fun u_ p_ => (∃ x_ : Int, u_ = .int .i64 x_ ∧ 0 ≤ x_ ∧ x_ < 8) ∧ p_ = curE g a len cap)) 0 rfl rfl rfl rfl rfl (fun l' w hm => zce g a len cap z 8 _ _ _ hm hb (by constructor <;> omega)) ?_
  intro v62 p63 hR64
  obtain ⟨⟨xhR64, rfl, xhR640, xhR641⟩, rfl⟩ := hR64
  refine zcs (l' := (curE g a len cap :: l)) rfl ?_
  refine ntQ (zba (srQ ?_))
  refine zbu rfl rfl rfl rfl rfl rfl (fun h65 => ?_) (fun h65 => ?_)
  ·
   refine zaz 1 rfl (zaj rfl (zag (reQ 1 rfl ?_)))
   refine zcm (R := (fun u_ p_ => (∃ x_ : Int, u_ = .int .i64 x_ ∧ 0 ≤ x_ ∧ x_ < 16) ∧ p_ = curE g a len cap)) 0 rfl rfl rfl rfl rfl (fun l' w hm => zce g a len cap z 16 _ _ _ hm hb (by constructor <;> omega)) ?_
   intro v66 p67 hR68
   obtain ⟨⟨xhR68, rfl, xhR680, xhR681⟩, rfl⟩ := hR68
   refine zcs (l' := (curE g a len cap :: l)) rfl ?_
   refine hvQ rfl (zbl (cs := #[.int .i64 0, .int .i64 xhR68, .int .i64 0]) rfl rfl rfl) (zdu rfl (zan (z := .agg #[.int .i64 0, .int .i64 0, .int .i64 0]) (s := 3) (cs := ([0, xhR68, 0].map (Value.int .i64))) rfl Try.underlying71 rfl (by decide) rfl (by kernel_rfl) rfl) ?_)
   intro g69
   refine zaz 1 rfl ?_
   refine zap (zad ?_)
   refine zdw ?_
   refine zbk 2 [0, 1] rfl rfl (by decide) ?_
   refine zcf 2 rfl ?_
   exact zdb (rs := [.tmp 6]) (vs := [.slice (some ⟨g69, 0, none⟩) 1 1]) rfl ⟨rfl, trivial⟩ rfl (fun w hm => ⟨_, bigE [curE g a len cap, rowE 97 3 (.slice (some ⟨g69, 0, none⟩) 1 1) 1 ([0, xhR68, 0].map (Value.int .i64))], rfl, ⟨[Oq.mk 0 xhR68 0], rfl, zdm (by first | exact .inl ⟨rfl, ⟨by dsimp only; omega, by dsimp only; omega⟩, rfl⟩ | exact .inr (.inl ⟨rfl, ⟨by dsimp only; omega, by dsimp only; omega⟩, rfl⟩) | exact .inr (.inr (.inl ⟨rfl, ⟨by dsimp only; omega, by dsimp only; omega⟩, by dsimp only; omega, by dsimp only; omega⟩)) | exact .inr (.inr (.inr ⟨by decide, by decide, by decide, by decide, rfl, rfl⟩))) rfl (by omega)⟩, hm.sub (.refl _)⟩)
  refine zaz 1 rfl (zas rfl (srQ ?_))
  refine zbu rfl rfl rfl rfl rfl rfl (fun h70 => ?_) (fun h70 => ?_)
  ·
   refine zaz 1 rfl (zaj rfl (zag (reQ 1 rfl ?_)))
   refine zcm (R := (fun u_ p_ => (∃ b : Bool, u_ = .bool b) ∧ p_ = curE g a len cap)) 0 rfl rfl rfl rfl rfl (fun l' w hm => once_mut hm hb (3) (by omega) (by omega)) ?_
   intro v71 p72 hR73
   obtain ⟨⟨xhR73, rfl⟩, rfl⟩ := hR73
   refine zcs (l' := (curE g a len cap :: l)) rfl ?_
   refine zbq (fun h74 => ?_) (fun h74 => ?_)
   ·
    refine ntQ (zaj rfl (srQ (hvQ rfl (zbl (cs := #[.int .i64 1, .int .i64 0, .int .i64 0]) rfl rfl rfl) ?_)))
    refine zdu rfl (zan (z := .agg #[.int .i64 0, .int .i64 0, .int .i64 0]) (s := 3) (cs := ([1, 0, 0].map (Value.int .i64))) rfl Try.underlying71 rfl (by decide) rfl (by kernel_rfl) rfl) ?_
    intro g75
    refine zaz 1 rfl ?_
    refine zap (zad ?_)
    refine zdw ?_
    refine zbk 2 [0, 1] rfl rfl (by decide) ?_
    refine zcf 2 rfl ?_
    exact zdb (rs := [.tmp 6]) (vs := [.slice (some ⟨g75, 0, none⟩) 1 1]) rfl ⟨rfl, trivial⟩ rfl (fun w hm => ⟨_, bigE [curE g a len cap, rowE 97 3 (.slice (some ⟨g75, 0, none⟩) 1 1) 1 ([1, 0, 0].map (Value.int .i64))], rfl, ⟨[Oq.mk 1 0 0], rfl, zdm (by first | exact .inl ⟨rfl, ⟨by dsimp only; omega, by dsimp only; omega⟩, rfl⟩ | exact .inr (.inl ⟨rfl, ⟨by dsimp only; omega, by dsimp only; omega⟩, rfl⟩) | exact .inr (.inr (.inl ⟨rfl, ⟨by dsimp only; omega, by dsimp only; omega⟩, by dsimp only; omega, by dsimp only; omega⟩)) | exact .inr (.inr (.inr ⟨by decide, by decide, by decide, by decide, rfl, rfl⟩))) rfl (by omega)⟩, hm.sub (.refl _)⟩)
   refine ntQ (fsQ rfl (zde (zag (zag (reQ 1 rfl ?_)))))
   refine hvQ rfl (lnQ rfl rfl rfl (fun w hm => hu w (hm.sub (.cons _ (.refl _))))) (zbu rfl rfl rfl rfl rfl rfl (fun h76 => ?_) (fun h76 => ?_))
   ·
    refine ntQ (zaj rfl (srQ (hvQ rfl (zbl (cs := #[.int .i64 0, .int .i64 1, .int .i64 0]) rfl rfl rfl) ?_)))
    refine zdu rfl (zan (z := .agg #[.int .i64 0, .int .i64 0, .int .i64 0]) (s := 3) (cs := ([0, 1, 0].map (Value.int .i64))) rfl Try.underlying71 rfl (by decide) rfl (by kernel_rfl) rfl) ?_
    intro g77
    refine zaz 1 rfl ?_
    refine zap (zdw ?_)
    refine zbk 2 [0, 1] rfl rfl (by decide) ?_
    refine zcf 2 rfl ?_
    exact zdb (rs := [.tmp 6]) (vs := [.slice (some ⟨g77, 0, none⟩) 1 1]) rfl ⟨rfl, trivial⟩ rfl (fun w hm => ⟨_, bigE [curE g a len cap, rowE 97 3 (.slice (some ⟨g77, 0, none⟩) 1 1) 1 ([0, 1, 0].map (Value.int .i64))], rfl, ⟨[Oq.mk 0 1 0], rfl, zdm (by first | exact .inl ⟨rfl, ⟨by dsimp only; omega, by dsimp only; omega⟩, rfl⟩ | exact .inr (.inl ⟨rfl, ⟨by dsimp only; omega, by dsimp only; omega⟩, rfl⟩) | exact .inr (.inr (.inl ⟨rfl, ⟨by dsimp only; omega, by dsimp only; omega⟩, by dsimp only; omega, by dsimp only; omega⟩)) | exact .inr (.inr (.inr ⟨by decide, by decide, by decide, by decide, rfl, rfl⟩))) rfl (by omega)⟩, hm.sub (.refl _)⟩)
   refine ntQ (zas rfl (zcy (zag (reQ 3 rfl ?_))))
   refine hvQ rfl (lnQ rfl rfl rfl (fun w hm => hu w (hm.sub (.cons _ (.refl _))))) (zcm (R := (fun u_ p_ => (∃ x_ : Int, u_ = .int .i64 x_ ∧ 0 ≤ x_ ∧ x_ < (A.length : Int)) ∧ p_ = curE g a len cap)) 0 rfl rfl rfl rfl rfl (fun l' w hm => zce g a len cap z (A.length : Int) _ _ _ hm hb (by constructor <;> omega)) ?_)
   intro v78 p79 hR80
   obtain ⟨⟨xhR80, rfl, xhR800, xhR801⟩, rfl⟩ := hR80
   refine zcs (l' := (curE g a len cap :: l)) rfl ?_
   refine hvQ rfl (riQ 1 rfl rfl rfl rfl (fun w hm => hu w (hm.sub (.cons _ (.refl _))))) (hvQ rfl (lzQ rfl rfl rfl (fun w hm => hu w (hm.sub (.cons _ (.refl _))))) ?_)
   refine hvQ rfl (zbl (cs := #[.int .i64 2, .int .i64 (A.getD ((xhR80).toNat) 0), .int .i64 0]) rfl rfl rfl) (zdu rfl (zan (z := .agg #[.int .i64 0, .int .i64 0, .int .i64 0]) (s := 3) (cs := ([2, A.getD ((xhR80).toNat) 0, 0].map (Value.int .i64))) rfl Try.underlying71 rfl (by decide) rfl (by kernel_rfl) rfl) ?_)
   intro g81
   refine zaz 1 rfl ?_
   refine zap (zaf ?_)
   have hA8 := hA _ (zch (d := (0 : Int)) (show xhR80.toNat < A.length by omega))
   refine zbk 2 [0, 1] rfl rfl (by decide) ?_
   refine zcf 2 rfl ?_
   exact zdb (rs := [.tmp 6]) (vs := [.slice (some ⟨g81, 0, none⟩) 1 1]) rfl ⟨rfl, trivial⟩ rfl (fun w hm => ⟨_, bigE [curE g a len cap, rowE 97 3 (.slice (some ⟨g81, 0, none⟩) 1 1) 1 ([2, A.getD ((xhR80).toNat) 0, 0].map (Value.int .i64))], rfl, ⟨[Oq.mk 2 (A.getD ((xhR80).toNat) 0) 0], rfl, zdm (by first | exact .inl ⟨rfl, ⟨by dsimp only; omega, by dsimp only; omega⟩, rfl⟩ | exact .inr (.inl ⟨rfl, ⟨by dsimp only; omega, by dsimp only; omega⟩, rfl⟩) | exact .inr (.inr (.inl ⟨rfl, ⟨by dsimp only; omega, by dsimp only; omega⟩, by dsimp only; omega, by dsimp only; omega⟩)) | exact .inr (.inr (.inr ⟨by decide, by decide, by decide, by decide, rfl, rfl⟩))) rfl (by omega)⟩, hm.sub (.refl _)⟩)
  refine zaz 1 rfl (zas rfl (zfh ?_))
  refine zbu rfl rfl rfl rfl rfl rfl (fun h82 => ?_) (fun h82 => ?_)
  ·
   refine zaz 1 rfl (zaj rfl (zcy (zaj rfl (zag (reQ 1 rfl ?_)))))
   refine hvQ rfl (lnQ rfl rfl rfl (fun w hm => hu w (hm.sub (.cons _ (.refl _))))) (zec rfl rfl rfl rfl rfl rfl (fun h83 => ?_) (fun h83 => ?_))
   ·
    refine ntQ (zaj rfl (zag ?_))
    refine zeu (l := (l)) rfl 11 [0, 1, 2, 3, 4, 5, 6, 7, 8, 9, 10] (List.take 11 _) (List.drop 11 _) [[], [], [], [2], [1, 3], [0, 4], [4, 5], [], [4, 7], [4, 6, 8], [4, 8, 9]] [37, 38, 39, 40, 41, 42, 43, 44, 45, 46, 47] (fun i_ vs_ v_ p_ => match i_ with | 0 => v_ = u ∧ p_ = [] | 1 => v_ = .pointer (some ⟨g, 0, none⟩) ∧ p_ = [] | 2 => v_ = u ∧ p_ = [] | 3 => v_ = .int .i64 (A.length : Int) ∧ p_ = [] | 4 => (∃ pm_, p_ = [pm_] ∧ (fun u_ p_ => (∃ x_ : Int, u_ = .int .i64 x_ ∧ 0 ≤ x_ ∧ x_ < (A.length : Int)) ∧ p_ = curE g a len cap) v_ pm_) | 5 => v_ = elP u (((intOf_o (List.getD vs_ 1 undef))).toNat * 1) ∧ p_ = [] | 6 => v_ = .int .i64 (A.getD (((intOf_o (List.getD vs_ 0 undef))).toNat) 0) ∧ p_ = [] | 7 => v_ = .pointer (some ⟨g, 0, none⟩) ∧ p_ = [] | 8 => (∃ pm_, p_ = [pm_] ∧ (fun u_ p_ => (∃ x_ : Int, u_ = .int .i64 x_ ∧ 0 ≤ x_ ∧ x_ < 2) ∧ p_ = curE g a len cap) v_ pm_) | 9 => v_ = .agg #[.int .i64 3, .int .i64 (A.getD (((intOf_o (List.getD vs_ 0 undef))).toNat) 0), .int .i64 (intOf_o (List.getD vs_ 2 undef))] ∧ p_ = [] | 10 => IsRow 97 3 1 ([3, A.getD (((intOf_o (List.getD vs_ 0 undef))).toNat) 0, (intOf_o (List.getD vs_ 1 undef))].map (Value.int .i64)) v_ p_ | _ => True) [[], [], [], [2], [1, 3], [0], [5], [], [7], [6, 8], [8, 9]] [none, none, none, none, some 12, none, none, none, some 4, none, none] [curE g a len cap] [0, 1, 2, 3, 5, 6, 7, 8, 9, 10] 12 (List.take_append_drop 11 _).symm (by kernel_rfl) (by kernel_rfl) (by kernel_rfl) rfl rfl ?_ ?_
    ·
     refine ⟨?_, ?_, ?_, ?_, ?_, ?_, ?_, ?_, ?_, ?_, ?_, trivial⟩
     ·
      intro vf pf hmu hR
      refine dqQ [] [] rfl (zcd (zav [1] rfl) ?_)
      exact zbz (zax rfl)
     ·
      intro vf pf hmu hR
      refine dqQ [] [] rfl (zcd (zav [0] rfl) ?_)
      exact zbz (zax rfl)
     ·
      intro vf pf hmu hR
      refine dqQ [] [] rfl (zcd (zav [1] rfl) ?_)
      exact zbz (zax rfl)
     ·
      intro vf pf hmu hR
      have e2 := hR 2 (by decide)
      refine dqQ [2] [2] rfl (zbm (sk 39 (congrArg some e2.1) (zam _)) (List.sublist_append_right _ _) ?_)
      exact zbz (lnQ rfl rfl rfl (fun w hm => hu w (hm.sub (.refl _))))
     ·
      intro vf pf hmu hR
      have e1 := hR 1 (by decide)
      have e3 := hR 3 (by decide)
      refine Or.inl ⟨rfl, ?_⟩
      show RunM _ _ _ (pf 12) (([1, 3] : List Nat).flatMap pf ++ _) (envOf _ vf [1, 3] ++ _) _ _
      rw [hmu]
      exact zdn (sk 38 (congrArg some e1.1) (sk 40 (congrArg some e3.1) (zam _))) (by simp only [e1.2, e3.2, fS] <;> rfl) (zdr (R := (fun u_ p_ => (∃ x_ : Int, u_ = .int .i64 x_ ∧ 0 ≤ x_ ∧ x_ < (A.length : Int)) ∧ p_ = curE g a len cap)) rfl rfl (fun L w hX hm => zce g a len cap z (A.length : Int) _ _ _ hm hb (by constructor <;> omega)))
     ·
      intro vf pf hmu hR
      have e0 := hR 0 (by decide)
      have e4 : (∃ pm_, (pf 4) = [pm_] ∧ (fun u_ p_ => (∃ x_ : Int, u_ = .int .i64 x_ ∧ 0 ≤ x_ ∧ x_ < (A.length : Int)) ∧ p_ = curE g a len cap) (vf 4) pm_) := hR 4 (by decide)
      obtain ⟨p85, pE4, hR86⟩ := e4
      obtain ⟨v84, vE4⟩ : ∃ x, vf 4 = x := ⟨_, rfl⟩
      rw [vE4] at hR86
      obtain ⟨⟨xhR86, rfl, xhR860, xhR861⟩, rfl⟩ := hR86
      refine dqQ [0] [0, 4] rfl (zbm (sk 37 (congrArg some e0.1) (sk 41 (congrArg some vE4) (zam _))) (List.sublist_append_right _ _) ?_)
      exact zct (zbz (riQ 1 rfl rfl rfl rfl (fun w hm => hu w (hm.sub (.refl _))))) (fun _ _ h => ⟨h.1.trans (by show _ = (elP u (((intOf_o (vf 4))).toNat * 1) : Value); first | (rw [vE4]; done) | (rw [vE4]; rfl)), h.2⟩)
     ·
      intro vf pf hmu hR
      have e4 : (∃ pm_, (pf 4) = [pm_] ∧ (fun u_ p_ => (∃ x_ : Int, u_ = .int .i64 x_ ∧ 0 ≤ x_ ∧ x_ < (A.length : Int)) ∧ p_ = curE g a len cap) (vf 4) pm_) := hR 4 (by decide)
      obtain ⟨p85, pE4, hR86⟩ := e4
      obtain ⟨v84, vE4⟩ : ∃ x, vf 4 = x := ⟨_, rfl⟩
      rw [vE4] at hR86
      obtain ⟨⟨xhR86, rfl, xhR860, xhR861⟩, rfl⟩ := hR86
      have e5 : (vf 5) = elP u (((intOf_o (vf 4))).toNat * 1) ∧ (pf 5) = [] := hR 5 (by decide)
      rw [vE4] at e5; try simp only [intOf_o] at e5
      refine dqQ [5] [4, 5] rfl (zbm (sk 42 (congrArg some e5.1) (zam _)) (List.sublist_append_right _ _) ?_)
      exact zct (zbz (lzQ rfl rfl rfl (fun w hm => hu w (hm.sub (.refl _))))) (fun _ _ h => ⟨h.1.trans (by show _ = (.int .i64 (A.getD (((intOf_o (vf 4))).toNat) 0) : Value); first | (rw [vE4]; done) | (rw [vE4]; rfl)), h.2⟩)
     ·
      intro vf pf hmu hR
      refine dqQ [] [] rfl (zcd (zav [0] rfl) ?_)
      exact zbz (zax rfl)
     ·
      intro vf pf hmu hR
      have e4 : (∃ pm_, (pf 4) = [pm_] ∧ (fun u_ p_ => (∃ x_ : Int, u_ = .int .i64 x_ ∧ 0 ≤ x_ ∧ x_ < (A.length : Int)) ∧ p_ = curE g a len cap) (vf 4) pm_) := hR 4 (by decide)
      obtain ⟨p85, pE4, hR86⟩ := e4
      obtain ⟨v84, vE4⟩ : ∃ x, vf 4 = x := ⟨_, rfl⟩
      rw [vE4] at hR86
      obtain ⟨⟨xhR86, rfl, xhR860, xhR861⟩, rfl⟩ := hR86
      have e7 := hR 7 (by decide)
      refine Or.inl ⟨rfl, ?_⟩
      show RunM _ _ _ (pf 4) (([7] : List Nat).flatMap pf ++ _) (envOf _ vf [4, 7] ++ _) _ _
      rw [pE4]
      exact zdn (sk 44 (congrArg some e7.1) (zam _)) (by simp only [e7.2, fS] <;> rfl) (zdr (R := (fun u_ p_ => (∃ x_ : Int, u_ = .int .i64 x_ ∧ 0 ≤ x_ ∧ x_ < 2) ∧ p_ = curE g a len cap)) rfl rfl (fun L w hX hm => zce g a len cap z 2 _ _ _ hm hb (by constructor <;> omega)))
     ·
      intro vf pf hmu hR
      have e4 : (∃ pm_, (pf 4) = [pm_] ∧ (fun u_ p_ => (∃ x_ : Int, u_ = .int .i64 x_ ∧ 0 ≤ x_ ∧ x_ < (A.length : Int)) ∧ p_ = curE g a len cap) (vf 4) pm_) := hR 4 (by decide)
      obtain ⟨p85, pE4, hR86⟩ := e4
      obtain ⟨v84, vE4⟩ : ∃ x, vf 4 = x := ⟨_, rfl⟩
      rw [vE4] at hR86
      obtain ⟨⟨xhR86, rfl, xhR860, xhR861⟩, rfl⟩ := hR86
      have e6 : (vf 6) = .int .i64 (A.getD (((intOf_o (vf 4))).toNat) 0) ∧ (pf 6) = [] := hR 6 (by decide)
      rw [vE4] at e6; try simp only [intOf_o] at e6
      have e8 : (∃ pm_, (pf 8) = [pm_] ∧ (fun u_ p_ => (∃ x_ : Int, u_ = .int .i64 x_ ∧ 0 ≤ x_ ∧ x_ < 2) ∧ p_ = curE g a len cap) (vf 8) pm_) := hR 8 (by decide)
      obtain ⟨p88, pE8, hR89⟩ := e8
      obtain ⟨v87, vE8⟩ : ∃ x, vf 8 = x := ⟨_, rfl⟩
      rw [vE8] at hR89
      obtain ⟨⟨xhR89, rfl, xhR890, xhR891⟩, rfl⟩ := hR89
      refine dqQ [6, 8] [4, 6, 8] rfl (zco (sk 43 (congrArg some e6.1) (sk 45 (congrArg some vE8) (zam _))) (by simp only [pE8, vE8, e6.2, fS] <;> rfl) ?_)
      exact zct (zbz (zbl (cs := #[.int .i64 3, .int .i64 (A.getD ((xhR86).toNat) 0), .int .i64 xhR89]) rfl rfl rfl)) (fun _ _ h => ⟨h.1.trans (by show _ = (.agg #[.int .i64 3, .int .i64 (A.getD (((intOf_o (vf 4))).toNat) 0), .int .i64 (intOf_o (vf 8))] : Value); first | (rw [vE4, vE8]; done) | (rw [vE4, vE8]; rfl)), h.2⟩)
     intro vf pf hmu hR
     have e4 : (∃ pm_, (pf 4) = [pm_] ∧ (fun u_ p_ => (∃ x_ : Int, u_ = .int .i64 x_ ∧ 0 ≤ x_ ∧ x_ < (A.length : Int)) ∧ p_ = curE g a len cap) (vf 4) pm_) := hR 4 (by decide)
     obtain ⟨p85, pE4, hR86⟩ := e4
     obtain ⟨v84, vE4⟩ : ∃ x, vf 4 = x := ⟨_, rfl⟩
     rw [vE4] at hR86
     obtain ⟨⟨xhR86, rfl, xhR860, xhR861⟩, rfl⟩ := hR86
     have e8 : (∃ pm_, (pf 8) = [pm_] ∧ (fun u_ p_ => (∃ x_ : Int, u_ = .int .i64 x_ ∧ 0 ≤ x_ ∧ x_ < 2) ∧ p_ = curE g a len cap) (vf 8) pm_) := hR 8 (by decide)
     obtain ⟨p88, pE8, hR89⟩ := e8
     obtain ⟨v87, vE8⟩ : ∃ x, vf 8 = x := ⟨_, rfl⟩
     rw [vE8] at hR89
     obtain ⟨⟨xhR89, rfl, xhR890, xhR891⟩, rfl⟩ := hR89
     have e9 : (vf 9) = .agg #[.int .i64 3, .int .i64 (A.getD (((intOf_o (vf 4))).toNat) 0), .int .i64 (intOf_o (vf 8))] ∧ (pf 9) = [] := hR 9 (by decide)
     rw [vE4, vE8] at e9; try simp only [intOf_o] at e9
     refine dqQ [8, 9] [4, 8, 9] rfl (zco (sk 46 (congrArg some e9.1) (zam _)) (by simp only [pE8, vE8, e9.2, fS] <;> rfl) ?_)
     exact zct (zan (z := .agg #[.int .i64 0, .int .i64 0, .int .i64 0]) (s := 3) (cs := ([3, A.getD ((xhR86).toNat) 0, xhR89].map (Value.int .i64))) rfl Try.underlying71 rfl (by decide) rfl (by kernel_rfl) rfl) (fun v_ p_ h => by show IsRow 97 3 1 ([3, A.getD (((intOf_o (vf 4))).toNat) 0, (intOf_o (vf 8))].map (Value.int .i64)) v_ p_; rw [vE4, vE8]; exact h)
    intro vf pf hmu hR
    have e4 : (∃ pm_, (pf 4) = [pm_] ∧ (fun u_ p_ => (∃ x_ : Int, u_ = .int .i64 x_ ∧ 0 ≤ x_ ∧ x_ < (A.length : Int)) ∧ p_ = curE g a len cap) (vf 4) pm_) := hR 4 (by decide)
    obtain ⟨p85, pE4, hR86⟩ := e4
    obtain ⟨v84, vE4⟩ : ∃ x, vf 4 = x := ⟨_, rfl⟩
    rw [vE4] at hR86
    obtain ⟨⟨xhR86, rfl, xhR860, xhR861⟩, rfl⟩ := hR86
    have e8 : (∃ pm_, (pf 8) = [pm_] ∧ (fun u_ p_ => (∃ x_ : Int, u_ = .int .i64 x_ ∧ 0 ≤ x_ ∧ x_ < 2) ∧ p_ = curE g a len cap) (vf 8) pm_) := hR 8 (by decide)
    obtain ⟨p88, pE8, hR89⟩ := e8
    obtain ⟨v87, vE8⟩ : ∃ x, vf 8 = x := ⟨_, rfl⟩
    rw [vE8] at hR89
    obtain ⟨⟨xhR89, rfl, xhR890, xhR891⟩, rfl⟩ := hR89
    have e10 : IsRow 97 3 1 ([3, A.getD (((intOf_o (vf 4))).toNat) 0, (intOf_o (vf 8))].map (Value.int .i64)) (vf 10) (pf 10) := hR 10 (by decide)
    rw [vE4, vE8] at e10; try simp only [intOf_o] at e10
    obtain ⟨g90, vE10, pE10⟩ := e10
    have q0 := hR 0 (by decide)
    have q1 := hR 1 (by decide)
    have q2 := hR 2 (by decide)
    have q3 := hR 3 (by decide)
    have q5 := hR 5 (by decide)
    have q6 := hR 6 (by decide)
    have q7 := hR 7 (by decide)
    have q9 := hR 9 (by decide)
    refine zdj (zcu [36, 31, 25, 19, 18, 16, 6, 2, 1, 0] _ (sk 47 (congrArg some vE10) (zam _)) rfl) (by simp only [pE8, vE8, pE10, vE10, q0.2, q1.2, q2.2, q3.2, q5.2, q6.2, q7.2, q9.2, fS] <;> rfl) ?_
    simp only [List.drop_succ_cons, List.drop_zero]
    refine zaz 1 rfl ?_
    refine zap (zad ?_)
    refine zdw ?_
    have hA8 := hA _ (zch (d := (0 : Int)) (show xhR86.toNat < A.length by omega))
    refine zbk 2 [1, 0] rfl rfl (by decide) ?_
    refine zcf 2 rfl ?_
    exact zdb (rs := [.tmp 6]) (vs := [.slice (some ⟨g90, 0, none⟩) 1 1]) rfl ⟨rfl, trivial⟩ rfl (fun w hm => ⟨_, bigE [curE g a len cap, rowE 97 3 (.slice (some ⟨g90, 0, none⟩) 1 1) 1 ([3, A.getD ((xhR86).toNat) 0, xhR89].map (Value.int .i64))], rfl, ⟨[Oq.mk 3 (A.getD ((xhR86).toNat) 0) xhR89], rfl, zdm (by first | exact .inl ⟨rfl, ⟨by dsimp only; omega, by dsimp only; omega⟩, rfl⟩ | exact .inr (.inl ⟨rfl, ⟨by dsimp only; omega, by dsimp only; omega⟩, rfl⟩) | exact .inr (.inr (.inl ⟨rfl, ⟨by dsimp only; omega, by dsimp only; omega⟩, by dsimp only; omega, by dsimp only; omega⟩)) | exact .inr (.inr (.inr ⟨by decide, by decide, by decide, by decide, rfl, rfl⟩))) rfl (by omega)⟩, hm.sub (.refl _)⟩)
   refine ntQ (fsQ rfl (zde (zag (zag (reQ 1 rfl ?_)))))
   refine hvQ rfl (lnQ rfl rfl rfl (fun w hm => hu w (hm.sub (.cons _ (.refl _))))) (zbu rfl rfl rfl rfl rfl rfl (fun h91 => ?_) (fun h91 => ?_))
   ·
    refine ntQ (zaj rfl (srQ (hvQ rfl (zbl (cs := #[.int .i64 0, .int .i64 1, .int .i64 0]) rfl rfl rfl) ?_)))
    refine zdu rfl (zan (z := .agg #[.int .i64 0, .int .i64 0, .int .i64 0]) (s := 3) (cs := ([0, 1, 0].map (Value.int .i64))) rfl Try.underlying71 rfl (by decide) rfl (by kernel_rfl) rfl) ?_
    intro g92
    refine zaz 1 rfl ?_
    refine zap (zdw ?_)
    refine zbk 2 [0, 1] rfl rfl (by decide) ?_
    refine zcf 2 rfl ?_
    exact zdb (rs := [.tmp 6]) (vs := [.slice (some ⟨g92, 0, none⟩) 1 1]) rfl ⟨rfl, trivial⟩ rfl (fun w hm => ⟨_, bigE [curE g a len cap, rowE 97 3 (.slice (some ⟨g92, 0, none⟩) 1 1) 1 ([0, 1, 0].map (Value.int .i64))], rfl, ⟨[Oq.mk 0 1 0], rfl, zdm (by first | exact .inl ⟨rfl, ⟨by dsimp only; omega, by dsimp only; omega⟩, rfl⟩ | exact .inr (.inl ⟨rfl, ⟨by dsimp only; omega, by dsimp only; omega⟩, rfl⟩) | exact .inr (.inr (.inl ⟨rfl, ⟨by dsimp only; omega, by dsimp only; omega⟩, by dsimp only; omega, by dsimp only; omega⟩)) | exact .inr (.inr (.inr ⟨by decide, by decide, by decide, by decide, rfl, rfl⟩))) rfl (by omega)⟩, hm.sub (.refl _)⟩)
   refine ntQ (zas rfl (zcy (zag (reQ 3 rfl ?_))))
   refine hvQ rfl (lnQ rfl rfl rfl (fun w hm => hu w (hm.sub (.cons _ (.refl _))))) (zcm (R := (fun u_ p_ => (∃ x_ : Int, u_ = .int .i64 x_ ∧ 0 ≤ x_ ∧ x_ < (A.length : Int)) ∧ p_ = curE g a len cap)) 0 rfl rfl rfl rfl rfl (fun l' w hm => zce g a len cap z (A.length : Int) _ _ _ hm hb (by constructor <;> omega)) ?_)
   intro v93 p94 hR95
   obtain ⟨⟨xhR95, rfl, xhR950, xhR951⟩, rfl⟩ := hR95
   refine zcs (l' := (curE g a len cap :: l)) rfl ?_
   refine hvQ rfl (riQ 1 rfl rfl rfl rfl (fun w hm => hu w (hm.sub (.cons _ (.refl _))))) (hvQ rfl (lzQ rfl rfl rfl (fun w hm => hu w (hm.sub (.cons _ (.refl _))))) ?_)
   refine hvQ rfl (zbl (cs := #[.int .i64 2, .int .i64 (A.getD ((xhR95).toNat) 0), .int .i64 0]) rfl rfl rfl) (zdu rfl (zan (z := .agg #[.int .i64 0, .int .i64 0, .int .i64 0]) (s := 3) (cs := ([2, A.getD ((xhR95).toNat) 0, 0].map (Value.int .i64))) rfl Try.underlying71 rfl (by decide) rfl (by kernel_rfl) rfl) ?_)
   intro g96
   refine zaz 1 rfl ?_
   refine zap (zaf ?_)
   have hA8 := hA _ (zch (d := (0 : Int)) (show xhR95.toNat < A.length by omega))
   refine zbk 2 [0, 1] rfl rfl (by decide) ?_
   refine zcf 2 rfl ?_
   exact zdb (rs := [.tmp 6]) (vs := [.slice (some ⟨g96, 0, none⟩) 1 1]) rfl ⟨rfl, trivial⟩ rfl (fun w hm => ⟨_, bigE [curE g a len cap, rowE 97 3 (.slice (some ⟨g96, 0, none⟩) 1 1) 1 ([2, A.getD ((xhR95).toNat) 0, 0].map (Value.int .i64))], rfl, ⟨[Oq.mk 2 (A.getD ((xhR95).toNat) 0) 0], rfl, zdm (by first | exact .inl ⟨rfl, ⟨by dsimp only; omega, by dsimp only; omega⟩, rfl⟩ | exact .inr (.inl ⟨rfl, ⟨by dsimp only; omega, by dsimp only; omega⟩, rfl⟩) | exact .inr (.inr (.inl ⟨rfl, ⟨by dsimp only; omega, by dsimp only; omega⟩, by dsimp only; omega, by dsimp only; omega⟩)) | exact .inr (.inr (.inr ⟨by decide, by decide, by decide, by decide, rfl, rfl⟩))) rfl (by omega)⟩, hm.sub (.refl _)⟩)
  refine zaz 1 rfl (zas rfl (zao ?_))
  refine zbu rfl rfl rfl rfl rfl rfl (fun h97 => ?_) (fun h97 => ?_)
  ·
   refine zaz 1 rfl (zaj rfl (zag (reQ 1 rfl ?_)))
   refine hvQ rfl (lnQ rfl rfl rfl (fun w hm => hu w (hm.sub (.cons _ (.refl _))))) (zec rfl rfl rfl rfl rfl rfl (fun h98 => ?_) (fun h98 => ?_))
   ·
    refine ntQ (zaj rfl (zag ?_))
    refine zeu (l := (l)) rfl 11 [0, 1, 2, 3, 4, 5, 6, 7, 8, 9, 10] (List.take 11 _) (List.drop 11 _) [[], [], [], [2], [1, 3], [0, 4], [4, 5], [], [4, 7], [4, 6, 8], [4, 8, 9]] [37, 38, 39, 40, 41, 42, 43, 44, 45, 46, 47] (fun i_ vs_ v_ p_ => match i_ with | 0 => v_ = u ∧ p_ = [] | 1 => v_ = .pointer (some ⟨g, 0, none⟩) ∧ p_ = [] | 2 => v_ = u ∧ p_ = [] | 3 => v_ = .int .i64 (A.length : Int) ∧ p_ = [] | 4 => (∃ pm_, p_ = [pm_] ∧ (fun u_ p_ => (∃ x_ : Int, u_ = .int .i64 x_ ∧ 0 ≤ x_ ∧ x_ < (A.length : Int)) ∧ p_ = curE g a len cap) v_ pm_) | 5 => v_ = elP u (((intOf_o (List.getD vs_ 1 undef))).toNat * 1) ∧ p_ = [] | 6 => v_ = .int .i64 (A.getD (((intOf_o (List.getD vs_ 0 undef))).toNat) 0) ∧ p_ = [] | 7 => v_ = .pointer (some ⟨g, 0, none⟩) ∧ p_ = [] | 8 => (∃ pm_, p_ = [pm_] ∧ (fun u_ p_ => (∃ x_ : Int, u_ = .int .i64 x_ ∧ 0 ≤ x_ ∧ x_ < 2) ∧ p_ = curE g a len cap) v_ pm_) | 9 => v_ = .agg #[.int .i64 3, .int .i64 (A.getD (((intOf_o (List.getD vs_ 0 undef))).toNat) 0), .int .i64 (intOf_o (List.getD vs_ 2 undef))] ∧ p_ = [] | 10 => IsRow 97 3 1 ([3, A.getD (((intOf_o (List.getD vs_ 0 undef))).toNat) 0, (intOf_o (List.getD vs_ 1 undef))].map (Value.int .i64)) v_ p_ | _ => True) [[], [], [], [2], [1, 3], [0], [5], [], [7], [6, 8], [8, 9]] [none, none, none, none, some 12, none, none, none, some 4, none, none] [curE g a len cap] [0, 1, 2, 3, 5, 6, 7, 8, 9, 10] 12 (List.take_append_drop 11 _).symm (by kernel_rfl) (by kernel_rfl) (by kernel_rfl) rfl rfl ?_ ?_
    ·
     refine ⟨?_, ?_, ?_, ?_, ?_, ?_, ?_, ?_, ?_, ?_, ?_, trivial⟩
     ·
      intro vf pf hmu hR
      refine dqQ [] [] rfl (zcd (zav [1] rfl) ?_)
      exact zbz (zax rfl)
     ·
      intro vf pf hmu hR
      refine dqQ [] [] rfl (zcd (zav [0] rfl) ?_)
      exact zbz (zax rfl)
     ·
      intro vf pf hmu hR
      refine dqQ [] [] rfl (zcd (zav [1] rfl) ?_)
      exact zbz (zax rfl)
     ·
      intro vf pf hmu hR
      have e2 := hR 2 (by decide)
      refine dqQ [2] [2] rfl (zbm (sk 39 (congrArg some e2.1) (zam _)) (List.sublist_append_right _ _) ?_)
      exact zbz (lnQ rfl rfl rfl (fun w hm => hu w (hm.sub (.refl _))))
     ·
      intro vf pf hmu hR
      have e1 := hR 1 (by decide)
      have e3 := hR 3 (by decide)
      refine Or.inl ⟨rfl, ?_⟩
      show RunM _ _ _ (pf 12) (([1, 3] : List Nat).flatMap pf ++ _) (envOf _ vf [1, 3] ++ _) _ _
      rw [hmu]
      exact zdn (sk 38 (congrArg some e1.1) (sk 40 (congrArg some e3.1) (zam _))) (by simp only [e1.2, e3.2, fS] <;> rfl) (zdr (R := (fun u_ p_ => (∃ x_ : Int, u_ = .int .i64 x_ ∧ 0 ≤ x_ ∧ x_ < (A.length : Int)) ∧ p_ = curE g a len cap)) rfl rfl (fun L w hX hm => zce g a len cap z (A.length : Int) _ _ _ hm hb (by constructor <;> omega)))
     ·
      intro vf pf hmu hR
      have e0 := hR 0 (by decide)
      have e4 : (∃ pm_, (pf 4) = [pm_] ∧ (fun u_ p_ => (∃ x_ : Int, u_ = .int .i64 x_ ∧ 0 ≤ x_ ∧ x_ < (A.length : Int)) ∧ p_ = curE g a len cap) (vf 4) pm_) := hR 4 (by decide)
      obtain ⟨p100, pE4, hR101⟩ := e4
      obtain ⟨v99, vE4⟩ : ∃ x, vf 4 = x := ⟨_, rfl⟩
      rw [vE4] at hR101
      obtain ⟨⟨xhR101, rfl, xhR1010, xhR1011⟩, rfl⟩ := hR101
      refine dqQ [0] [0, 4] rfl (zbm (sk 37 (congrArg some e0.1) (sk 41 (congrArg some vE4) (zam _))) (List.sublist_append_right _ _) ?_)
      exact zct (zbz (riQ 1 rfl rfl rfl rfl (fun w hm => hu w (hm.sub (.refl _))))) (fun _ _ h => ⟨h.1.trans (by show _ = (elP u (((intOf_o (vf 4))).toNat * 1) : Value); first | (rw [vE4]; done) | (rw [vE4]; rfl)), h.2⟩)
     ·
      intro vf pf hmu hR
      have e4 : (∃ pm_, (pf 4) = [pm_] ∧ (fun u_ p_ => (∃ x_ : Int, u_ = .int .i64 x_ ∧ 0 ≤ x_ ∧ x_ < (A.length : Int)) ∧ p_ = curE g a len cap) (vf 4) pm_) := hR 4 (by decide)
      obtain ⟨p100, pE4, hR101⟩ := e4
      obtain ⟨v99, vE4⟩ : ∃ x, vf 4 = x := ⟨_, rfl⟩
      rw [vE4] at hR101
      obtain ⟨⟨xhR101, rfl, xhR1010, xhR1011⟩, rfl⟩ := hR101
      have e5 : (vf 5) = elP u (((intOf_o (vf 4))).toNat * 1) ∧ (pf 5) = [] := hR 5 (by decide)
      rw [vE4] at e5; try simp only [intOf_o] at e5
      refine dqQ [5] [4, 5] rfl (zbm (sk 42 (congrArg some e5.1) (zam _)) (List.sublist_append_right _ _) ?_)
      exact zct (zbz (lzQ rfl rfl rfl (fun w hm => hu w (hm.sub (.refl _))))) (fun _ _ h => ⟨h.1.trans (by show _ = (.int .i64 (A.getD (((intOf_o (vf 4))).toNat) 0) : Value); first | (rw [vE4]; done) | (rw [vE4]; rfl)), h.2⟩)
     ·
      intro vf pf hmu hR
      refine dqQ [] [] rfl (zcd (zav [0] rfl) ?_)
      exact zbz (zax rfl)
     ·
      intro vf pf hmu hR
      have e4 : (∃ pm_, (pf 4) = [pm_] ∧ (fun u_ p_ => (∃ x_ : Int, u_ = .int .i64 x_ ∧ 0 ≤ x_ ∧ x_ < (A.length : Int)) ∧ p_ = curE g a len cap) (vf 4) pm_) := hR 4 (by decide)
      obtain ⟨p100, pE4, hR101⟩ := e4
      obtain ⟨v99, vE4⟩ : ∃ x, vf 4 = x := ⟨_, rfl⟩
      rw [vE4] at hR101
      obtain ⟨⟨xhR101, rfl, xhR1010, xhR1011⟩, rfl⟩ := hR101
      have e7 := hR 7 (by decide)
      refine Or.inl ⟨rfl, ?_⟩
      show RunM _ _ _ (pf 4) (([7] : List Nat).flatMap pf ++ _) (envOf _ vf [4, 7] ++ _) _ _
      rw [pE4]
      exact zdn (sk 44 (congrArg some e7.1) (zam _)) (by simp only [e7.2, fS] <;> rfl) (zdr (R := (fun u_ p_ => (∃ x_ : Int, u_ = .int .i64 x_ ∧ 0 ≤ x_ ∧ x_ < 2) ∧ p_ = curE g a len cap)) rfl rfl (fun L w hX hm => zce g a len cap z 2 _ _ _ hm hb (by constructor <;> omega)))
     ·
      intro vf pf hmu hR
      have e4 : (∃ pm_, (pf 4) = [pm_] ∧ (fun u_ p_ => (∃ x_ : Int, u_ = .int .i64 x_ ∧ 0 ≤ x_ ∧ x_ < (A.length : Int)) ∧ p_ = curE g a len cap) (vf 4) pm_) := hR 4 (by decide)
      obtain ⟨p100, pE4, hR101⟩ := e4
      obtain ⟨v99, vE4⟩ : ∃ x, vf 4 = x := ⟨_, rfl⟩
      rw [vE4] at hR101
      obtain ⟨⟨xhR101, rfl, xhR1010, xhR1011⟩, rfl⟩ := hR101
      have e6 : (vf 6) = .int .i64 (A.getD (((intOf_o (vf 4))).toNat) 0) ∧ (pf 6) = [] := hR 6 (by decide)
      rw [vE4] at e6; try simp only [intOf_o] at e6
      have e8 : (∃ pm_, (pf 8) = [pm_] ∧ (fun u_ p_ => (∃ x_ : Int, u_ = .int .i64 x_ ∧ 0 ≤ x_ ∧ x_ < 2) ∧ p_ = curE g a len cap) (vf 8) pm_) := hR 8 (by decide)
      obtain ⟨p103, pE8, hR104⟩ := e8
      obtain ⟨v102, vE8⟩ : ∃ x, vf 8 = x := ⟨_, rfl⟩
      rw [vE8] at hR104
      obtain ⟨⟨xhR104, rfl, xhR1040, xhR1041⟩, rfl⟩ := hR104
      refine dqQ [6, 8] [4, 6, 8] rfl (zco (sk 43 (congrArg some e6.1) (sk 45 (congrArg some vE8) (zam _))) (by simp only [pE8, vE8, e6.2, fS] <;> rfl) ?_)
      exact zct (zbz (zbl (cs := #[.int .i64 3, .int .i64 (A.getD ((xhR101).toNat) 0), .int .i64 xhR104]) rfl rfl rfl)) (fun _ _ h => ⟨h.1.trans (by show _ = (.agg #[.int .i64 3, .int .i64 (A.getD (((intOf_o (vf 4))).toNat) 0), .int .i64 (intOf_o (vf 8))] : Value); first | (rw [vE4, vE8]; done) | (rw [vE4, vE8]; rfl)), h.2⟩)
     intro vf pf hmu hR
     have e4 : (∃ pm_, (pf 4) = [pm_] ∧ (fun u_ p_ => (∃ x_ : Int, u_ = .int .i64 x_ ∧ 0 ≤ x_ ∧ x_ < (A.length : Int)) ∧ p_ = curE g a len cap) (vf 4) pm_) := hR 4 (by decide)
     obtain ⟨p100, pE4, hR101⟩ := e4
     obtain ⟨v99, vE4⟩ : ∃ x, vf 4 = x := ⟨_, rfl⟩
     rw [vE4] at hR101
     obtain ⟨⟨xhR101, rfl, xhR1010, xhR1011⟩, rfl⟩ := hR101
     have e8 : (∃ pm_, (pf 8) = [pm_] ∧ (fun u_ p_ => (∃ x_ : Int, u_ = .int .i64 x_ ∧ 0 ≤ x_ ∧ x_ < 2) ∧ p_ = curE g a len cap) (vf 8) pm_) := hR 8 (by decide)
     obtain ⟨p103, pE8, hR104⟩ := e8
     obtain ⟨v102, vE8⟩ : ∃ x, vf 8 = x := ⟨_, rfl⟩
     rw [vE8] at hR104
     obtain ⟨⟨xhR104, rfl, xhR1040, xhR1041⟩, rfl⟩ := hR104
     have e9 : (vf 9) = .agg #[.int .i64 3, .int .i64 (A.getD (((intOf_o (vf 4))).toNat) 0), .int .i64 (intOf_o (vf 8))] ∧ (pf 9) = [] := hR 9 (by decide)
     rw [vE4, vE8] at e9; try simp only [intOf_o] at e9
     refine dqQ [8, 9] [4, 8, 9] rfl (zco (sk 46 (congrArg some e9.1) (zam _)) (by simp only [pE8, vE8, e9.2, fS] <;> rfl) ?_)
     exact zct (zan (z := .agg #[.int .i64 0, .int .i64 0, .int .i64 0]) (s := 3) (cs := ([3, A.getD ((xhR101).toNat) 0, xhR104].map (Value.int .i64))) rfl Try.underlying71 rfl (by decide) rfl (by kernel_rfl) rfl) (fun v_ p_ h => by show IsRow 97 3 1 ([3, A.getD (((intOf_o (vf 4))).toNat) 0, (intOf_o (vf 8))].map (Value.int .i64)) v_ p_; rw [vE4, vE8]; exact h)
    intro vf pf hmu hR
    have e4 : (∃ pm_, (pf 4) = [pm_] ∧ (fun u_ p_ => (∃ x_ : Int, u_ = .int .i64 x_ ∧ 0 ≤ x_ ∧ x_ < (A.length : Int)) ∧ p_ = curE g a len cap) (vf 4) pm_) := hR 4 (by decide)
    obtain ⟨p100, pE4, hR101⟩ := e4
    obtain ⟨v99, vE4⟩ : ∃ x, vf 4 = x := ⟨_, rfl⟩
    rw [vE4] at hR101
    obtain ⟨⟨xhR101, rfl, xhR1010, xhR1011⟩, rfl⟩ := hR101
    have e8 : (∃ pm_, (pf 8) = [pm_] ∧ (fun u_ p_ => (∃ x_ : Int, u_ = .int .i64 x_ ∧ 0 ≤ x_ ∧ x_ < 2) ∧ p_ = curE g a len cap) (vf 8) pm_) := hR 8 (by decide)
    obtain ⟨p103, pE8, hR104⟩ := e8
    obtain ⟨v102, vE8⟩ : ∃ x, vf 8 = x := ⟨_, rfl⟩
    rw [vE8] at hR104
    obtain ⟨⟨xhR104, rfl, xhR1040, xhR1041⟩, rfl⟩ := hR104
    have e10 : IsRow 97 3 1 ([3, A.getD (((intOf_o (vf 4))).toNat) 0, (intOf_o (vf 8))].map (Value.int .i64)) (vf 10) (pf 10) := hR 10 (by decide)
    rw [vE4, vE8] at e10; try simp only [intOf_o] at e10
    obtain ⟨g105, vE10, pE10⟩ := e10
    have q0 := hR 0 (by decide)
    have q1 := hR 1 (by decide)
    have q2 := hR 2 (by decide)
    have q3 := hR 3 (by decide)
    have q5 := hR 5 (by decide)
    have q6 := hR 6 (by decide)
    have q7 := hR 7 (by decide)
    have q9 := hR 9 (by decide)
    refine zdj (zcu [36, 31, 25, 19, 18, 16, 6, 2, 1, 0] _ (sk 47 (congrArg some vE10) (zam _)) rfl) (by simp only [pE8, vE8, pE10, vE10, q0.2, q1.2, q2.2, q3.2, q5.2, q6.2, q7.2, q9.2, fS] <;> rfl) ?_
    simp only [List.drop_succ_cons, List.drop_zero]
    refine zaz 1 rfl ?_
    refine zap (zad ?_)
    refine zdw ?_
    have hA8 := hA _ (zch (d := (0 : Int)) (show xhR101.toNat < A.length by omega))
    refine zbk 2 [1, 0] rfl rfl (by decide) ?_
    refine zcf 2 rfl ?_
    exact zdb (rs := [.tmp 6]) (vs := [.slice (some ⟨g105, 0, none⟩) 1 1]) rfl ⟨rfl, trivial⟩ rfl (fun w hm => ⟨_, bigE [curE g a len cap, rowE 97 3 (.slice (some ⟨g105, 0, none⟩) 1 1) 1 ([3, A.getD ((xhR101).toNat) 0, xhR104].map (Value.int .i64))], rfl, ⟨[Oq.mk 3 (A.getD ((xhR101).toNat) 0) xhR104], rfl, zdm (by first | exact .inl ⟨rfl, ⟨by dsimp only; omega, by dsimp only; omega⟩, rfl⟩ | exact .inr (.inl ⟨rfl, ⟨by dsimp only; omega, by dsimp only; omega⟩, rfl⟩) | exact .inr (.inr (.inl ⟨rfl, ⟨by dsimp only; omega, by dsimp only; omega⟩, by dsimp only; omega, by dsimp only; omega⟩)) | exact .inr (.inr (.inr ⟨by decide, by decide, by decide, by decide, rfl, rfl⟩))) rfl (by omega)⟩, hm.sub (.refl _)⟩)
   refine ntQ (fsQ rfl (zde (zag (zag (reQ 1 rfl ?_)))))
   refine hvQ rfl (lnQ rfl rfl rfl (fun w hm => hu w (hm.sub (.cons _ (.refl _))))) (zbu rfl rfl rfl rfl rfl rfl (fun h106 => ?_) (fun h106 => ?_))
   ·
    refine ntQ (zaj rfl (srQ (hvQ rfl (zbl (cs := #[.int .i64 0, .int .i64 1, .int .i64 0]) rfl rfl rfl) ?_)))
    refine zdu rfl (zan (z := .agg #[.int .i64 0, .int .i64 0, .int .i64 0]) (s := 3) (cs := ([0, 1, 0].map (Value.int .i64))) rfl Try.underlying71 rfl (by decide) rfl (by kernel_rfl) rfl) ?_
    intro g107
    refine zaz 1 rfl ?_
    refine zap (zdw ?_)
    refine zbk 2 [0, 1] rfl rfl (by decide) ?_
    refine zcf 2 rfl ?_
    exact zdb (rs := [.tmp 6]) (vs := [.slice (some ⟨g107, 0, none⟩) 1 1]) rfl ⟨rfl, trivial⟩ rfl (fun w hm => ⟨_, bigE [curE g a len cap, rowE 97 3 (.slice (some ⟨g107, 0, none⟩) 1 1) 1 ([0, 1, 0].map (Value.int .i64))], rfl, ⟨[Oq.mk 0 1 0], rfl, zdm (by first | exact .inl ⟨rfl, ⟨by dsimp only; omega, by dsimp only; omega⟩, rfl⟩ | exact .inr (.inl ⟨rfl, ⟨by dsimp only; omega, by dsimp only; omega⟩, rfl⟩) | exact .inr (.inr (.inl ⟨rfl, ⟨by dsimp only; omega, by dsimp only; omega⟩, by dsimp only; omega, by dsimp only; omega⟩)) | exact .inr (.inr (.inr ⟨by decide, by decide, by decide, by decide, rfl, rfl⟩))) rfl (by omega)⟩, hm.sub (.refl _)⟩)
   refine ntQ (zas rfl (zcy (zag (reQ 3 rfl ?_))))
   refine hvQ rfl (lnQ rfl rfl rfl (fun w hm => hu w (hm.sub (.cons _ (.refl _))))) (zcm (R := (fun u_ p_ => (∃ x_ : Int, u_ = .int .i64 x_ ∧ 0 ≤ x_ ∧ x_ < (A.length : Int)) ∧ p_ = curE g a len cap)) 0 rfl rfl rfl rfl rfl (fun l' w hm => zce g a len cap z (A.length : Int) _ _ _ hm hb (by constructor <;> omega)) ?_)
   intro v108 p109 hR110
   obtain ⟨⟨xhR110, rfl, xhR1100, xhR1101⟩, rfl⟩ := hR110
   refine zcs (l' := (curE g a len cap :: l)) rfl ?_
   refine hvQ rfl (riQ 1 rfl rfl rfl rfl (fun w hm => hu w (hm.sub (.cons _ (.refl _))))) (hvQ rfl (lzQ rfl rfl rfl (fun w hm => hu w (hm.sub (.cons _ (.refl _))))) ?_)
   refine hvQ rfl (zbl (cs := #[.int .i64 2, .int .i64 (A.getD ((xhR110).toNat) 0), .int .i64 0]) rfl rfl rfl) (zdu rfl (zan (z := .agg #[.int .i64 0, .int .i64 0, .int .i64 0]) (s := 3) (cs := ([2, A.getD ((xhR110).toNat) 0, 0].map (Value.int .i64))) rfl Try.underlying71 rfl (by decide) rfl (by kernel_rfl) rfl) ?_)
   intro g111
   refine zaz 1 rfl ?_
   refine zap (zaf ?_)
   have hA8 := hA _ (zch (d := (0 : Int)) (show xhR110.toNat < A.length by omega))
   refine zbk 2 [0, 1] rfl rfl (by decide) ?_
   refine zcf 2 rfl ?_
   exact zdb (rs := [.tmp 6]) (vs := [.slice (some ⟨g111, 0, none⟩) 1 1]) rfl ⟨rfl, trivial⟩ rfl (fun w hm => ⟨_, bigE [curE g a len cap, rowE 97 3 (.slice (some ⟨g111, 0, none⟩) 1 1) 1 ([2, A.getD ((xhR110).toNat) 0, 0].map (Value.int .i64))], rfl, ⟨[Oq.mk 2 (A.getD ((xhR110).toNat) 0) 0], rfl, zdm (by first | exact .inl ⟨rfl, ⟨by dsimp only; omega, by dsimp only; omega⟩, rfl⟩ | exact .inr (.inl ⟨rfl, ⟨by dsimp only; omega, by dsimp only; omega⟩, rfl⟩) | exact .inr (.inr (.inl ⟨rfl, ⟨by dsimp only; omega, by dsimp only; omega⟩, by dsimp only; omega, by dsimp only; omega⟩)) | exact .inr (.inr (.inr ⟨by decide, by decide, by decide, by decide, rfl, rfl⟩))) rfl (by omega)⟩, hm.sub (.refl _)⟩)
  refine zaz 1 rfl (fsQ rfl (zde (zag (zag (reQ 1 rfl ?_)))))
  refine hvQ rfl (lnQ rfl rfl rfl (fun w hm => hu w (hm.sub (.cons _ (.refl _))))) (zbu rfl rfl rfl rfl rfl rfl (fun h112 => ?_) (fun h112 => ?_))
  ·
   refine ntQ (zaj rfl (srQ (hvQ rfl (zbl (cs := #[.int .i64 0, .int .i64 1, .int .i64 0]) rfl rfl rfl) ?_)))
   refine zdu rfl (zan (z := .agg #[.int .i64 0, .int .i64 0, .int .i64 0]) (s := 3) (cs := ([0, 1, 0].map (Value.int .i64))) rfl Try.underlying71 rfl (by decide) rfl (by kernel_rfl) rfl) ?_
   intro g113
   refine zaz 1 rfl ?_
   refine zap (zdw ?_)
   refine zbk 2 [0, 1] rfl rfl (by decide) ?_
   refine zcf 2 rfl ?_
   exact zdb (rs := [.tmp 6]) (vs := [.slice (some ⟨g113, 0, none⟩) 1 1]) rfl ⟨rfl, trivial⟩ rfl (fun w hm => ⟨_, bigE [curE g a len cap, rowE 97 3 (.slice (some ⟨g113, 0, none⟩) 1 1) 1 ([0, 1, 0].map (Value.int .i64))], rfl, ⟨[Oq.mk 0 1 0], rfl, zdm (by first | exact .inl ⟨rfl, ⟨by dsimp only; omega, by dsimp only; omega⟩, rfl⟩ | exact .inr (.inl ⟨rfl, ⟨by dsimp only; omega, by dsimp only; omega⟩, rfl⟩) | exact .inr (.inr (.inl ⟨rfl, ⟨by dsimp only; omega, by dsimp only; omega⟩, by dsimp only; omega, by dsimp only; omega⟩)) | exact .inr (.inr (.inr ⟨by decide, by decide, by decide, by decide, rfl, rfl⟩))) rfl (by omega)⟩, hm.sub (.refl _)⟩)
  refine ntQ (zas rfl (zcy (zag (reQ 3 rfl ?_))))
  refine hvQ rfl (lnQ rfl rfl rfl (fun w hm => hu w (hm.sub (.cons _ (.refl _))))) (zcm (R := (fun u_ p_ => (∃ x_ : Int, u_ = .int .i64 x_ ∧ 0 ≤ x_ ∧ x_ < (A.length : Int)) ∧ p_ = curE g a len cap)) 0 rfl rfl rfl rfl rfl (fun l' w hm => zce g a len cap z (A.length : Int) _ _ _ hm hb (by constructor <;> omega)) ?_)
  intro v114 p115 hR116
  obtain ⟨⟨xhR116, rfl, xhR1160, xhR1161⟩, rfl⟩ := hR116
  refine zcs (l' := (curE g a len cap :: l)) rfl ?_
  refine hvQ rfl (riQ 1 rfl rfl rfl rfl (fun w hm => hu w (hm.sub (.cons _ (.refl _))))) (hvQ rfl (lzQ rfl rfl rfl (fun w hm => hu w (hm.sub (.cons _ (.refl _))))) ?_)
  refine hvQ rfl (zbl (cs := #[.int .i64 2, .int .i64 (A.getD ((xhR116).toNat) 0), .int .i64 0]) rfl rfl rfl) (zdu rfl (zan (z := .agg #[.int .i64 0, .int .i64 0, .int .i64 0]) (s := 3) (cs := ([2, A.getD ((xhR116).toNat) 0, 0].map (Value.int .i64))) rfl Try.underlying71 rfl (by decide) rfl (by kernel_rfl) rfl) ?_)
  intro g117
  refine zaz 1 rfl ?_
  refine zap (zaf ?_)
  have hA8 := hA _ (zch (d := (0 : Int)) (show xhR116.toNat < A.length by omega))
  refine zbk 2 [0, 1] rfl rfl (by decide) ?_
  refine zcf 2 rfl ?_
  exact zdb (rs := [.tmp 6]) (vs := [.slice (some ⟨g117, 0, none⟩) 1 1]) rfl ⟨rfl, trivial⟩ rfl (fun w hm => ⟨_, bigE [curE g a len cap, rowE 97 3 (.slice (some ⟨g117, 0, none⟩) 1 1) 1 ([2, A.getD ((xhR116).toNat) 0, 0].map (Value.int .i64))], rfl, ⟨[Oq.mk 2 (A.getD ((xhR116).toNat) 0) 0], rfl, zdm (by first | exact .inl ⟨rfl, ⟨by dsimp only; omega, by dsimp only; omega⟩, rfl⟩ | exact .inr (.inl ⟨rfl, ⟨by dsimp only; omega, by dsimp only; omega⟩, rfl⟩) | exact .inr (.inr (.inl ⟨rfl, ⟨by dsimp only; omega, by dsimp only; omega⟩, by dsimp only; omega, by dsimp only; omega⟩)) | exact .inr (.inr (.inr ⟨by decide, by decide, by decide, by decide, rfl, rfl⟩))) rfl (by omega)⟩, hm.sub (.refl _)⟩)
 refine zaz 1 rfl (zas rfl (zcy (zag (reQ 1 rfl ?_))))
 refine zdu rfl (zan (z := .int .i64 0) (s := 1) (cs := ([4, 5, 6, 7, 8, 9, 10, 11, 12, 7, 12].map (Value.int .i64))) rfl Try.underlying48 rfl (by decide) rfl (by kernel_rfl) rfl) ?_
 intro g118
 refine zei (R := (fun u_ p_ => (∃ x : Int, u_ = .int .i64 x ∧ x ∈ ([4, 5, 6, 7, 8, 9, 10, 11, 12, 7, 12] : List Int)) ∧ p_ = curE g a len cap)) 1 rfl rfl rfl rfl rfl (fun L w hX hm => zdz g a len cap z (.slice (some ⟨g118, 0, none⟩) 11 11) [4, 5, 6, 7, 8, 9, 10, 11, 12, 7, 12] _ _ _ hm hb (fun w hm => (zai (l := (rowE 3 1 (.slice (some ⟨g118, 0, none⟩) 11 11) 11 ([4, 5, 6, 7, 8, 9, 10, 11, 12, 7, 12].map (Value.int .i64)) :: l)) 0 rfl) w (hX w hm)) (by decide)) ?_
 intro v119 p120 hR121
 obtain ⟨⟨xhR121, rfl, xhR121m⟩, rfl⟩ := hR121
 have hx9 := arKind xhR121m
 have har9 := arI_op hx9
 refine zcs (l' := (rowE 3 1 (.slice (some ⟨g118, 0, none⟩) 11 11) 11 ([4, 5, 6, 7, 8, 9, 10, 11, 12, 7, 12].map (Value.int .i64)) :: curE g a len cap :: l)) rfl ?_
 refine zaz 1 rfl (zag (reQ 1 rfl (hvQ rfl (zbl (cs := #[.int .i64 xhR121, .int .i64 0, .int .i64 0]) rfl rfl rfl) ?_)))
 refine zdu rfl (zan (z := .agg #[.int .i64 0, .int .i64 0, .int .i64 0]) (s := 3) (cs := ([xhR121, 0, 0].map (Value.int .i64))) rfl Try.underlying71 rfl (by decide) rfl (by kernel_rfl) rfl) ?_
 intro g122
 refine zaz 1 rfl (zag (reQ 1 rfl ?_))
 refine zej rfl (zaw rfl rfl (fun w hm => zbe (zgg xhR121 w))) (zaz 1 rfl (zag (zbh 1 rfl (zba ?_))))
 refine lkQ3 (α := Nat) (β := Value) (γ := List Oq) [0, 1, 2, 6, 7, 9, 16] rfl (fun k gv os => (rowE 97 3 gv os.length (os.flatMap oqC) :: curE g a len cap :: l)) (fun k gv os => [(8, gv), (10, .int .i64 (k : Int))]) (fun k gv os => (k : Int) ≤ arI xhR121 ∧ PartP n os (arI xhR121 - (k : Int)) ∧ 1 ≤ os.length ∧ (os.length : Int) + (arI xhR121 - (k : Int)) * ((M - 1) / arI xhR121) ≤ M) (fun k gv os => (arI xhR121).toNat - k) 0 _ [Oq.mk xhR121 0 0] ⟨by omega, exStart n hx9⟩ (saQ rfl) (.cons_cons _ (.cons _ (.refl _))) ?_
 intro k gv os hi123
 obtain ⟨hk, hP, h1, hl⟩ := hi123
 have hol9 := exLen hx9 (by omega) hk hl
 refine zag (zag (reQ 2 rfl ?_))
 refine zbp rfl rfl rfl rfl rfl rfl (fun h124 => ?_) (fun h124 => ?_)
 ·
  refine ntQ (zaj rfl (zcy (sbQ (reQ 4 rfl (hvQ rfl (vsQ rfl rfl rfl) (zah 1 rfl ?_))))))
  refine hvQ rfl (rv_quo rfl rfl rfl (by refine ⟨?_, ?_, ?_⟩ <;> omega)) ?_
  have hq9 := exQuo (M := M) hx9 (by omega)
  refine zei (R := (fun u_ p_ => ∃ os : List Oq, p_ = bigE [curE g a len cap, rowE 97 3 u_ os.length (os.flatMap oqC)] ∧ ExP n ((M - 1) / (arI xhR121)) os)) 1 rfl rfl rfl rfl rfl (fun L w hX hm => IH ((M - 1) / (arI xhR121)) (by omega) (by omega) L w hm (fun w9 h9 => hu w9 ((hX w9 h9).sub (.cons _ (.refl _))))) ?_
  intro v125 p126 hR127
  obtain ⟨eshR127, rfl, heshR127⟩ := hR127
  have helhR127 := heshR127.2.2
  refine zcs (l' := (rowE 97 3 gv os.length (os.flatMap oqC) :: bigE [curE g a len cap, rowE 97 3 v125 eshR127.length (eshR127.flatMap oqC)] :: l)) rfl ?_
  refine hl_pick 2 [0, 1] rfl rfl (by decide) ?_
  refine zfv (curE g a len cap :: rowE 97 3 v125 eshR127.length (eshR127.flatMap oqC) :: rowE 97 3 gv os.length (os.flatMap oqC) :: l) zdh ?_
  refine zcq (i := 2) (z := .agg #[.int .i64 0, .int .i64 0, .int .i64 0]) (bytes := 24) (n' := (os ++ eshR127).length) (xs' := ((os ++ eshR127).flatMap oqC)) rfl rfl rfl rfl Try.underlying71 (by kernel_rfl) rfl rfl rfl rfl (zai 1 rfl) (flat_onesD oqC eshR127 (fun r u hu => by simp [oqC] at hu; first | (subst hu; rfl) | (rcases hu with rfl | rfl <;> rfl) | (rcases hu with rfl | rfl | rfl <;> rfl) | (rcases hu with rfl | rfl | rfl | rfl <;> rfl))) (by first | omega | (simp only [List.length_take, List.length_drop, List.length_append]; omega)) (zci os eshR127) (flat_app oqC os eshR127) (fun _ => rfl) ?_
  intro v128
  refine enQ 1 rfl (zde (reQ 1 rfl (hvQ rfl (vaQ rfl rfl rfl) (enQ 1 rfl ?_))))
  refine zbk 3 [0, 2] rfl rfl (by decide) ?_
  exact zcl (k + 1) v128 (os ++ eshR127) ⟨by omega, exStep hx9 (by omega) hP h1 hl heshR127⟩ (by omega) (saQ rfl) (.refl _)
 refine ntQ (zas rfl ?_)
 refine zbi (zdv ?_)
 refine zal (zar (zbh 2 rfl ?_))
 refine zap (zbk 2 [0, 1] rfl rfl (by decide) ?_)
 refine zcf 2 rfl ?_
 exact zdb (rs := [.tmp 6]) (vs := [gv]) rfl ⟨rfl, trivial⟩ rfl (fun w hm => ⟨_, bigE [curE g a len cap, rowE 97 3 gv os.length (os.flatMap oqC)], rfl, ⟨os, rfl, exEnd (x := xhR121) (k := k) (by omega) hP h1 hl⟩, hm.sub (.refl _)⟩)
theorem l04Expr_mut (g : Nat) (a : Option Addr) (len cap : Nat) (z : List Int) (n : Int) (u : Value) (A : List Int) (hA : ∀ x ∈ A, 0 ≤ x ∧ x < n) (hAl : A.length ≤ 100) (w0 : World) (hb : BRow .u8 w0 a len cap z) : ∀ (m : Nat) (M : Int), M.toNat ≤ m → 1 ≤ M ∧ M ≤ 15 → ∀ (l : List HP) (w : World), Mem w0 (curE g a len cap :: l) w → Rd w0 l u 1 A.length (A.map (Value.int .i64)) → Calls Try.prog 86 #[.pointer (some ⟨g, 0, none⟩), u, .int .i64 (M)] w (fun e_ w_ => ∃ v_ p_, e_ = .returned v_ ∧ (fun u_ p_ => ∃ os : List Oq, p_ = bigE [curE g a len cap, rowE 97 3 u_ os.length (os.flatMap oqC)] ∧ ExP n M os) v_ p_ ∧ Mem w0 (p_ :: l) w_)
  | 0, M, h, hM, _, _, _, _ => absurd h (by omega)
  | m + 1, M, h, hM, l, w, hm, hu => l04Expr_step g a len cap z n u A M w0 l w hm hb hu hA hAl hM (fun q h1 h2 l2 w2 hm2 hu2 => l04Expr_mut g a len cap z n u A hA hAl w0 hb m q (by omega) ⟨h1, by omega⟩ l2 w2 hm2 hu2)
theorem built_as (x0 : Int) (x1 : Value) (h1 : x1.oneCell' = true) : Try.prog.built 89 [(0, .int .i64 x0), (1, x1)] = some #[.int .i64 x0, x1] := by
  (cases x1 <;> first | (exact absurd h1 Bool.false_ne_true) | kernel_rfl)
theorem flat_oneAs {gs : List As} (h : ∀ g ∈ gs, g.ov.oneCell' = true) : ∀ q ∈ gs.flatMap asC, q.oneCell' = true := fun q hq => by
  obtain ⟨r, h1, h2⟩ := List.mem_flatMap.1 hq
  simp [asC] at h2
  rcases h2 with rfl | rfl
  · rfl
  · exact h r h1
theorem zeb (g : Nat) (a : Option Addr) (len cap : Nat) (z : List Int) (n : Int) (m : Md) (s : Int) (u : Value) (A : List Int) (w0 : World) (l : List HP) (w : World) (hm0 : Mem w0 (curE g a len cap :: l) w) (hb : BRow .u8 w0 a len cap z) (hu : Rd w0 l u 1 A.length (A.map (Value.int .i64))) (hA : ∀ x ∈ A, 0 ≤ x ∧ x < n) (hAl : A.length ≤ 100) (hg : Rd w0 l m.av 2 m.gs.length (m.gs.flatMap asC)) (hgl : m.gs.length ≤ 1000) (hone : ∀ g ∈ m.gs, g.ov.oneCell' = true) (ho : m.sv.oneCell' = true ∧ m.av.oneCell' = true ∧ m.iv.oneCell' = true ∧ m.mv.oneCell' = true) :
   Calls Try.prog 149 #[.pointer (some ⟨g, 0, none⟩), .agg #[m.sv, m.av, m.iv, m.mv], .int .i64 s, u] w (fun e_ w_ => ∃ v_ p_, e_ = .returned v_ ∧ (fun u_ p_ => ∃ (v' ov : Value) (os : List Oq) (ps : List HP), u_ = .agg #[m.sv, v', m.iv, m.mv] ∧ p_ = bigE [curE g a len cap, bigE ps] ∧ (∀ w, (bigE ps).holds w → RdsW w v' 2 (m.gs ++ [As.mk s ov os]).length ((m.gs ++ [As.mk s ov os]).flatMap asC) ∧ RdsW w ov 3 os.length (os.flatMap oqC)) ∧ v'.oneCell' = true ∧ ov.oneCell' = true ∧ ExP n 9 os) v_ p_ ∧ Mem w0 (p_ :: l) w_) := by
 refine zes (N := 22) (args := [.pointer (some ⟨g, 0, none⟩), .agg #[m.sv, m.av, m.iv, m.mv], .int .i64 s, u]) Try.func149 rfl rfl hm0 (srQ ?_)
 refine zdk rfl (zda rfl rfl) ?_
 intro b1
 refine zdk rfl (zbf (z := .agg #[.slice none 0 0, .slice none 0 0, .slice none 0 0, .slice none 0 0]) rfl rfl) ?_
 intro b2
 refine ntQ (srQ ?_)
 refine zdu rfl (zdq (s := 2) rfl Try.underlying31 rfl) ?_
 intro g3
 refine hvQ rfl (fdQ 1 rfl rfl rfl) (hvQ rfl (zac rfl rfl rfl (zaa 2 rfl rfl)) ?_)
 refine zcq (i := 0) (z := .agg #[.int .i64 0, .slice none 0 0]) (bytes := 32) (n' := m.gs.length) (xs' := (m.gs.flatMap asC)) rfl rfl rfl rfl Try.underlying31 (by kernel_rfl) rfl rfl rfl rfl (fun w hm => hg w (hm.sub (.cons _ (.cons _ (.cons _ (.cons _ (.refl _))))))) (flat_oneAs hone) (by omega) (Nat.zero_add _) (List.nil_append _) (fun _ => rfl) ?_
 intro v4
 refine zah 3 rfl (zei (R := (fun u_ p_ => ∃ os : List Oq, p_ = bigE [curE g a len cap, rowE 97 3 u_ os.length (os.flatMap oqC)] ∧ ExP n 9 os)) 3 rfl rfl rfl rfl rfl (fun L w hX hm => l04Expr_mut g a len cap z n u A hA hAl _ hb 9 9 (by decide) (by decide) L w hm (fun w9 h9 => hu w9 ((hX w9 h9).sub (.cons _ (.cons _ (.cons _ (.refl _))))))) ?_)
 intro v5 p6 hR7
 obtain ⟨os, rfl, hos⟩ := hR7
 have hol9 := hos.2.2
 refine zcs (l' := (rowE 89 2 v4 m.gs.length (m.gs.flatMap asC) :: boxE b2 #[.slice none 0 0, .slice none 0 0, .slice none 0 0, .slice none 0 0] 35 :: boxE b1 #[m.sv, m.av, m.iv, m.mv] 35 :: bigE [curE g a len cap, rowE 97 3 v5 os.length (os.flatMap oqC)] :: l)) rfl ?_
 refine hl_pick 4 [2, 1, 0, 3] rfl rfl (by decide) ?_
 refine zfv (curE g a len cap :: rowE 97 3 v5 os.length (os.flatMap oqC) :: rowE 89 2 v4 m.gs.length (m.gs.flatMap asC) :: boxE b2 #[.slice none 0 0, .slice none 0 0, .slice none 0 0, .slice none 0 0] 35 :: boxE b1 #[m.sv, m.av, m.iv, m.mv] 35 :: l) zdh ?_
 refine hvQ rfl (rv_buildMD (cs := #[.int .i64 s, v5]) rfl rfl (fun w hm => built_as s v5 ((zai 1 rfl w hm).one))) (zdu rfl (zan (z := .agg #[.int .i64 0, .slice none 0 0]) (s := 2) (cs := [.int .i64 s, v5]) rfl Try.underlying31 rfl (by decide) rfl (by kernel_rfl) rfl) ?_)
 intro g8
 refine zcn (i := 2) rfl (fun ho9 => ?_)
 refine zcq (i := 3) (z := .agg #[.int .i64 0, .slice none 0 0]) (bytes := 32) rfl rfl rfl rfl Try.underlying31 (by kernel_rfl) rfl rfl rfl rfl (zai 0 rfl) (zab rfl (zab ho9 zbb)) (by first | omega | (simp only [List.length_append, List.length_cons, List.length_nil]; omega)) (zci m.gs [(As.mk s v5 os)]) (zdi asC m.gs (As.mk s v5 os) _ rfl) (fun _ => rfl) ?_
 intro v10
 refine hvQ rfl (fdQ 1 rfl rfl rfl) (zcn (i := 3) rfl (fun ho11 => ?_))
 refine zem (i := 5) (cs' := #[m.sv, v10, m.iv, m.mv]) rfl rfl rfl rfl rfl rfl ho11 rfl rfl rfl rfl (ntQ (srQ (hvQ rfl (zau (cs := [m.sv, v10, m.iv, m.mv]) rfl rfl rfl rfl rfl (zaq 5 rfl 0 rfl)) ?_)))
 refine zbd (cs' := #[m.sv, v10, m.iv, m.mv]) (i := 4) (off := 0) (us := [m.sv, v10, m.iv, m.mv]) rfl rfl rfl rfl rfl rfl rfl (zab ho.1 (zab ho11 (zab ho.2.2.1 (zab ho.2.2.2 zbb)))) rfl rfl rfl (ntQ ?_)
 refine zap (zex (fun w hm => (zai 3 rfl w hm).one) (fun ho1 => ?_))
 refine zex (fun w hm => (zai 2 rfl w hm).one) (fun ho2 => ?_)
 refine zbk 6 [5, 4, 1, 0, 2, 3] rfl rfl (by decide) ?_
 refine zcf 2 rfl ?_
 refine zbk 5 [4, 3, 1, 0, 2] rfl rfl (by decide) ?_
 refine zcf 2 rfl ?_
 exact zdb (rs := [.cell 8 35]) (vs := [.agg #[m.sv, v10, m.iv, m.mv]]) rfl ⟨⟨b2, 0, [m.sv, v10, m.iv, m.mv], rfl, rfl, by kernel_rfl, by kernel_rfl, zaq 2 rfl 0 rfl⟩, trivial⟩ rfl (fun w hm => ⟨_, bigE [curE g a len cap, bigE [rowE 89 2 v10 ((m.gs ++ [(As.mk s v5 os)]).length) ((m.gs ++ [(As.mk s v5 os)]).flatMap asC), rowE 97 3 v5 os.length (os.flatMap oqC)]], rfl, ⟨v10, v5, os, [rowE 89 2 v10 ((m.gs ++ [(As.mk s v5 os)]).length) ((m.gs ++ [(As.mk s v5 os)]).flatMap asC), rowE 97 3 v5 os.length (os.flatMap oqC)], rfl, rfl, fun w hw => ⟨zcr (zbc hw List.mem_cons_self), zcr (zbc hw (List.mem_cons_of_mem _ List.mem_cons_self))⟩, ho1, ho2, hos⟩, hm.sub (.cons_cons _ (.cons _ (.cons _ (.cons _ (.refl _)))))⟩)
end Go.Proofs.Ytodiifjigjnalaa
