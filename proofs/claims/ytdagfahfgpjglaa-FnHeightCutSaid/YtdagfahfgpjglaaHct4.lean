/- Texts of the law FnHeightCut, part 4: what it uses. -/
import Derived.Test.YtdagfahfgpjglaaHct3
set_option linter.unusedVariables false
set_option linter.unusedSimpArgs false
set_option maxHeartbeats 4000000
set_option maxRecDepth 100000
namespace Go.Proofs.Ytdagfahfgpjglaa
open Go.RowKit Go.ChangeShapes
open Go.RowKit
open Go.Maps
open Go.ChangeMaps (setBlock heap_setBlock_same heap_setBlock_other)
theorem heightCut_ret (n : Nt) (ls : List Int) (lv : Value) (nd : Nat) (hh : Int) (w : World) (hr : RdsNt w n) (hn : NtOk n) (hl : RdsW w lv 1 ls.length (ls.map (Value.int .i64))) (hll : (ls.length : Int) = n.cnt) (hnd : n.fst ≤ (nd : Int) ∧ (nd : Int) < n.cnt) (hh1 : 1 ≤ hh) :
   Calls Try.prog 25 #[.agg #[.int .i64 n.ins, n.sv, n.av, n.ov], .int .i64 (nd : Int), .int .i64 hh, lv] w (Ret w (fun u_ p_ => ∃ (xs : List Int) (cv : Value) (okb : Bool), u_ = .tuple #[cv, .bool okb] ∧ p_ = [rowE 3 1 cv xs.length (xs.map (Value.int .i64))] ∧ okb = pBc (SepEx n ls (nd : Int) hh) ∧ (okb = true → CutH n ls (nd : Int) hh xs))) := by
 have hi0 := hn.i0
 have hi1 := hn.i1
 have hs1 := hn.s1
 have ha1 := hn.a1
 have ho1 := hn.o1
 have hcnt : n.cnt = 1 + n.ins + n.ss.length + n.gs.length := rfl
 have hfst : n.fst = 1 + n.ins + n.ss.length := rfl
 have hrp : (List.replicate n.cnt.toNat bl0).length = n.cnt.toNat := List.length_replicate
 have hrp2 : (List.replicate n.cnt.toNat (0 : Int)).length = n.cnt.toNat := List.length_replicate
 refine zbg (N := 131) (args := [.agg #[.int .i64 n.ins, n.sv, n.av, n.ov], .int .i64 (nd : Int), .int .i64 hh, lv]) Try.func25 rfl rfl ?_
 refine hc_keep _ [3, 2, 1, 0] rfl (zaa (zai ?_))
 refine hl_box rfl rfl rfl (zco rfl rfl) ?_
 intro b1
 refine zds 3 1 ?_
 refine zeu rfl rfl rfl (zae rfl) (zab 1 rfl (zbd [9, 8, 4, 3, 2, 1, 0] rfl (zay (zaj (zaa ?_)))))
 refine zfq (by kernel_rfl) 14 [0, 1, 2, 3, 4, 5, 6, 7, 8, 9, 10, 11, 12, 13] (List.take 14 _) (List.drop 14 _) [[], [], [], [2], [3], [], [5], [6], [], [8], [9], [], [0, 1, 4, 7, 10, 11], [4, 7, 10, 11, 12]] [21, 22, 23, 24, 25, 26, 27, 28, 29, 30, 31, 32, 33, 34] (fun i_ vs_ v_ p_ => match i_ with | 0 => v_ = .agg #[.int .i64 n.ins, n.sv, n.av, n.ov] ∧ p_ = [] | 1 => v_ = .int .i64 (nd : Int) ∧ p_ = [] | 2 => v_ = .agg #[.int .i64 n.ins, n.sv, n.av, n.ov] ∧ p_ = [] | 3 => v_ = .int .i64 n.cnt ∧ p_ = [] | 4 => IsRow 4 1 ((List.replicate (n.cnt).toNat bl0).length) ((List.replicate (n.cnt).toNat bl0).flatMap blC) v_ p_ | 5 => v_ = .agg #[.int .i64 n.ins, n.sv, n.av, n.ov] ∧ p_ = [] | 6 => v_ = .int .i64 n.cnt ∧ p_ = [] | 7 => IsRow 4 1 ((List.replicate (n.cnt).toNat bl0).length) ((List.replicate (n.cnt).toNat bl0).flatMap blC) v_ p_ | 8 => v_ = .agg #[.int .i64 n.ins, n.sv, n.av, n.ov] ∧ p_ = [] | 9 => v_ = .int .i64 n.cnt ∧ p_ = [] | 10 => IsRow 3 1 ((List.replicate (n.cnt).toNat (0 : Int)).length) ((List.replicate (n.cnt).toNat (0 : Int)).map (Value.int .i64)) v_ p_ | 11 => (fun v_ p_ => ∃ b_, v_ = .map (some b_) ∧ p_ = [egE b_ 0 (fun _ => none)]) v_ p_ | 12 => v_ = .agg #[.int .i64 n.ins, n.sv, n.av, n.ov, .int .i64 (nd : Int), (List.getD vs_ 2 undef), (List.getD vs_ 3 undef), (List.getD vs_ 4 undef), .map (some (mapBk (List.getD vs_ 5 undef)))] ∧ p_ = [] | 13 => IsBox #[.int .i64 n.ins, n.sv, n.av, n.ov, .int .i64 (nd : Int), (List.getD vs_ 0 undef), (List.getD vs_ 1 undef), (List.getD vs_ 2 undef), .map (some (mapBk (List.getD vs_ 3 undef)))] 69 v_ p_ | _ => True) (List.take_append_drop 14 _).symm (by kernel_rfl) (by kernel_rfl) rfl rfl ?_ ?_
 ·
  refine ⟨?_, ?_, ?_, ?_, ?_, ?_, ?_, ?_, ?_, ?_, ?_, ?_, ?_, ?_, trivial⟩
  ·
   intro vf pf hR
   refine Or.inl ⟨rfl, ?_⟩
   refine zby (sk 4 rfl (zak _)) (List.sublist_append_right _ _) ?_
   exact zbz (zaf (cs := [.int .i64 n.ins, n.sv, n.av, n.ov]) rfl (by kernel_rfl) (by kernel_rfl) rfl rfl (zag 1 rfl 0 rfl))
  ·
   intro vf pf hR
   refine Or.inl ⟨rfl, ?_⟩
   refine zcd (sk 1 rfl (zak _)) ?_
   exact zbz (zae rfl)
  ·
   intro vf pf hR
   refine Or.inl ⟨rfl, ?_⟩
   refine zby (sk 4 rfl (zak _)) (List.sublist_append_right _ _) ?_
   exact zbz (zaf (cs := [.int .i64 n.ins, n.sv, n.av, n.ov]) rfl (by kernel_rfl) (by kernel_rfl) rfl rfl (zag 1 rfl 0 rfl))
  ·
   intro vf pf hR
   have e2 : (vf 2) = .agg #[.int .i64 n.ins, n.sv, n.av, n.ov] ∧ (pf 2) = [] := hR 2 (by decide)
   refine Or.inl ⟨rfl, ?_⟩
   refine zby (sk 23 (congrArg some e2.1) (zak _)) (List.sublist_append_right _ _) ?_
   exact (zas (by kernel_rfl) rfl (fun w hm => zaz (zbt n w (hr.below hm.bel) hn)))
  ·
   intro vf pf hR
   have e3 : (vf 3) = .int .i64 n.cnt ∧ (pf 3) = [] := hR 3 (by decide)
   refine Or.inl ⟨rfl, ?_⟩
   refine zby (sk 24 (congrArg some e3.1) (zak _)) (List.sublist_append_right _ _) ?_
   exact zff (z := .bool false) (s := 1) (bytes := 1) (n := (List.replicate (n.cnt).toNat bl0).length) (cs := ((List.replicate (n.cnt).toNat bl0).flatMap blC)) rfl Try.underlying62 (by kernel_rfl) (by decide) rfl rfl (by first | (rw [List.length_replicate]; done) | (rw [List.length_replicate]; omega)) (by first | (rw [List.length_replicate]; done) | (rw [List.length_replicate]; omega)) (by rw [List.length_replicate]; omega) (zfh blC 1 (fun _ => rfl) bl0 _ rfl (n.cnt).toNat)
  ·
   intro vf pf hR
   refine Or.inl ⟨rfl, ?_⟩
   refine zby (sk 4 rfl (zak _)) (List.sublist_append_right _ _) ?_
   exact zbz (zaf (cs := [.int .i64 n.ins, n.sv, n.av, n.ov]) rfl (by kernel_rfl) (by kernel_rfl) rfl rfl (zag 1 rfl 0 rfl))
  ·
   intro vf pf hR
   have e5 : (vf 5) = .agg #[.int .i64 n.ins, n.sv, n.av, n.ov] ∧ (pf 5) = [] := hR 5 (by decide)
   refine Or.inl ⟨rfl, ?_⟩
   refine zby (sk 26 (congrArg some e5.1) (zak _)) (List.sublist_append_right _ _) ?_
   exact (zas (by kernel_rfl) rfl (fun w hm => zaz (zbt n w (hr.below hm.bel) hn)))
  ·
   intro vf pf hR
   have e6 : (vf 6) = .int .i64 n.cnt ∧ (pf 6) = [] := hR 6 (by decide)
   refine Or.inl ⟨rfl, ?_⟩
   refine zby (sk 27 (congrArg some e6.1) (zak _)) (List.sublist_append_right _ _) ?_
   exact zff (z := .bool false) (s := 1) (bytes := 1) (n := (List.replicate (n.cnt).toNat bl0).length) (cs := ((List.replicate (n.cnt).toNat bl0).flatMap blC)) rfl Try.underlying62 (by kernel_rfl) (by decide) rfl rfl (by first | (rw [List.length_replicate]; done) | (rw [List.length_replicate]; omega)) (by first | (rw [List.length_replicate]; done) | (rw [List.length_replicate]; omega)) (by rw [List.length_replicate]; omega) (zfh blC 1 (fun _ => rfl) bl0 _ rfl (n.cnt).toNat)
  ·
   intro vf pf hR
   refine Or.inl ⟨rfl, ?_⟩
   refine zby (sk 4 rfl (zak _)) (List.sublist_append_right _ _) ?_
   exact zbz (zaf (cs := [.int .i64 n.ins, n.sv, n.av, n.ov]) rfl (by kernel_rfl) (by kernel_rfl) rfl rfl (zag 1 rfl 0 rfl))
  ·
   intro vf pf hR
   have e8 : (vf 8) = .agg #[.int .i64 n.ins, n.sv, n.av, n.ov] ∧ (pf 8) = [] := hR 8 (by decide)
   refine Or.inl ⟨rfl, ?_⟩
   refine zby (sk 29 (congrArg some e8.1) (zak _)) (List.sublist_append_right _ _) ?_
   exact (zas (by kernel_rfl) rfl (fun w hm => zaz (zbt n w (hr.below hm.bel) hn)))
  ·
   intro vf pf hR
   have e9 : (vf 9) = .int .i64 n.cnt ∧ (pf 9) = [] := hR 9 (by decide)
   refine Or.inl ⟨rfl, ?_⟩
   refine zby (sk 30 (congrArg some e9.1) (zak _)) (List.sublist_append_right _ _) ?_
   exact zff (z := .int .i64 0) (s := 1) (bytes := 8) (n := (List.replicate (n.cnt).toNat (0 : Int)).length) (cs := ((List.replicate (n.cnt).toNat (0 : Int)).map (Value.int .i64))) rfl Try.underlying26 (by kernel_rfl) (by decide) rfl rfl (by first | (rw [List.length_replicate]; done) | (rw [List.length_replicate]; omega)) (by first | (rw [List.length_replicate]; done) | (rw [List.length_replicate]; omega)) (by rw [List.length_replicate]; omega) (ints_make _)
  ·
   intro vf pf hR
   refine Or.inl ⟨rfl, ?_⟩
   refine zby (zak _) (List.sublist_append_right _ _) ?_
   exact rq_makeMp (k := 88) (kf := edV) (vf := inV) rfl
  ·
   intro vf pf hR
   have e0 : (vf 0) = .agg #[.int .i64 n.ins, n.sv, n.av, n.ov] ∧ (pf 0) = [] := hR 0 (by decide)
   have e1 : (vf 1) = .int .i64 (nd : Int) ∧ (pf 1) = [] := hR 1 (by decide)
   have e4 : IsRow 4 1 ((List.replicate (n.cnt).toNat bl0).length) ((List.replicate (n.cnt).toNat bl0).flatMap blC) (vf 4) (pf 4) := hR 4 (by decide)
   obtain ⟨g3, vE4, pE4⟩ := e4
   have e7 : IsRow 4 1 ((List.replicate (n.cnt).toNat bl0).length) ((List.replicate (n.cnt).toNat bl0).flatMap blC) (vf 7) (pf 7) := hR 7 (by decide)
   obtain ⟨g4, vE7, pE7⟩ := e7
   have e10 : IsRow 3 1 ((List.replicate (n.cnt).toNat (0 : Int)).length) ((List.replicate (n.cnt).toNat (0 : Int)).map (Value.int .i64)) (vf 10) (pf 10) := hR 10 (by decide)
   obtain ⟨g5, vE10, pE10⟩ := e10
   have e11 : (fun v_ p_ => ∃ b_, v_ = .map (some b_) ∧ p_ = [egE b_ 0 (fun _ => none)]) (vf 11) (pf 11) := hR 11 (by decide)
   obtain ⟨v6, vE11⟩ : ∃ x, vf 11 = x := ⟨_, rfl⟩
   obtain ⟨p7, pE11⟩ : ∃ x, pf 11 = x := ⟨_, rfl⟩
   have hR8 := e11
   rw [vE11, pE11] at hR8
   obtain ⟨mhR8, rfl, rfl⟩ := hR8
   refine Or.inl ⟨rfl, ?_⟩
   refine zcm (sk 21 (congrArg some e0.1) (sk 22 (congrArg some e1.1) (sk 25 (congrArg some vE4) (sk 28 (congrArg some vE7) (sk 31 (congrArg some vE10) (sk 32 (congrArg some vE11) (zak _))))))) (by simp only [pE4, vE4, pE7, vE7, pE10, vE10, pE11, vE11, e0.2, e1.2, fS] <;> rfl) ?_
   exact zdd (zbz (zcp (cs := #[.int .i64 n.ins, n.sv, n.av, n.ov, .int .i64 (nd : Int), .slice (some ⟨g3, 0, none⟩) ((List.replicate (n.cnt).toNat bl0).length) ((List.replicate (n.cnt).toNat bl0).length), .slice (some ⟨g4, 0, none⟩) ((List.replicate (n.cnt).toNat bl0).length) ((List.replicate (n.cnt).toNat bl0).length), .slice (some ⟨g5, 0, none⟩) ((List.replicate (n.cnt).toNat (0 : Int)).length) ((List.replicate (n.cnt).toNat (0 : Int)).length), .map (some mhR8)]) rfl rfl (by kernel_rfl))) (fun _ _ h => ⟨h.1.trans (by show _ = (.agg #[.int .i64 n.ins, n.sv, n.av, n.ov, .int .i64 (nd : Int), (vf 4), (vf 7), (vf 10), .map (some (mapBk (vf 11)))] : Value); first | (rw [vE4, vE7, vE10, vE11]; done) | (rw [vE4, vE7, vE10, vE11]; rfl)), h.2⟩)
  intro vf pf hR
  have e4 : IsRow 4 1 ((List.replicate (n.cnt).toNat bl0).length) ((List.replicate (n.cnt).toNat bl0).flatMap blC) (vf 4) (pf 4) := hR 4 (by decide)
  obtain ⟨g3, vE4, pE4⟩ := e4
  have e7 : IsRow 4 1 ((List.replicate (n.cnt).toNat bl0).length) ((List.replicate (n.cnt).toNat bl0).flatMap blC) (vf 7) (pf 7) := hR 7 (by decide)
  obtain ⟨g4, vE7, pE7⟩ := e7
  have e10 : IsRow 3 1 ((List.replicate (n.cnt).toNat (0 : Int)).length) ((List.replicate (n.cnt).toNat (0 : Int)).map (Value.int .i64)) (vf 10) (pf 10) := hR 10 (by decide)
  obtain ⟨g5, vE10, pE10⟩ := e10
  have e11 : (fun v_ p_ => ∃ b_, v_ = .map (some b_) ∧ p_ = [egE b_ 0 (fun _ => none)]) (vf 11) (pf 11) := hR 11 (by decide)
  obtain ⟨v6, vE11⟩ : ∃ x, vf 11 = x := ⟨_, rfl⟩
  obtain ⟨p7, pE11⟩ : ∃ x, pf 11 = x := ⟨_, rfl⟩
  have hR8 := e11
  rw [vE11, pE11] at hR8
  obtain ⟨mhR8, rfl, rfl⟩ := hR8
  have e12 : (vf 12) = .agg #[.int .i64 n.ins, n.sv, n.av, n.ov, .int .i64 (nd : Int), (vf 4), (vf 7), (vf 10), .map (some (mapBk (vf 11)))] ∧ (pf 12) = [] := hR 12 (by decide)
  rw [vE4, vE7, vE10, vE11] at e12
  refine Or.inl ⟨rfl, ?_⟩
  refine zcm (sk 33 (congrArg some e12.1) (zak _)) (by simp only [pE4, vE4, pE7, vE7, pE10, vE10, pE11, vE11, e12.2, fS] <;> rfl) ?_
  exact zdd (zco rfl rfl) (fun v_ p_ h => by show IsBox #[.int .i64 n.ins, n.sv, n.av, n.ov, .int .i64 (nd : Int), (vf 4), (vf 7), (vf 10), .map (some (mapBk (vf 11)))] 69 v_ p_; rw [vE4, vE7, vE10, vE11]; exact h)
 intro vf pf hR
 have e4 : IsRow 4 1 ((List.replicate (n.cnt).toNat bl0).length) ((List.replicate (n.cnt).toNat bl0).flatMap blC) (vf 4) (pf 4) := hR 4 (by decide)
 obtain ⟨g3, vE4, pE4⟩ := e4
 have e7 : IsRow 4 1 ((List.replicate (n.cnt).toNat bl0).length) ((List.replicate (n.cnt).toNat bl0).flatMap blC) (vf 7) (pf 7) := hR 7 (by decide)
 obtain ⟨g4, vE7, pE7⟩ := e7
 have e10 : IsRow 3 1 ((List.replicate (n.cnt).toNat (0 : Int)).length) ((List.replicate (n.cnt).toNat (0 : Int)).map (Value.int .i64)) (vf 10) (pf 10) := hR 10 (by decide)
 obtain ⟨g5, vE10, pE10⟩ := e10
 have e11 : (fun v_ p_ => ∃ b_, v_ = .map (some b_) ∧ p_ = [egE b_ 0 (fun _ => none)]) (vf 11) (pf 11) := hR 11 (by decide)
 obtain ⟨v6, vE11⟩ : ∃ x, vf 11 = x := ⟨_, rfl⟩
 obtain ⟨p7, pE11⟩ : ∃ x, pf 11 = x := ⟨_, rfl⟩
 have hR8 := e11
 rw [vE11, pE11] at hR8
 obtain ⟨mhR8, rfl, rfl⟩ := hR8
 have e13 : IsBox #[.int .i64 n.ins, n.sv, n.av, n.ov, .int .i64 (nd : Int), (vf 4), (vf 7), (vf 10), .map (some (mapBk (vf 11)))] 69 (vf 13) (pf 13) := hR 13 (by decide)
 rw [vE4, vE7, vE10, vE11] at e13
 obtain ⟨b9, vE13, pE13⟩ := e13
 have q0 : (vf 0) = .agg #[.int .i64 n.ins, n.sv, n.av, n.ov] ∧ (pf 0) = [] := hR 0 (by decide)
 have q1 : (vf 1) = .int .i64 (nd : Int) ∧ (pf 1) = [] := hR 1 (by decide)
 have q2 : (vf 2) = .agg #[.int .i64 n.ins, n.sv, n.av, n.ov] ∧ (pf 2) = [] := hR 2 (by decide)
 have q3 : (vf 3) = .int .i64 n.cnt ∧ (pf 3) = [] := hR 3 (by decide)
 have q5 : (vf 5) = .agg #[.int .i64 n.ins, n.sv, n.av, n.ov] ∧ (pf 5) = [] := hR 5 (by decide)
 have q6 : (vf 6) = .int .i64 n.cnt ∧ (pf 6) = [] := hR 6 (by decide)
 have q8 : (vf 8) = .agg #[.int .i64 n.ins, n.sv, n.av, n.ov] ∧ (pf 8) = [] := hR 8 (by decide)
 have q9 : (vf 9) = .int .i64 n.cnt ∧ (pf 9) = [] := hR 9 (by decide)
 have q12 : (vf 12) = .agg #[.int .i64 n.ins, n.sv, n.av, n.ov, .int .i64 (nd : Int), (vf 4), (vf 7), (vf 10), .map (some (mapBk (vf 11)))] ∧ (pf 12) = [] := hR 12 (by decide)
 refine zcx (sk 0 rfl (sk 1 rfl (sk 2 rfl (sk 3 rfl (sk 4 rfl (sk 8 rfl (sk 9 rfl (sk 34 (congrArg some vE13) (zak _))))))))) (by simp only [pE4, vE4, pE7, vE7, pE10, vE10, pE11, vE11, pE13, vE13, q0.2, q1.2, q2.2, q3.2, q5.2, q6.2, q8.2, q9.2, q12.2, fS] <;> rfl) ?_
 simp only [List.drop_succ_cons, List.drop_zero]
 refine zab 1 rfl (zbd [10, 9, 8, 4, 3, 2, 1, 0] rfl (zay (zaj (zaa ?_))))
 refine zfo (l := [rowE 4 1 (.slice (some ⟨g4, 0, none⟩) ((List.replicate (n.cnt).toNat bl0).length) ((List.replicate (n.cnt).toNat bl0).length)) ((List.replicate (n.cnt).toNat bl0).length) ((List.replicate (n.cnt).toNat bl0).flatMap blC), rowE 3 1 (.slice (some ⟨g5, 0, none⟩) ((List.replicate (n.cnt).toNat (0 : Int)).length) ((List.replicate (n.cnt).toNat (0 : Int)).length)) ((List.replicate (n.cnt).toNat (0 : Int)).length) ((List.replicate (n.cnt).toNat (0 : Int)).map (Value.int .i64)), egE mhR8 0 (fun _ => none), boxE b9 #[.int .i64 n.ins, n.sv, n.av, n.ov, .int .i64 (nd : Int), .slice (some ⟨g3, 0, none⟩) ((List.replicate (n.cnt).toNat bl0).length) ((List.replicate (n.cnt).toNat bl0).length), .slice (some ⟨g4, 0, none⟩) ((List.replicate (n.cnt).toNat bl0).length) ((List.replicate (n.cnt).toNat bl0).length), .slice (some ⟨g5, 0, none⟩) ((List.replicate (n.cnt).toNat (0 : Int)).length) ((List.replicate (n.cnt).toNat (0 : Int)).length), .map (some mhR8)] 69, rowE 3 1 (.slice none 0 0) 0 ([]), boxE b1 #[.int .i64 n.ins, n.sv, n.av, n.ov] 28]) (by kernel_rfl) 7 [0, 1, 2, 3, 4, 5, 6] (List.take 7 _) (List.drop 7 _) [[], [], [], [2], [3], [4], [0, 1, 5]] [35, 36, 37, 38, 39, 40, 41] (fun i_ vs_ v_ p_ => match i_ with | 0 => v_ = .agg #[.int .i64 n.ins, n.sv, n.av, n.ov] ∧ p_ = [] | 1 => v_ = .int .i64 (nd : Int) ∧ p_ = [] | 2 => v_ = .pointer (some ⟨b9, 0, none⟩) ∧ p_ = [] | 3 => v_ = .pointer (some ⟨b9, 0, none⟩) ∧ p_ = [] | 4 => v_ = .pointer (some ⟨b9, 0 + 5, none⟩) ∧ p_ = [] | 5 => v_ = .slice (some ⟨g3, 0, none⟩) ((List.replicate (n.cnt).toNat bl0).length) ((List.replicate (n.cnt).toNat bl0).length) ∧ p_ = [] | 6 => (∃ pm_, p_ = [pm_] ∧ (fun v_ p_ => ∃ bs' : List Bl, p_ = rowE 4 1 (.slice (some ⟨g3, 0, none⟩) ((List.replicate (n.cnt).toNat bl0).length) ((List.replicate (n.cnt).toNat bl0).length)) (bs').length ((bs').flatMap blC) ∧ MkOk n (nd : Int) (List.replicate (n.cnt).toNat bl0) bs') v_ pm_) | _ => True) [[], [], [], [2], [3], [4], [0, 1, 5]] [none, none, none, none, none, none, some 7] [rowE 4 1 (.slice (some ⟨g3, 0, none⟩) ((List.replicate (n.cnt).toNat bl0).length) ((List.replicate (n.cnt).toNat bl0).length)) ((List.replicate (n.cnt).toNat bl0).length) ((List.replicate (n.cnt).toNat bl0).flatMap blC)] [0, 1, 2, 3, 4, 5, 6] 7 (List.take_append_drop 7 _).symm (by kernel_rfl) (by kernel_rfl) (by kernel_rfl) rfl rfl ?_ ?_
 ·
  refine ⟨?_, ?_, ?_, ?_, ?_, ?_, ?_, trivial⟩
  ·
   intro vf pf hmu hR
   refine Or.inl ⟨rfl, ?_⟩
   show RunQ _ _ _ (([] : List Nat).flatMap pf ++ _) (envOf _ vf [] ++ _) _ _
   refine zby (sk 4 rfl (zak _)) (List.sublist_append_right _ _) ?_
   exact zbz (zaf (cs := [.int .i64 n.ins, n.sv, n.av, n.ov]) rfl (by kernel_rfl) (by kernel_rfl) rfl rfl (zag 5 rfl 0 rfl))
  ·
   intro vf pf hmu hR
   refine Or.inl ⟨rfl, ?_⟩
   show RunQ _ _ _ (([] : List Nat).flatMap pf ++ _) (envOf _ vf [] ++ _) _ _
   refine zcd (sk 1 rfl (zak _)) ?_
   exact zbz (zae rfl)
  ·
   intro vf pf hmu hR
   refine Or.inl ⟨rfl, ?_⟩
   show RunQ _ _ _ (([] : List Nat).flatMap pf ++ _) (envOf _ vf [] ++ _) _ _
   refine zcd (sk 10 rfl (zak _)) ?_
   exact zbz (zae rfl)
  ·
   intro vf pf hmu hR
   have e2 : (vf 2) = .pointer (some ⟨b9, 0, none⟩) ∧ (pf 2) = [] := hR 2 (by decide)
   refine Or.inl ⟨rfl, ?_⟩
   show RunQ _ _ _ (([2] : List Nat).flatMap pf ++ _) (envOf _ vf [2] ++ _) _ _
   refine zcd (sk 37 (congrArg some e2.1) (zak _)) ?_
   exact zbz (zbf rfl rfl)
  ·
   intro vf pf hmu hR
   have e3 : (vf 3) = .pointer (some ⟨b9, 0, none⟩) ∧ (pf 3) = [] := hR 3 (by decide)
   refine Or.inl ⟨rfl, ?_⟩
   show RunQ _ _ _ (([3] : List Nat).flatMap pf ++ _) (envOf _ vf [3] ++ _) _ _
   refine zcd (sk 38 (congrArg some e3.1) (zak _)) ?_
   exact zbz (zef (k0 := 5) rfl (by kernel_rfl) rfl)
  ·
   intro vf pf hmu hR
   have e4 : (vf 4) = .pointer (some ⟨b9, 0 + 5, none⟩) ∧ (pf 4) = [] := hR 4 (by decide)
   refine Or.inl ⟨rfl, ?_⟩
   show RunQ _ _ _ (([4] : List Nat).flatMap pf ++ _) (envOf _ vf [4] ++ _) _ _
   refine zby (sk 39 (congrArg some e4.1) (zak _)) (List.sublist_append_right _ _) ?_
   exact zbz (zan rfl (by kernel_rfl) rfl (zah 3 rfl rfl))
  intro vf pf hmu hR
  have e0 : (vf 0) = .agg #[.int .i64 n.ins, n.sv, n.av, n.ov] ∧ (pf 0) = [] := hR 0 (by decide)
  have e1 : (vf 1) = .int .i64 (nd : Int) ∧ (pf 1) = [] := hR 1 (by decide)
  have e5 : (vf 5) = .slice (some ⟨g3, 0, none⟩) ((List.replicate (n.cnt).toNat bl0).length) ((List.replicate (n.cnt).toNat bl0).length) ∧ (pf 5) = [] := hR 5 (by decide)
  refine Or.inl ⟨rfl, ?_⟩
  show RunM _ _ _ (pf 7) (([0, 1, 5] : List Nat).flatMap pf ++ _) (envOf _ vf [0, 1, 5] ++ _) _ _
  rw [hmu]
  refine zdn (sk 35 (congrArg some e0.1) (sk 36 (congrArg some e1.1) (sk 40 (congrArg some e5.1) (zak _)))) (by simp only [e0.2, e1.2, e5.2, fS] <;> rfl) ?_
  exact zdm (R := (fun v_ p_ => ∃ bs' : List Bl, p_ = rowE 4 1 (.slice (some ⟨g3, 0, none⟩) ((List.replicate (n.cnt).toNat bl0).length) ((List.replicate (n.cnt).toNat bl0).length)) (bs').length ((bs').flatMap blC) ∧ MkOk n (nd : Int) (List.replicate (n.cnt).toNat bl0) bs')) (by kernel_rfl) rfl (fun L w hX hm => markCone_mut n _ _ hr hn (((nd : Int)).toNat + 1) (nd : Int) (List.replicate (n.cnt).toNat bl0) _ _ (by omega) (by omega) hnd.2 (by rw [List.length_replicate]; omega) hm)
 intro vf pf hmu hR
 have e6 : (∃ pm_, (pf 6) = [pm_] ∧ (fun v_ p_ => ∃ bs' : List Bl, p_ = rowE 4 1 (.slice (some ⟨g3, 0, none⟩) ((List.replicate (n.cnt).toNat bl0).length) ((List.replicate (n.cnt).toNat bl0).length)) (bs').length ((bs').flatMap blC) ∧ MkOk n (nd : Int) (List.replicate (n.cnt).toNat bl0) bs') (vf 6) pm_) := hR 6 (by decide)
 obtain ⟨p11, pE6, hR12⟩ := e6
 obtain ⟨v10, vE6⟩ : ∃ x, vf 6 = x := ⟨_, rfl⟩
 try rw [vE6] at hR12
 obtain ⟨bs, rfl, hmk⟩ := hR12
 have hbl := hmk.len
 rw [List.length_replicate] at hbl
 have q0 : (vf 0) = .agg #[.int .i64 n.ins, n.sv, n.av, n.ov] ∧ (pf 0) = [] := hR 0 (by decide)
 have q1 : (vf 1) = .int .i64 (nd : Int) ∧ (pf 1) = [] := hR 1 (by decide)
 have q2 : (vf 2) = .pointer (some ⟨b9, 0, none⟩) ∧ (pf 2) = [] := hR 2 (by decide)
 have q3 : (vf 3) = .pointer (some ⟨b9, 0, none⟩) ∧ (pf 3) = [] := hR 3 (by decide)
 have q4 : (vf 4) = .pointer (some ⟨b9, 0 + 5, none⟩) ∧ (pf 4) = [] := hR 4 (by decide)
 have q5 : (vf 5) = .slice (some ⟨g3, 0, none⟩) ((List.replicate (n.cnt).toNat bl0).length) ((List.replicate (n.cnt).toNat bl0).length) ∧ (pf 5) = [] := hR 5 (by decide)
 refine zcx (sk 0 rfl (sk 1 rfl (sk 2 rfl (sk 3 rfl (sk 4 rfl (sk 8 rfl (sk 9 rfl (sk 10 rfl (zak _))))))))) (by simp only [pE6, vE6, q0.2, q1.2, q2.2, q3.2, q4.2, q5.2, fS] <;> rfl) ?_
 simp only [List.drop_succ_cons, List.drop_zero]
 refine zbd [10, 9, 8, 4, 3, 2, 1, 0] rfl (zay (zaj (zaa (zaa (zai (zab 1 rfl (zeu rfl rfl rfl (zbf rfl rfl) (zeu rfl rfl rfl (zef (k0 := 6) rfl (by kernel_rfl) rfl) (zeu rfl rfl rfl (zan rfl (by kernel_rfl) rfl (zah 4 rfl rfl)) (zeu rfl rfl rfl (rv_len rfl Try.underlying62 rfl (zad 1 rfl)) (zab 1 rfl (zbd [47, 46, 10, 9, 8, 4, 3, 2, 1, 0] rfl (zay ?_)))))))))))))
 refine zaj (zba ?_)
 refine hc_loop2 (α := Nat) (β := List Bl) (fun k fs => [rowE 4 1 (.slice (some ⟨g3, 0, none⟩) ((List.replicate (n.cnt).toNat bl0).length) ((List.replicate (n.cnt).toNat bl0).length)) bs.length (bs.flatMap blC), rowE 4 1 (.slice (some ⟨g4, 0, none⟩) ((List.replicate (n.cnt).toNat bl0).length) ((List.replicate (n.cnt).toNat bl0).length)) fs.length (fs.flatMap blC), rowE 3 1 (.slice (some ⟨g5, 0, none⟩) ((List.replicate (n.cnt).toNat (0 : Int)).length) ((List.replicate (n.cnt).toNat (0 : Int)).length)) ((List.replicate (n.cnt).toNat (0 : Int)).length) ((List.replicate (n.cnt).toNat (0 : Int)).map (Value.int .i64)), egE mhR8 0 (fun _ => none), boxE b9 #[.int .i64 n.ins, n.sv, n.av, n.ov, .int .i64 (nd : Int), .slice (some ⟨g3, 0, none⟩) ((List.replicate (n.cnt).toNat bl0).length) ((List.replicate (n.cnt).toNat bl0).length), .slice (some ⟨g4, 0, none⟩) ((List.replicate (n.cnt).toNat bl0).length) ((List.replicate (n.cnt).toNat bl0).length), .slice (some ⟨g5, 0, none⟩) ((List.replicate (n.cnt).toNat (0 : Int)).length) ((List.replicate (n.cnt).toNat (0 : Int)).length), .map (some mhR8)] 69, rowE 3 1 (.slice none 0 0) 0 ([]), boxE b1 #[.int .i64 n.ins, n.sv, n.av, n.ov] 28]) (fun k fs => [(0, .agg #[.int .i64 n.ins, n.sv, n.av, n.ov]), (1, .int .i64 (nd : Int)), (2, .int .i64 hh), (3, lv), (4, .pointer (some ⟨b1, 0, none⟩)), (8, .slice none 0 0), (9, .bool false), (10, .pointer (some ⟨b9, 0, none⟩)), (46, .int .i64 ((List.replicate (n.cnt).toNat bl0).length : Int)), (47, .int .i64 (k : Int))]) (fun k fs => k ≤ n.cnt.toNat ∧ FrI n nd hh ls bs fs k) (fun k fs => n.cnt.toNat - k) 0 _ ⟨Nat.zero_le _, by rw [List.length_replicate], fun j hj => absurd hj (by omega)⟩ (zau [47, 46, 10, 9, 8, 4, 3, 2, 1, 0] rfl) ((.cons_cons _ (.cons_cons _ (.cons_cons _ (.cons_cons _ (.cons_cons _ (.cons_cons _ (.cons_cons _ .slnil)))))))) ?_
 intro k fs hi13
 obtain ⟨hk, hfi⟩ := hi13
 have hfl := hfi.1
 refine zaa (zai ?_)
 refine zbr rfl rfl rfl rfl rfl rfl (fun h14 => ?_) (fun h14 => ?_)
 ·
  refine zbd [48, 47, 46, 10, 9, 8, 4, 3, 2, 1, 0] rfl (zay (zaj (zaa (zaq rfl (zdg (zaj (zaa (zba (zaa (zai (zab 2 rfl (zbd [48, 47, 46, 11, 10, 9, 8, 4, 3, 2, 1, 0] rfl (zay ?_)))))))))))))
  refine zaj ?_
  rcases Bool.eq_false_or_eq_true ((k : Int) == (nd : Int)) with hb15 | hb15
  ·
   have hb15p : (k : Int) = (nd : Int) := beq_iff_eq.1 hb15
   refine zbl 26 [[], [0], [1], [2], [], [], [], [5, 6], [7], [8], [8], [8], [8], [8], [8], [8], [8], [16], [16], [16], [16], [16], [16], [8], [8, 23], [3, 4]] [50, 51, 52, 53, 54, 55, 56, 57, 58, 59, 60, 61, 62, 63, 64, 65, 66, 67, 68, 69, 70, 71, 72, 73, 74, 75] [.pointer (some ⟨b9, 0, none⟩), .pointer (some ⟨b9, 0, none⟩), .pointer (some ⟨b9, 0 + 6, none⟩), .slice (some ⟨g4, 0, none⟩) ((List.replicate (n.cnt).toNat bl0).length) ((List.replicate (n.cnt).toNat bl0).length), .int .i64 (k : Int), .int .i64 (k : Int), .int .i64 (nd : Int), .bool true, .bool true, undef, undef, undef, undef, undef, undef, undef, undef, undef, undef, undef, undef, undef, undef, undef, .bool true, elP (.slice (some ⟨g4, 0, none⟩) ((List.replicate (n.cnt).toNat bl0).length) ((List.replicate (n.cnt).toNat bl0).length)) (((k : Int)).toNat * 1)] (by kernel_rfl) rfl ?_ ?_
   ·
    refine ⟨?_, ?_, ?_, ?_, ?_, ?_, ?_, ?_, ?_, ?_, ?_, ?_, ?_, ?_, ?_, ?_, ?_, ?_, ?_, ?_, ?_, ?_, ?_, ?_, ?_, ?_, trivial⟩
    · exact .inl ⟨rfl, zcf (zae rfl) rfl⟩
    · exact .inl ⟨rfl, zcf (zbf rfl rfl) rfl⟩
    · exact .inl ⟨rfl, zcf (zef (k0 := 6) rfl (by kernel_rfl) rfl) rfl⟩
    · exact .inl ⟨rfl, zcf (zan rfl (by kernel_rfl) rfl (zah 4 rfl rfl)) rfl⟩
    iterate 3 (exact .inl ⟨rfl, zcf (zae rfl) rfl⟩)
    · exact .inl ⟨rfl, zcq (zbo rfl rfl rfl rfl) hb15⟩
    · exact .inl ⟨rfl, zcf (zae rfl) rfl⟩
    iterate 15 (exact .inr ⟨rfl, rfl⟩)
    · exact .inl ⟨rfl, zcf (zae rfl) rfl⟩
    exact .inl ⟨rfl, zcf (zen (s := 1) rfl Try.underlying62 (by kernel_rfl) rfl rfl (zad 1 rfl) (by omega) (by omega)) rfl⟩
   refine zbd [75, 74, 48, 47, 46, 11, 10, 9, 8, 4, 3, 2, 1, 0] rfl ?_
   simp only [List.drop_succ_cons, List.drop_zero]
   refine zdh (i := 1) (n' := (fs.set k { fs.getD k bl0 with b := true }).length) rfl rfl rfl (by kernel_rfl) rfl rfl rfl rfl (by first | omega | (simp only [List.length_set]; omega)) List.length_set.symm (zdb blC (fun r => .bool r.b) (fun _ => rfl) _ ({ fs.getD k bl0 with b := true }) rfl) rfl ?_
   refine zbd [48, 47, 46, 11, 10, 9, 8, 4, 3, 2, 1, 0] rfl (zay (zap (zaj (zai (zeu rfl rfl rfl (zfl rfl rfl rfl (by constructor <;> omega)) (zab 1 rfl (zbd [48, 47, 46, 11, 10, 9, 8, 4, 3, 2, 1, 0] rfl (zay ?_))))))))
   exact zch (k + 1) (fs.set k { fs.getD k bl0 with b := true }) ⟨by omega, hfi.step (by omega) (by first | exact ⟨fun _ => .inl (by omega), fun _ => rfl⟩ | exact ⟨fun _ => .inr ⟨by show _ = true; assumption, by omega⟩, fun _ => rfl⟩ | exact ⟨fun h => absurd h Bool.false_ne_true, fun h => absurd h (by rintro (q | q); (omega); (first | (exact Bool.false_ne_true (Eq.trans (Eq.symm (by assumption)) q.1)) | (have q2 := q.2; omega)))⟩)⟩ (by omega) (zau [47, 46, 10, 9, 8, 4, 3, 2, 1, 0] rfl) ((.cons_cons _ (.cons_cons _ (.cons_cons _ (.cons_cons _ (.cons_cons _ (.cons_cons _ (.cons_cons _ .slnil))))))))
  have hb15p : (k : Int) ≠ (nd : Int) := beq_eq_false_iff_ne.1 hb15
  rcases Bool.eq_false_or_eq_true ((bs.getD k bl0).b) with hb16 | hb16
  ·
   rcases Bool.eq_false_or_eq_true (decide (hh ≤ ls.getD k 0)) with hb17 | hb17
   ·
    have hb17p : hh ≤ ls.getD k 0 := of_decide_eq_true hb17
    refine zbl 26 [[], [0], [1], [2], [], [], [], [5, 6], [7], [8], [8, 9], [8, 10], [8, 11], [8], [8, 12, 13], [8, 14], [8, 15], [16], [16], [16, 17, 18], [16, 19], [16], [16, 20, 21], [8, 16, 22], [8, 23], [3, 4]] [50, 51, 52, 53, 54, 55, 56, 57, 58, 59, 60, 61, 62, 63, 64, 65, 66, 67, 68, 69, 70, 71, 72, 73, 74, 75] [.pointer (some ⟨b9, 0, none⟩), .pointer (some ⟨b9, 0, none⟩), .pointer (some ⟨b9, 0 + 6, none⟩), .slice (some ⟨g4, 0, none⟩) ((List.replicate (n.cnt).toNat bl0).length) ((List.replicate (n.cnt).toNat bl0).length), .int .i64 (k : Int), .int .i64 (k : Int), .int .i64 (nd : Int), .bool false, .bool false, .pointer (some ⟨b9, 0, none⟩), .pointer (some ⟨b9, 0, none⟩), .pointer (some ⟨b9, 0 + 5, none⟩), .slice (some ⟨g3, 0, none⟩) ((List.replicate (n.cnt).toNat bl0).length) ((List.replicate (n.cnt).toNat bl0).length), .int .i64 (k : Int), elP (.slice (some ⟨g3, 0, none⟩) ((List.replicate (n.cnt).toNat bl0).length) ((List.replicate (n.cnt).toNat bl0).length)) (((k : Int)).toNat * 1), .bool true, .bool true, lv, .int .i64 (k : Int), elP lv (((k : Int)).toNat * 1), .int .i64 (ls.getD k 0), .int .i64 hh, .bool true, .bool true, .bool true, elP (.slice (some ⟨g4, 0, none⟩) ((List.replicate (n.cnt).toNat bl0).length) ((List.replicate (n.cnt).toNat bl0).length)) (((k : Int)).toNat * 1)] (by kernel_rfl) rfl ?_ ?_
    ·
     refine ⟨?_, ?_, ?_, ?_, ?_, ?_, ?_, ?_, ?_, ?_, ?_, ?_, ?_, ?_, ?_, ?_, ?_, ?_, ?_, ?_, ?_, ?_, ?_, ?_, ?_, ?_, trivial⟩
     · exact .inl ⟨rfl, zcf (zae rfl) rfl⟩
     · exact .inl ⟨rfl, zcf (zbf rfl rfl) rfl⟩
     · exact .inl ⟨rfl, zcf (zef (k0 := 6) rfl (by kernel_rfl) rfl) rfl⟩
     · exact .inl ⟨rfl, zcf (zan rfl (by kernel_rfl) rfl (zah 4 rfl rfl)) rfl⟩
     iterate 3 (exact .inl ⟨rfl, zcf (zae rfl) rfl⟩)
     · exact .inl ⟨rfl, zcq (zbo rfl rfl rfl rfl) hb15⟩
     · exact .inl ⟨rfl, zcf (zae rfl) rfl⟩
     · exact .inl ⟨rfl, zcf (zae rfl) rfl⟩
     · exact .inl ⟨rfl, zcf (zbf rfl rfl) rfl⟩
     · exact .inl ⟨rfl, zcf (zef (k0 := 5) rfl (by kernel_rfl) rfl) rfl⟩
     · exact .inl ⟨rfl, zcf (zan rfl (by kernel_rfl) rfl (zah 4 rfl rfl)) rfl⟩
     · exact .inl ⟨rfl, zcf (zae rfl) rfl⟩
     · exact .inl ⟨rfl, zcf (zen (s := 1) rfl Try.underlying62 (by kernel_rfl) rfl rfl (zad 0 rfl) (by omega) (by omega)) rfl⟩
     · exact .inl ⟨rfl, zcq (zav (u := .bool ((bs.getD k bl0).b)) rfl (by kernel_rfl) rfl (zad 0 rfl) (zbm blC (fun r => .bool r.b) (fun _ => rfl) bs bl0 (show k < _ by omega))) hb16⟩
     iterate 3 (exact .inl ⟨rfl, zcf (zae rfl) rfl⟩)
     · exact .inl ⟨rfl, zcf (zen (s := 1) rfl Try.underlying26 (by kernel_rfl) rfl rfl (zac hl) (by omega) (by omega)) rfl⟩
     · exact .inl ⟨rfl, zcf (zav (u := .int .i64 (ls.getD k 0)) rfl (by kernel_rfl) rfl (zac hl) (zcr (show _ < ls.length by omega))) rfl⟩
     · exact .inl ⟨rfl, zcf (zae rfl) rfl⟩
     · exact .inl ⟨rfl, zcq (zbo rfl rfl rfl rfl) hb17⟩
     · exact .inl ⟨rfl, zcf (zae rfl) rfl⟩
     · exact .inl ⟨rfl, zcf (zae rfl) rfl⟩
     exact .inl ⟨rfl, zcf (zen (s := 1) rfl Try.underlying62 (by kernel_rfl) rfl rfl (zad 1 rfl) (by omega) (by omega)) rfl⟩
    refine zbd [75, 74, 48, 47, 46, 11, 10, 9, 8, 4, 3, 2, 1, 0] rfl ?_
    simp only [List.drop_succ_cons, List.drop_zero]
    refine zdh (i := 1) (n' := (fs.set k { fs.getD k bl0 with b := true }).length) rfl rfl rfl (by kernel_rfl) rfl rfl rfl rfl (by first | omega | (simp only [List.length_set]; omega)) List.length_set.symm (zdb blC (fun r => .bool r.b) (fun _ => rfl) _ ({ fs.getD k bl0 with b := true }) rfl) rfl ?_
    refine zbd [48, 47, 46, 11, 10, 9, 8, 4, 3, 2, 1, 0] rfl (zay (zap (zaj (zai (zeu rfl rfl rfl (zfl rfl rfl rfl (by constructor <;> omega)) (zab 1 rfl (zbd [48, 47, 46, 11, 10, 9, 8, 4, 3, 2, 1, 0] rfl (zay ?_))))))))
    exact zch (k + 1) (fs.set k { fs.getD k bl0 with b := true }) ⟨by omega, hfi.step (by omega) (by first | exact ⟨fun _ => .inl (by omega), fun _ => rfl⟩ | exact ⟨fun _ => .inr ⟨by show _ = true; assumption, by omega⟩, fun _ => rfl⟩ | exact ⟨fun h => absurd h Bool.false_ne_true, fun h => absurd h (by rintro (q | q); (omega); (first | (exact Bool.false_ne_true (Eq.trans (Eq.symm (by assumption)) q.1)) | (have q2 := q.2; omega)))⟩)⟩ (by omega) (zau [47, 46, 10, 9, 8, 4, 3, 2, 1, 0] rfl) ((.cons_cons _ (.cons_cons _ (.cons_cons _ (.cons_cons _ (.cons_cons _ (.cons_cons _ (.cons_cons _ .slnil))))))))
   have hb17p : ¬ (hh ≤ ls.getD k 0) := of_decide_eq_false hb17
   refine zbl 26 [[], [0], [1], [2], [], [], [], [5, 6], [7], [8], [8, 9], [8, 10], [8, 11], [8], [8, 12, 13], [8, 14], [8, 15], [16], [16], [16, 17, 18], [16, 19], [16], [16, 20, 21], [8, 16, 22], [8, 23], [3, 4]] [50, 51, 52, 53, 54, 55, 56, 57, 58, 59, 60, 61, 62, 63, 64, 65, 66, 67, 68, 69, 70, 71, 72, 73, 74, 75] [.pointer (some ⟨b9, 0, none⟩), .pointer (some ⟨b9, 0, none⟩), .pointer (some ⟨b9, 0 + 6, none⟩), .slice (some ⟨g4, 0, none⟩) ((List.replicate (n.cnt).toNat bl0).length) ((List.replicate (n.cnt).toNat bl0).length), .int .i64 (k : Int), .int .i64 (k : Int), .int .i64 (nd : Int), .bool false, .bool false, .pointer (some ⟨b9, 0, none⟩), .pointer (some ⟨b9, 0, none⟩), .pointer (some ⟨b9, 0 + 5, none⟩), .slice (some ⟨g3, 0, none⟩) ((List.replicate (n.cnt).toNat bl0).length) ((List.replicate (n.cnt).toNat bl0).length), .int .i64 (k : Int), elP (.slice (some ⟨g3, 0, none⟩) ((List.replicate (n.cnt).toNat bl0).length) ((List.replicate (n.cnt).toNat bl0).length)) (((k : Int)).toNat * 1), .bool true, .bool true, lv, .int .i64 (k : Int), elP lv (((k : Int)).toNat * 1), .int .i64 (ls.getD k 0), .int .i64 hh, .bool false, .bool false, .bool false, elP (.slice (some ⟨g4, 0, none⟩) ((List.replicate (n.cnt).toNat bl0).length) ((List.replicate (n.cnt).toNat bl0).length)) (((k : Int)).toNat * 1)] (by kernel_rfl) rfl ?_ ?_
   ·
    refine ⟨?_, ?_, ?_, ?_, ?_, ?_, ?_, ?_, ?_, ?_, ?_, ?_, ?_, ?_, ?_, ?_, ?_, ?_, ?_, ?_, ?_, ?_, ?_, ?_, ?_, ?_, trivial⟩
    · exact .inl ⟨rfl, zcf (zae rfl) rfl⟩
    · exact .inl ⟨rfl, zcf (zbf rfl rfl) rfl⟩
    · exact .inl ⟨rfl, zcf (zef (k0 := 6) rfl (by kernel_rfl) rfl) rfl⟩
    · exact .inl ⟨rfl, zcf (zan rfl (by kernel_rfl) rfl (zah 4 rfl rfl)) rfl⟩
    iterate 3 (exact .inl ⟨rfl, zcf (zae rfl) rfl⟩)
    · exact .inl ⟨rfl, zcq (zbo rfl rfl rfl rfl) hb15⟩
    · exact .inl ⟨rfl, zcf (zae rfl) rfl⟩
    · exact .inl ⟨rfl, zcf (zae rfl) rfl⟩
    · exact .inl ⟨rfl, zcf (zbf rfl rfl) rfl⟩
    · exact .inl ⟨rfl, zcf (zef (k0 := 5) rfl (by kernel_rfl) rfl) rfl⟩
    · exact .inl ⟨rfl, zcf (zan rfl (by kernel_rfl) rfl (zah 4 rfl rfl)) rfl⟩
    · exact .inl ⟨rfl, zcf (zae rfl) rfl⟩
    · exact .inl ⟨rfl, zcf (zen (s := 1) rfl Try.underlying62 (by kernel_rfl) rfl rfl (zad 0 rfl) (by omega) (by omega)) rfl⟩
    · exact .inl ⟨rfl, zcq (zav (u := .bool ((bs.getD k bl0).b)) rfl (by kernel_rfl) rfl (zad 0 rfl) (zbm blC (fun r => .bool r.b) (fun _ => rfl) bs bl0 (show k < _ by omega))) hb16⟩
    iterate 3 (exact .inl ⟨rfl, zcf (zae rfl) rfl⟩)
    · exact .inl ⟨rfl, zcf (zen (s := 1) rfl Try.underlying26 (by kernel_rfl) rfl rfl (zac hl) (by omega) (by omega)) rfl⟩
    · exact .inl ⟨rfl, zcf (zav (u := .int .i64 (ls.getD k 0)) rfl (by kernel_rfl) rfl (zac hl) (zcr (show _ < ls.length by omega))) rfl⟩
    · exact .inl ⟨rfl, zcf (zae rfl) rfl⟩
    · exact .inl ⟨rfl, zcq (zbo rfl rfl rfl rfl) hb17⟩
    · exact .inl ⟨rfl, zcf (zae rfl) rfl⟩
    · exact .inl ⟨rfl, zcf (zae rfl) rfl⟩
    exact .inl ⟨rfl, zcf (zen (s := 1) rfl Try.underlying62 (by kernel_rfl) rfl rfl (zad 1 rfl) (by omega) (by omega)) rfl⟩
   refine zbd [75, 74, 48, 47, 46, 11, 10, 9, 8, 4, 3, 2, 1, 0] rfl ?_
   simp only [List.drop_succ_cons, List.drop_zero]
   refine zdh (i := 1) (n' := (fs.set k { fs.getD k bl0 with b := false }).length) rfl rfl rfl (by kernel_rfl) rfl rfl rfl rfl (by first | omega | (simp only [List.length_set]; omega)) List.length_set.symm (zdb blC (fun r => .bool r.b) (fun _ => rfl) _ ({ fs.getD k bl0 with b := false }) rfl) rfl ?_
   refine zbd [48, 47, 46, 11, 10, 9, 8, 4, 3, 2, 1, 0] rfl (zay (zap (zaj (zai (zeu rfl rfl rfl (zfl rfl rfl rfl (by constructor <;> omega)) (zab 1 rfl (zbd [48, 47, 46, 11, 10, 9, 8, 4, 3, 2, 1, 0] rfl (zay ?_))))))))
   exact zch (k + 1) (fs.set k { fs.getD k bl0 with b := false }) ⟨by omega, hfi.step (by omega) (by first | exact ⟨fun _ => .inl (by omega), fun _ => rfl⟩ | exact ⟨fun _ => .inr ⟨by show _ = true; assumption, by omega⟩, fun _ => rfl⟩ | exact ⟨fun h => absurd h Bool.false_ne_true, fun h => absurd h (by rintro (q | q); (omega); (first | (exact Bool.false_ne_true (Eq.trans (Eq.symm (by assumption)) q.1)) | (have q2 := q.2; omega)))⟩)⟩ (by omega) (zau [47, 46, 10, 9, 8, 4, 3, 2, 1, 0] rfl) ((.cons_cons _ (.cons_cons _ (.cons_cons _ (.cons_cons _ (.cons_cons _ (.cons_cons _ (.cons_cons _ .slnil))))))))
  refine zbl 26 [[], [0], [1], [2], [], [], [], [5, 6], [7], [8], [8, 9], [8, 10], [8, 11], [8], [8, 12, 13], [8, 14], [8, 15], [16], [16], [16], [16], [16], [16], [8, 16, 22], [8, 23], [3, 4]] [50, 51, 52, 53, 54, 55, 56, 57, 58, 59, 60, 61, 62, 63, 64, 65, 66, 67, 68, 69, 70, 71, 72, 73, 74, 75] [.pointer (some ⟨b9, 0, none⟩), .pointer (some ⟨b9, 0, none⟩), .pointer (some ⟨b9, 0 + 6, none⟩), .slice (some ⟨g4, 0, none⟩) ((List.replicate (n.cnt).toNat bl0).length) ((List.replicate (n.cnt).toNat bl0).length), .int .i64 (k : Int), .int .i64 (k : Int), .int .i64 (nd : Int), .bool false, .bool false, .pointer (some ⟨b9, 0, none⟩), .pointer (some ⟨b9, 0, none⟩), .pointer (some ⟨b9, 0 + 5, none⟩), .slice (some ⟨g3, 0, none⟩) ((List.replicate (n.cnt).toNat bl0).length) ((List.replicate (n.cnt).toNat bl0).length), .int .i64 (k : Int), elP (.slice (some ⟨g3, 0, none⟩) ((List.replicate (n.cnt).toNat bl0).length) ((List.replicate (n.cnt).toNat bl0).length)) (((k : Int)).toNat * 1), .bool false, .bool false, undef, undef, undef, undef, undef, undef, .bool false, .bool false, elP (.slice (some ⟨g4, 0, none⟩) ((List.replicate (n.cnt).toNat bl0).length) ((List.replicate (n.cnt).toNat bl0).length)) (((k : Int)).toNat * 1)] (by kernel_rfl) rfl ?_ ?_
  ·
   refine ⟨?_, ?_, ?_, ?_, ?_, ?_, ?_, ?_, ?_, ?_, ?_, ?_, ?_, ?_, ?_, ?_, ?_, ?_, ?_, ?_, ?_, ?_, ?_, ?_, ?_, ?_, trivial⟩
   · exact .inl ⟨rfl, zcf (zae rfl) rfl⟩
   · exact .inl ⟨rfl, zcf (zbf rfl rfl) rfl⟩
   · exact .inl ⟨rfl, zcf (zef (k0 := 6) rfl (by kernel_rfl) rfl) rfl⟩
   · exact .inl ⟨rfl, zcf (zan rfl (by kernel_rfl) rfl (zah 4 rfl rfl)) rfl⟩
   iterate 3 (exact .inl ⟨rfl, zcf (zae rfl) rfl⟩)
   · exact .inl ⟨rfl, zcq (zbo rfl rfl rfl rfl) hb15⟩
   · exact .inl ⟨rfl, zcf (zae rfl) rfl⟩
   · exact .inl ⟨rfl, zcf (zae rfl) rfl⟩
   · exact .inl ⟨rfl, zcf (zbf rfl rfl) rfl⟩
   · exact .inl ⟨rfl, zcf (zef (k0 := 5) rfl (by kernel_rfl) rfl) rfl⟩
   · exact .inl ⟨rfl, zcf (zan rfl (by kernel_rfl) rfl (zah 4 rfl rfl)) rfl⟩
   · exact .inl ⟨rfl, zcf (zae rfl) rfl⟩
   · exact .inl ⟨rfl, zcf (zen (s := 1) rfl Try.underlying62 (by kernel_rfl) rfl rfl (zad 0 rfl) (by omega) (by omega)) rfl⟩
   · exact .inl ⟨rfl, zcq (zav (u := .bool ((bs.getD k bl0).b)) rfl (by kernel_rfl) rfl (zad 0 rfl) (zbm blC (fun r => .bool r.b) (fun _ => rfl) bs bl0 (show k < _ by omega))) hb16⟩
   · exact .inl ⟨rfl, zcf (zae rfl) rfl⟩
   iterate 6 (exact .inr ⟨rfl, rfl⟩)
   · exact .inl ⟨rfl, zcf (zae rfl) rfl⟩
   · exact .inl ⟨rfl, zcf (zae rfl) rfl⟩
   exact .inl ⟨rfl, zcf (zen (s := 1) rfl Try.underlying62 (by kernel_rfl) rfl rfl (zad 1 rfl) (by omega) (by omega)) rfl⟩
  refine zbd [75, 74, 48, 47, 46, 11, 10, 9, 8, 4, 3, 2, 1, 0] rfl ?_
  simp only [List.drop_succ_cons, List.drop_zero]
  refine zdh (i := 1) (n' := (fs.set k { fs.getD k bl0 with b := false }).length) rfl rfl rfl (by kernel_rfl) rfl rfl rfl rfl (by first | omega | (simp only [List.length_set]; omega)) List.length_set.symm (zdb blC (fun r => .bool r.b) (fun _ => rfl) _ ({ fs.getD k bl0 with b := false }) rfl) rfl ?_
  refine zbd [48, 47, 46, 11, 10, 9, 8, 4, 3, 2, 1, 0] rfl (zay (zap (zaj (zai (zeu rfl rfl rfl (zfl rfl rfl rfl (by constructor <;> omega)) (zab 1 rfl (zbd [48, 47, 46, 11, 10, 9, 8, 4, 3, 2, 1, 0] rfl (zay ?_))))))))
  exact zch (k + 1) (fs.set k { fs.getD k bl0 with b := false }) ⟨by omega, hfi.step (by omega) (by first | exact ⟨fun _ => .inl (by omega), fun _ => rfl⟩ | exact ⟨fun _ => .inr ⟨by show _ = true; assumption, by omega⟩, fun _ => rfl⟩ | exact ⟨fun h => absurd h Bool.false_ne_true, fun h => absurd h (by rintro (q | q); (omega); (first | (exact Bool.false_ne_true (Eq.trans (Eq.symm (by assumption)) q.1)) | (have q2 := q.2; omega)))⟩)⟩ (by omega) (zau [47, 46, 10, 9, 8, 4, 3, 2, 1, 0] rfl) ((.cons_cons _ (.cons_cons _ (.cons_cons _ (.cons_cons _ (.cons_cons _ (.cons_cons _ (.cons_cons _ .slnil))))))))
 refine zbd [48, 47, 46, 10, 9, 8, 4, 3, 2, 1, 0] rfl (zay (zaj (zaa (zao rfl ?_))))
 refine zbi ?_
 refine zed (zed ?_)
 refine zal ?_
 refine zaj (zaa (zai (zab 1 rfl (zbd [48, 47, 46, 12, 10, 9, 8, 4, 3, 2, 1, 0] rfl (zay (zaj (zba ?_)))))))
 refine hc_loop2 (α := Nat) (β := PuS) (fun u sg => [rowE 4 1 (.slice (some ⟨g3, 0, none⟩) ((List.replicate (n.cnt).toNat bl0).length) ((List.replicate (n.cnt).toNat bl0).length)) bs.length (bs.flatMap blC), rowE 4 1 (.slice (some ⟨g4, 0, none⟩) ((List.replicate (n.cnt).toNat bl0).length) ((List.replicate (n.cnt).toNat bl0).length)) fs.length (fs.flatMap blC), rowE 3 1 (.slice (some ⟨g5, 0, none⟩) ((List.replicate (n.cnt).toNat (0 : Int)).length) ((List.replicate (n.cnt).toNat (0 : Int)).length)) sg.ins.length (sg.ins.map (Value.int .i64)), egE mhR8 sg.ne sg.G, boxE b9 #[.int .i64 n.ins, n.sv, n.av, n.ov, .int .i64 (nd : Int), .slice (some ⟨g3, 0, none⟩) ((List.replicate (n.cnt).toNat bl0).length) ((List.replicate (n.cnt).toNat bl0).length), .slice (some ⟨g4, 0, none⟩) ((List.replicate (n.cnt).toNat bl0).length) ((List.replicate (n.cnt).toNat bl0).length), .slice (some ⟨g5, 0, none⟩) ((List.replicate (n.cnt).toNat (0 : Int)).length) ((List.replicate (n.cnt).toNat (0 : Int)).length), .map (some mhR8)] 69]) (fun u sg => [(0, .agg #[.int .i64 n.ins, n.sv, n.av, n.ov]), (1, .int .i64 (nd : Int)), (2, .int .i64 hh), (3, lv), (4, .pointer (some ⟨b1, 0, none⟩)), (8, .slice none 0 0), (9, .bool false), (10, .pointer (some ⟨b9, 0, none⟩)), (12, .int .i64 (u : Int)), (46, .int .i64 ((List.replicate (n.cnt).toNat bl0).length : Int)), (48, .bool false)]) (fun u sg => u ≤ 4 ∧ ∃ E, FiCtx n (nd : Int) hh ls fs sg.ins E (u : Int) ∧ EgOk sg.G E ∧ BdI sg.ins E ((u : Int) * 700) ∧ sg.ne ≤ u * 700) (fun u sg => 4 - u) 0 ⟨List.replicate n.cnt.toNat 0, fun _ => none, 0⟩ ⟨by omega, fun _ _ => 0, FiCtx.start hn hnd hbl hmk hfi (by omega), EgOk.start, BdI.start _, by show 0 ≤ _; omega⟩ (zau [48, 46, 12, 10, 9, 8, 4, 3, 2, 1, 0] rfl) ((.cons_cons _ (.cons_cons _ (.cons_cons _ (.cons_cons _ (.cons_cons _ (.cons _ (.cons _ .slnil)))))))) ?_
 intro u sg hi18
 obtain ⟨hu, E, cx, hge, hbd, hne⟩ := hi18
 refine zaa (zba (zaa (zai (zab 1 rfl ?_))))
 refine hl_q rfl rfl rfl (zas (by kernel_rfl) rfl (fun w hm => search_ret n nd hh ls fs sg.ins E (u : Int) b9 mhR8 sg.ne (.slice (some ⟨g3, 0, none⟩) ((List.replicate (n.cnt).toNat bl0).length) ((List.replicate (n.cnt).toNat bl0).length)) (.slice (some ⟨g4, 0, none⟩) ((List.replicate (n.cnt).toNat bl0).length) ((List.replicate (n.cnt).toNat bl0).length)) (.slice (some ⟨g5, 0, none⟩) ((List.replicate (n.cnt).toNat (0 : Int)).length) ((List.replicate (n.cnt).toNat (0 : Int)).length)) bs sg.G w (hr.below hm.bel) hn cx (fbW_of 4 rfl w hm) ((zad 0 rfl) w hm) hbl ((zad 1 rfl) w hm) ((zad 2 rfl) w hm) (mpE_own 3 rfl w hm) hge)) ?_
 intro v19 p20 hR21
 obtain ⟨bM, bx, q, vs, F, fd, x, ps, rfl, rfl, hsr, hsf, hst⟩ := hR21
 have hvl := hsr.len cx
 refine zab 5 rfl (zbd [48, 46, 14, 13, 12, 10, 9, 8, 4, 3, 2, 1, 0] rfl (zay (zaj (zaa (zaa (zai (zab 1 rfl (zeu rfl rfl rfl (rv_endNil rfl ⟨_, Try.underlying72⟩ rfl rfl) ?_))))))))
 refine zbc (fun h22 => ?_) (fun h22 => ?_)
 ·
  have hfd := nb_yes h22
  refine zbd [85, 48, 46, 14, 13, 12, 10, 9, 8, 4, 3, 2, 1, 0] rfl (zay (zaj (zaq rfl (zaa (zai ?_)))))
  refine zds 3 1 ?_
  refine zeu rfl rfl rfl (zae rfl) (zbd [85, 48, 46, 15, 14, 13, 12, 10, 9, 8, 4, 3, 2, 1, 0] rfl (zay (zaj (zaa (zaa (zai (zab 1 rfl (zeu rfl rfl rfl (zbf rfl rfl) (zeu rfl rfl rfl (zef (k0 := 5) rfl (by kernel_rfl) rfl) (zeu rfl rfl rfl (zan rfl (by kernel_rfl) rfl (zah 7 rfl rfl)) (zeu rfl rfl rfl (rv_len rfl Try.underlying62 rfl (zad 3 rfl)) (zab 1 rfl (zbd [91, 90, 85, 48, 46, 15, 14, 13, 12, 10, 9, 8, 4, 3, 2, 1, 0] rfl ?_)))))))))))))
  refine zay (zaj (zba ?_))
  refine hc_loop3 (α := Nat) (β := Value) (γ := List Int) (fun k ov os => [rowE 3 1 ov os.length (os.map (Value.int .i64)), frE bM vs.length F, rowE 4 1 (.slice (some ⟨g3, 0, none⟩) ((List.replicate (n.cnt).toNat bl0).length) ((List.replicate (n.cnt).toNat bl0).length)) bs.length (bs.flatMap blC)]) (fun k ov os => [(0, .agg #[.int .i64 n.ins, n.sv, n.av, n.ov]), (1, .int .i64 (nd : Int)), (2, .int .i64 hh), (3, lv), (4, .pointer (some ⟨b1, 0, none⟩)), (8, .slice none 0 0), (9, .bool false), (10, .pointer (some ⟨b9, 0, none⟩)), (12, .int .i64 (u : Int)), (13, .map (some bM)), (14, endP fd bx), (15, ov), (46, .int .i64 ((List.replicate (n.cnt).toNat bl0).length : Int)), (48, .bool false), (85, .bool true), (90, .int .i64 (bs.length : Int)), (91, .int .i64 (k : Int))]) (fun k ov os => k ≤ bs.length ∧ os = cutF F k) (fun k ov os => bs.length - k) 0 _ [] ⟨Nat.zero_le _, rfl⟩ (zau [91, 90, 85, 48, 46, 15, 14, 13, 12, 10, 9, 8, 4, 3, 2, 1, 0] rfl) ((.cons_cons _ (.cons_cons _ (.cons _ (.cons_cons _ (.cons _ (.cons _ (.cons _ (.cons _ .slnil))))))))) ?_
  intro k ov os hi24
  obtain ⟨hk9, hz⟩ := hi24
  have hzl : os.length ≤ k := by rw [hz]; exact cutF_len _
  refine zaa (zai ?_)
  refine zbr rfl rfl rfl rfl rfl rfl (fun h25 => ?_) (fun h25 => ?_)
  ·
   refine zbd [92, 91, 90, 85, 48, 46, 15, 14, 13, 12, 10, 9, 8, 4, 3, 2, 1, 0] rfl (zay (zaj (zaa (zaq rfl (zdg (zaj (zaa (zba (zaa (zai (zab 2 rfl (zbd [92, 91, 90, 85, 48, 46, 16, 15, 14, 13, 12, 10, 9, 8, 4, 3, 2, 1, 0] rfl (zay ?_)))))))))))))
   refine zaj (zaa (zai (zab 2 rfl (zeu rfl rfl rfl (zcp (cs := #[.int .i64 (k : Int), .bool true]) rfl rfl (by kernel_rfl)) ?_))))
   refine zeu rfl rfl rfl (zgd (b := bM) (y := ((k, true) : Vx)) rfl Try.underlying71 kSt zSt rfl rfl (keySt ((k, true) : Vx) (by show k ≤ _; omega)) (fun w hm => mpE_own 1 rfl w hm) (mpV_st _) rfl) ?_
   refine zab 2 rfl (zeu rfl rfl rfl (zae rfl) ?_)
   refine zbc (fun h26 => ?_) (fun h26 => ?_)
   ·
    refine hl_box rfl rfl rfl (zbq (z := .agg #[.int .i64 0, .bool false]) rfl (by kernel_rfl)) ?_
    intro b27
    refine zbu (cs' := #[.int .i64 (((F ((k, true) : Vx)).getD vx0).1 : Int), .bool (((F ((k, true) : Vx)).getD vx0).2)]) (i := 0) (off := 0) (us := [.int .i64 (((F ((k, true) : Vx)).getD vx0).1 : Int), .bool (((F ((k, true) : Vx)).getD vx0).2)]) rfl rfl rfl (by kernel_rfl) rfl rfl rfl (zar rfl (zar rfl zbs)) rfl rfl rfl ?_
    refine zab 1 rfl (zbd [92, 91, 90, 85, 48, 46, 18, 16, 15, 14, 13, 12, 10, 9, 8, 4, 3, 2, 1, 0] rfl (zay (zaj (zaa (zai (zab 2 rfl (zeu rfl rfl rfl (zcp (cs := #[.int .i64 (k : Int), .bool false]) rfl rfl (by kernel_rfl)) ?_)))))))
    refine zeu rfl rfl rfl (zgd (b := bM) (y := ((k, false) : Vx)) rfl Try.underlying71 kSt zSt rfl rfl (keySt ((k, false) : Vx) (by show k ≤ _; omega)) (fun w hm => mpE_own 2 rfl w hm) (mpV_st _) rfl) ?_
    refine zab 2 rfl (zeu rfl rfl rfl (zae rfl) ?_)
    refine zbc (fun h28 => ?_) (fun h28 => ?_)
    ·
     refine hl_box rfl rfl rfl (zbq (z := .agg #[.int .i64 0, .bool false]) rfl (by kernel_rfl)) ?_
     intro b29
     refine zbu (cs' := #[.int .i64 (((F ((k, false) : Vx)).getD vx0).1 : Int), .bool (((F ((k, false) : Vx)).getD vx0).2)]) (i := 0) (off := 0) (us := [.int .i64 (((F ((k, false) : Vx)).getD vx0).1 : Int), .bool (((F ((k, false) : Vx)).getD vx0).2)]) rfl rfl rfl (by kernel_rfl) rfl rfl rfl (zar rfl (zar rfl zbs)) rfl rfl rfl ?_
     refine zab 1 rfl (zbd [92, 91, 90, 85, 48, 46, 20, 18, 16, 15, 14, 13, 12, 10, 9, 8, 4, 3, 2, 1, 0] rfl (zay (zaj (zaa (zai (zab 7 rfl (hl_skip rfl rfl rfl (zab 1 rfl (zbd [116, 92, 91, 90, 85, 48, 46, 20, 18, 16, 15, 14, 13, 12, 10, 9, 8, 4, 3, 2, 1, 0] rfl (zay (zaj (zao rfl (zdg ?_)))))))))))))
     refine zap (zaj (zai (zeu rfl rfl rfl (zfl rfl rfl rfl (by constructor <;> omega)) (zab 1 rfl (zbd [116, 92, 91, 90, 85, 48, 46, 20, 18, 16, 15, 14, 13, 12, 10, 9, 8, 4, 3, 2, 1, 0] rfl (zay ?_))))))
     exact zbv (k + 1) ov os ⟨by omega, by rw [hz]; exact cutF_no (by unfold cutQ; first | (simp_all; done) | (simp_all; omega))⟩ (by omega) (zau [91, 90, 85, 48, 46, 15, 14, 13, 12, 10, 9, 8, 4, 3, 2, 1, 0] rfl) ((.cons _ (.cons _ (.cons_cons _ (.cons_cons _ (.cons_cons _ .slnil))))))
    refine hl_box rfl rfl rfl (zbq (z := .agg #[.int .i64 0, .bool false]) rfl (by kernel_rfl)) ?_
    intro b30
    refine zbu (cs' := #[.int .i64 (((F ((k, false) : Vx)).getD vx0).1 : Int), .bool (((F ((k, false) : Vx)).getD vx0).2)]) (i := 0) (off := 0) (us := [.int .i64 (((F ((k, false) : Vx)).getD vx0).1 : Int), .bool (((F ((k, false) : Vx)).getD vx0).2)]) rfl rfl rfl (by kernel_rfl) rfl rfl rfl (zar rfl (zar rfl zbs)) rfl rfl rfl ?_
    refine zab 1 rfl (zbd [92, 91, 90, 85, 48, 46, 20, 18, 16, 15, 14, 13, 12, 10, 9, 8, 4, 3, 2, 1, 0] rfl (zay (zaj (zaa (zai (zab 7 rfl ?_))))))
    refine hl_neq rfl rfl rfl rfl rfl rfl (fun h31 => ?_) (fun h31 => ?_)
    ·
     refine zab 1 rfl (zbd [116, 92, 91, 90, 85, 48, 46, 20, 18, 16, 15, 14, 13, 12, 10, 9, 8, 4, 3, 2, 1, 0] rfl (zay (zaj (zaq rfl (zai (zab 2 rfl ?_))))))
     refine hl_row rfl rfl rfl (zaw (z := .int .i64 0) (s := 1) (cs := ([(k : Int)].map (Value.int .i64))) rfl Try.underlying26 (by kernel_rfl) (by decide) rfl (by kernel_rfl) rfl) ?_
     intro g32
     refine zck (i := 3) (z := .int .i64 0) (bytes := 8) rfl rfl rfl rfl Try.underlying26 (by kernel_rfl) (by kernel_rfl) rfl rfl rfl (zad 0 rfl) (zca _) (by first | omega | (simp; done) | (simp; omega)) (zcc os ([(k : Int)])) (zcv os ([(k : Int)])) (fun _ => rfl) ?_
     intro v33
     refine zab 1 rfl (zbd [116, 92, 91, 90, 85, 48, 46, 20, 18, 16, 15, 14, 13, 12, 10, 9, 8, 4, 3, 2, 1, 0] rfl (zay (zap (zaj (zai (zeu rfl rfl rfl (zfl rfl rfl rfl (by constructor <;> omega)) (zab 1 rfl (zbd [116, 92, 91, 90, 85, 48, 46, 20, 18, 16, 15, 14, 13, 12, 10, 9, 8, 4, 3, 2, 1, 0] rfl (zay ?_)))))))))
     exact zbv (k + 1) v33 (os ++ ([(k : Int)])) ⟨by omega, by rw [hz]; exact cutF_yes (by unfold cutQ; first | (simp_all; done) | (simp_all; omega))⟩ (by omega) (zau [91, 90, 85, 48, 46, 15, 14, 13, 12, 10, 9, 8, 4, 3, 2, 1, 0] rfl) ((.cons _ (.cons _ (.cons _ (.cons_cons _ (.cons_cons _ (.cons_cons _ .slnil)))))))
    refine zab 1 rfl (zbd [116, 92, 91, 90, 85, 48, 46, 20, 18, 16, 15, 14, 13, 12, 10, 9, 8, 4, 3, 2, 1, 0] rfl (zay (zaj (zao rfl (zdg (zap (zaj (zai (zeu rfl rfl rfl (zfl rfl rfl rfl (by constructor <;> omega)) (zab 1 rfl (zbd [116, 92, 91, 90, 85, 48, 46, 20, 18, 16, 15, 14, 13, 12, 10, 9, 8, 4, 3, 2, 1, 0] rfl (zay ?_))))))))))))
    exact zbv (k + 1) ov os ⟨by omega, by rw [hz]; exact cutF_no (by unfold cutQ; first | (simp_all; done) | (simp_all; omega))⟩ (by omega) (zau [91, 90, 85, 48, 46, 15, 14, 13, 12, 10, 9, 8, 4, 3, 2, 1, 0] rfl) ((.cons _ (.cons _ (.cons_cons _ (.cons_cons _ (.cons_cons _ .slnil))))))
   refine hl_box rfl rfl rfl (zbq (z := .agg #[.int .i64 0, .bool false]) rfl (by kernel_rfl)) ?_
   intro b34
   refine zbu (cs' := #[.int .i64 (((F ((k, true) : Vx)).getD vx0).1 : Int), .bool (((F ((k, true) : Vx)).getD vx0).2)]) (i := 0) (off := 0) (us := [.int .i64 (((F ((k, true) : Vx)).getD vx0).1 : Int), .bool (((F ((k, true) : Vx)).getD vx0).2)]) rfl rfl rfl (by kernel_rfl) rfl rfl rfl (zar rfl (zar rfl zbs)) rfl rfl rfl ?_
   refine zab 1 rfl (zbd [92, 91, 90, 85, 48, 46, 18, 16, 15, 14, 13, 12, 10, 9, 8, 4, 3, 2, 1, 0] rfl (zay (zaj (zaa (zai (zab 2 rfl (zeu rfl rfl rfl (zcp (cs := #[.int .i64 (k : Int), .bool false]) rfl rfl (by kernel_rfl)) ?_)))))))
   refine zeu rfl rfl rfl (zgd (b := bM) (y := ((k, false) : Vx)) rfl Try.underlying71 kSt zSt rfl rfl (keySt ((k, false) : Vx) (by show k ≤ _; omega)) (fun w hm => mpE_own 2 rfl w hm) (mpV_st _) rfl) ?_
   refine zab 2 rfl (zeu rfl rfl rfl (zae rfl) ?_)
   refine zbc (fun h35 => ?_) (fun h35 => ?_)
   ·
    refine hl_box rfl rfl rfl (zbq (z := .agg #[.int .i64 0, .bool false]) rfl (by kernel_rfl)) ?_
    intro b36
    refine zbu (cs' := #[.int .i64 (((F ((k, false) : Vx)).getD vx0).1 : Int), .bool (((F ((k, false) : Vx)).getD vx0).2)]) (i := 0) (off := 0) (us := [.int .i64 (((F ((k, false) : Vx)).getD vx0).1 : Int), .bool (((F ((k, false) : Vx)).getD vx0).2)]) rfl rfl rfl (by kernel_rfl) rfl rfl rfl (zar rfl (zar rfl zbs)) rfl rfl rfl ?_
    refine zab 1 rfl (zbd [92, 91, 90, 85, 48, 46, 20, 18, 16, 15, 14, 13, 12, 10, 9, 8, 4, 3, 2, 1, 0] rfl (zay (zaj (zaa (zai (zab 7 rfl (hl_skip rfl rfl rfl (zab 1 rfl (zbd [116, 92, 91, 90, 85, 48, 46, 20, 18, 16, 15, 14, 13, 12, 10, 9, 8, 4, 3, 2, 1, 0] rfl (zay (zaj (zao rfl (zdg ?_)))))))))))))
    refine zap (zaj (zai (zeu rfl rfl rfl (zfl rfl rfl rfl (by constructor <;> omega)) (zab 1 rfl (zbd [116, 92, 91, 90, 85, 48, 46, 20, 18, 16, 15, 14, 13, 12, 10, 9, 8, 4, 3, 2, 1, 0] rfl (zay ?_))))))
    exact zbv (k + 1) ov os ⟨by omega, by rw [hz]; exact cutF_no (by unfold cutQ; first | (simp_all; done) | (simp_all; omega))⟩ (by omega) (zau [91, 90, 85, 48, 46, 15, 14, 13, 12, 10, 9, 8, 4, 3, 2, 1, 0] rfl) ((.cons _ (.cons _ (.cons_cons _ (.cons_cons _ (.cons_cons _ .slnil))))))
   refine hl_box rfl rfl rfl (zbq (z := .agg #[.int .i64 0, .bool false]) rfl (by kernel_rfl)) ?_
   intro b37
   refine zbu (cs' := #[.int .i64 (((F ((k, false) : Vx)).getD vx0).1 : Int), .bool (((F ((k, false) : Vx)).getD vx0).2)]) (i := 0) (off := 0) (us := [.int .i64 (((F ((k, false) : Vx)).getD vx0).1 : Int), .bool (((F ((k, false) : Vx)).getD vx0).2)]) rfl rfl rfl (by kernel_rfl) rfl rfl rfl (zar rfl (zar rfl zbs)) rfl rfl rfl ?_
   refine zab 1 rfl (zbd [92, 91, 90, 85, 48, 46, 20, 18, 16, 15, 14, 13, 12, 10, 9, 8, 4, 3, 2, 1, 0] rfl (zay (zaj (zaa (zai (zab 7 rfl (hl_skip rfl rfl rfl (zab 1 rfl (zbd [116, 92, 91, 90, 85, 48, 46, 20, 18, 16, 15, 14, 13, 12, 10, 9, 8, 4, 3, 2, 1, 0] rfl (zay (zaj (zao rfl (zdg ?_)))))))))))))
   refine zap (zaj (zai (zeu rfl rfl rfl (zfl rfl rfl rfl (by constructor <;> omega)) (zab 1 rfl (zbd [116, 92, 91, 90, 85, 48, 46, 20, 18, 16, 15, 14, 13, 12, 10, 9, 8, 4, 3, 2, 1, 0] rfl (zay ?_))))))
   exact zbv (k + 1) ov os ⟨by omega, by rw [hz]; exact cutF_no (by unfold cutQ; first | (simp_all; done) | (simp_all; omega))⟩ (by omega) (zau [91, 90, 85, 48, 46, 15, 14, 13, 12, 10, 9, 8, 4, 3, 2, 1, 0] rfl) ((.cons _ (.cons _ (.cons_cons _ (.cons_cons _ (.cons_cons _ .slnil))))))
  refine zbd [92, 91, 90, 85, 48, 46, 15, 14, 13, 12, 10, 9, 8, 4, 3, 2, 1, 0] rfl (zay (zaj (zaa (zao rfl ?_))))
  refine zbi ?_
  refine zed (zed ?_)
  refine zal ?_
  refine zaj (zaa (zai (zab 3 rfl (zbd [92, 91, 90, 85, 48, 46, 15, 14, 13, 12, 10, 9, 8, 4, 3, 2, 1, 0] rfl (zay (zaj ?_))))))
  refine zax ?_
  refine zam ?_
  refine zat ?_
  refine zam (zam ?_)
  refine zat ?_
  exact zdl (rs := [.tmp 8, .tmp 9]) (vs := [ov, .bool true]) (post := [rowE 3 1 ov os.length (os.map (Value.int .i64))]) rfl ⟨rfl, rfl, trivial⟩ rfl ((.cons_cons _ (.cons _ (.cons _ .slnil)))) ⟨os, _, _, rfl, rfl, (pBc_yes (CutH.of cx hsr (hsf hfd) hh1 (by omega)).ex).symm, fun _ => by rw [hz, show k = n.cnt.toNat by omega]; exact CutH.of cx hsr (hsf hfd) hh1 (by omega)⟩
 have hfd := nb_no h22
 refine zbd [85, 48, 46, 14, 13, 12, 10, 9, 8, 4, 3, 2, 1, 0] rfl (zay (zaj (zao rfl (zdg (zaj (zaa (zaa (zai ?_))))))))
 obtain ⟨⟨hx1, hx2, hx3, hx4⟩, hbx⟩ := hst hfd
 obtain ⟨xk, xo⟩ := x
 have hx2 : xo = false := hx2
 subst hx2
 subst hfd
 rw [endP_yes]
 refine zeu rfl rfl rfl (zae rfl) ?_
 refine zcj rfl rfl rfl rfl rfl rfl (fun h38 => ?_) (fun h38 => ?_)
 ·
  refine zbd [124, 85, 48, 46, 14, 13, 12, 10, 9, 8, 4, 3, 2, 1, 0] rfl (zay (zaj (zaq rfl (zaa (zai ?_)))))
  refine zds 3 1 ?_
  refine zeu rfl rfl rfl (zae rfl) (zab 1 rfl (zbd [124, 85, 48, 46, 14, 13, 12, 10, 9, 8, 4, 3, 2, 1, 0] rfl (zay (zaj ?_))))
  refine zax ?_
  refine zam ?_
  refine zat ?_
  refine zam (zam ?_)
  refine zat ?_
  exact zdl (rs := [.tmp 8, .tmp 9]) (vs := [.slice none 0 0, .bool false]) (post := [rowE 3 1 (.slice none 0 0) 0 ([])]) rfl ⟨rfl, rfl, trivial⟩ rfl ((.cons_cons _ (.cons _ (.cons _ (.cons _ (.cons _ (.cons _ (.cons _ (.cons _ .slnil))))))))) ⟨[], _, _, rfl, rfl, (pBc_no (cut_no cx hsr hx1 ⟨hx3, hx4⟩ (by omega))).symm, fun h => absurd h (by decide)⟩
 refine zbd [124, 85, 48, 46, 14, 13, 12, 10, 9, 8, 4, 3, 2, 1, 0] rfl (zay (zaj (zao rfl (zdg (zaj (zai ?_))))))
 refine hl_pick 7 [3, 2, 1, 0, 5, 4, 6] rfl rfl (by decide) ?_
 refine hl_conv [pshE b9 n (nd : Int) (.slice (some ⟨g3, 0, none⟩) ((List.replicate (n.cnt).toNat bl0).length) ((List.replicate (n.cnt).toNat bl0).length)) (.slice (some ⟨g4, 0, none⟩) ((List.replicate (n.cnt).toNat bl0).length) ((List.replicate (n.cnt).toNat bl0).length)) (.slice (some ⟨g5, 0, none⟩) ((List.replicate (n.cnt).toNat (0 : Int)).length) ((List.replicate (n.cnt).toNat (0 : Int)).length)) mhR8 bM vs.length sg.ins sg.ne sg.G F, bigE ps, rowE 4 1 (.slice (some ⟨g3, 0, none⟩) ((List.replicate (n.cnt).toNat bl0).length) ((List.replicate (n.cnt).toNat bl0).length)) bs.length (bs.flatMap blC), rowE 4 1 (.slice (some ⟨g4, 0, none⟩) ((List.replicate (n.cnt).toNat bl0).length) ((List.replicate (n.cnt).toNat bl0).length)) fs.length (fs.flatMap blC)] conv_psh ?_
 refine zeu rfl rfl rfl (zae rfl) (zab 2 rfl (zeu rfl rfl rfl (zbf rfl rfl) ?_))
 refine zeu rfl rfl rfl (zaf (cs := [.int .i64 (xk : Int), .bool false]) rfl (by kernel_rfl) (by kernel_rfl) rfl rfl (fun w9 hm9 j u hj => by rw [Nat.zero_add]; exact pool_at 1 rfl (fun w8 hw8 => hbx w8 hw8) w9 hm9 j u hj)) ?_
 refine zda (R := (fun v_ p_ => ∃ (s' : PuS) (E' : Nat → Nat → Int), p_ = pshE b9 n (nd : Int) (.slice (some ⟨g3, 0, none⟩) ((List.replicate (n.cnt).toNat bl0).length) ((List.replicate (n.cnt).toNat bl0).length)) (.slice (some ⟨g4, 0, none⟩) ((List.replicate (n.cnt).toNat bl0).length) ((List.replicate (n.cnt).toNat bl0).length)) (.slice (some ⟨g5, 0, none⟩) ((List.replicate (n.cnt).toNat (0 : Int)).length) ((List.replicate (n.cnt).toNat (0 : Int)).length)) mhR8 bM vs.length s'.ins s'.ne s'.G F ∧ FiCtx n (nd : Int) hh ls fs s'.ins E' ((u : Int) + 1) ∧ EgOk s'.G E' ∧ BdI s'.ins E' (((u : Int) * 700) + vs.length) ∧ s'.ne ≤ sg.ne + vs.length)) 0 rfl rfl (by kernel_rfl) rfl rfl (fun l' w hm => push_mut n nd hh ls fs sg.ins E (u : Int) vs F xk false b9 mhR8 bM vs.length sg.ne (.slice (some ⟨g3, 0, none⟩) ((List.replicate (n.cnt).toNat bl0).length) ((List.replicate (n.cnt).toNat bl0).length)) (.slice (some ⟨g4, 0, none⟩) ((List.replicate (n.cnt).toNat bl0).length) ((List.replicate (n.cnt).toNat bl0).length)) (.slice (some ⟨g5, 0, none⟩) ((List.replicate (n.cnt).toNat (0 : Int)).length) ((List.replicate (n.cnt).toNat (0 : Int)).length)) sg.G ((u : Int) * 700) _ _ _ hm cx (hsr.from_ cx) (hsr.found cx hx1 ⟨hx3, hx4⟩) hge hbd (by omega) (by omega) (by omega) (by omega)) ?_
 intro v40 p41 hR42
 obtain ⟨sg2, E3, rfl, cx3, hge3, hbd3, hne3⟩ := hR42
 refine zdo (l' := [pshE b9 n (nd : Int) (.slice (some ⟨g3, 0, none⟩) ((List.replicate (n.cnt).toNat bl0).length) ((List.replicate (n.cnt).toNat bl0).length)) (.slice (some ⟨g4, 0, none⟩) ((List.replicate (n.cnt).toNat bl0).length) ((List.replicate (n.cnt).toNat bl0).length)) (.slice (some ⟨g5, 0, none⟩) ((List.replicate (n.cnt).toNat (0 : Int)).length) ((List.replicate (n.cnt).toNat (0 : Int)).length)) mhR8 bM vs.length sg2.ins sg2.ne sg2.G F, bigE ps, rowE 4 1 (.slice (some ⟨g3, 0, none⟩) ((List.replicate (n.cnt).toNat bl0).length) ((List.replicate (n.cnt).toNat bl0).length)) bs.length (bs.flatMap blC), rowE 4 1 (.slice (some ⟨g4, 0, none⟩) ((List.replicate (n.cnt).toNat bl0).length) ((List.replicate (n.cnt).toNat bl0).length)) fs.length (fs.flatMap blC)]) rfl ?_
 refine zbd [124, 85, 48, 46, 14, 13, 12, 10, 9, 8, 4, 3, 2, 1, 0] rfl (zay (zap (zaj (zai (zab 1 rfl (zeu rfl rfl rfl (zfl rfl rfl rfl (by constructor <;> omega)) (zab 1 rfl (zbd [124, 85, 48, 46, 14, 13, 12, 10, 9, 8, 4, 3, 2, 1, 0] rfl (zay ?_)))))))))
 refine zfi [boxE b9 #[.int .i64 n.ins, n.sv, n.av, n.ov, .int .i64 (nd : Int), .slice (some ⟨g3, 0, none⟩) ((List.replicate (n.cnt).toNat bl0).length) ((List.replicate (n.cnt).toNat bl0).length), .slice (some ⟨g4, 0, none⟩) ((List.replicate (n.cnt).toNat bl0).length) ((List.replicate (n.cnt).toNat bl0).length), .slice (some ⟨g5, 0, none⟩) ((List.replicate (n.cnt).toNat (0 : Int)).length) ((List.replicate (n.cnt).toNat (0 : Int)).length), .map (some mhR8)] 69, rowE 3 1 (.slice (some ⟨g5, 0, none⟩) ((List.replicate (n.cnt).toNat (0 : Int)).length) ((List.replicate (n.cnt).toNat (0 : Int)).length)) sg2.ins.length (sg2.ins.map (Value.int .i64)), egE mhR8 sg2.ne sg2.G, frE bM vs.length F, bigE ps, rowE 4 1 (.slice (some ⟨g3, 0, none⟩) ((List.replicate (n.cnt).toNat bl0).length) ((List.replicate (n.cnt).toNat bl0).length)) bs.length (bs.flatMap blC), rowE 4 1 (.slice (some ⟨g4, 0, none⟩) ((List.replicate (n.cnt).toNat bl0).length) ((List.replicate (n.cnt).toNat bl0).length)) fs.length (fs.flatMap blC)] zfy ?_
 refine zcg 7 [0, 2, 1, 6, 5] rfl rfl (by decide) ?_
 exact zch (u + 1) sg2 ⟨by omega, E3, (by rw [show ((u + 1 : Nat) : Int) = (u : Int) + 1 by omega]; exact cx3), hge3, hbd3.le (by omega), by omega⟩ (by omega) (zau [48, 46, 12, 10, 9, 8, 4, 3, 2, 1, 0] rfl) ((.cons_cons _ (.cons_cons _ (.cons_cons _ (.cons_cons _ (.cons_cons _ .slnil))))))
open Go.RowKit
theorem heightCut_at (n : Nt) (ls : List Int) (lv : Value) (node : Int) (hh : Int) (w : World) (hr : RdsNt w n) (hn : NtOk n) (hl : RdsW w lv 1 ls.length (ls.map (Value.int .i64))) (hll : (ls.length : Int) = n.cnt) (hnd : n.fst ≤ node ∧ node < n.cnt) (hh1 : 1 ≤ hh) :
   Calls Try.prog 25 #[.agg #[.int .i64 n.ins, n.sv, n.av, n.ov], .int .i64 node, .int .i64 hh, lv] w (Ret w (fun u_ p_ => ∃ (xs : List Int) (cv : Value) (okb : Bool), u_ = .tuple #[cv, .bool okb] ∧ p_ = [rowE 3 1 cv xs.length (xs.map (Value.int .i64))] ∧ okb = pBc (SepEx n ls node hh) ∧ (okb = true → CutH n ls node hh xs))) := by
  have hf1 : 1 ≤ n.fst := by have := hn.i0; unfold Nt.fst; omega
  obtain ⟨nd, rfl⟩ := Int.eq_ofNat_of_zero_le (show 0 ≤ node by omega)
  exact heightCut_ret n ls lv nd hh w hr hn hl hll hnd hh1
def mxP (ls xs : List Int) (j : Nat) : Int := (xs.take j).foldl (fun m c => max m (lbI ls c)) 1
theorem mxP_start (ls xs : List Int) : 1 = mxP ls xs 0 := rfl
theorem mxP_step {ls xs : List Int} {j : Nat} (h : j < xs.length) : (if mxP ls xs j < lbI ls (xs.getD j 0) then lbI ls (xs.getD j 0) else mxP ls xs j) = mxP ls xs (j + 1) := by
  have e : mxP ls xs (j + 1) = max (mxP ls xs j) (lbI ls (xs.getD j 0)) := by
    unfold mxP; rw [zdi 0 h, List.foldl_append]; rfl
  rw [e]; split <;> omega
theorem mxP_kid {n : Nt} {ls : List Int} {k : Int} (h : n.fst ≤ k ∧ k < n.cnt) {j : Nat} (hj : (kidL n k).length ≤ j) : mxP ls (kidL n k) j = mxL n ls k := by
  unfold mxP mxL
  rw [List.take_of_length_le hj]
  unfold kidL
  rw [if_pos h]
  split
  · rename_i e
    show max 1 (lbI ls (kdA n k)) = _
    rw [← e]; omega
  · show max (max 1 (lbI ls (kdA n k))) (lbI ls (kdB n k)) = _
    omega
attribute [irreducible] mxP
attribute [local irreducible] mxL kidL
def tFsV (v : Value) : Value := match v with | .tuple #[x, _] => x | _ => undef
def tSnB (v : Value) : Bool := match v with | .tuple #[_, .bool b] => b | _ => false
def CutQ (n : Nt) (node hh : Int) (xs : List Int) (okb : Bool) : Prop := ∀ ls : List Int, (ls.length : Int) = n.cnt → LabL n n.cnt ls → (okb = true ↔ (n.fst ≤ node ∧ 1 ≤ hh ∧ lbI ls node ≤ hh)) ∧ (okb = true → CutH n ls node hh xs)
def CutR (n : Nt) (node hh : Int) (xs : List Int) (okb : Bool) : Prop := (okb = false → xs = []) ∧ CutQ n node hh xs okb
theorem CutR.early {n : Nt} {node hh : Int} (h : ¬ (n.fst ≤ node ∧ 1 ≤ hh)) : CutR n node hh [] false := ⟨fun _ => rfl, fun ls _ _ => ⟨⟨fun q => Bool.noConfusion q, fun q => absurd ⟨q.1, q.2.1⟩ h⟩, fun q => Bool.noConfusion q⟩⟩
theorem CutR.no {n : Nt} {node hh : Int} {xs : List Int} {okb : Bool} (h : CutQ n node hh xs okb) (hb : okb = false) : CutR n node hh [] false := ⟨fun _ => rfl, fun ls h2 h3 => by
  subst hb; exact ⟨(h ls h2 h3).1, fun q => Bool.noConfusion q⟩⟩
theorem CutR.yes {n : Nt} {node hh : Int} {xs : List Int} {okb : Bool} (h : CutQ n node hh xs okb) (hb : okb = true) : CutR n node hh xs true := ⟨fun q => Bool.noConfusion q, by subst hb; exact h⟩
theorem cutQ_of {n : Nt} (hn : NtOk n) {node hh : Int} {ls0 xs : List Int} {okb : Bool} (hl : (ls0.length : Int) = n.cnt) (hL : LabL n n.cnt ls0) (h0 : n.fst ≤ node ∧ node < n.cnt) (h1 : 1 ≤ hh) (h : okb = pBc (SepEx n ls0 node hh)) (hc : okb = true → CutH n ls0 node hh xs) : CutQ n node hh xs okb := fun ls h2 h3 => by
  have e := zdx hn hl h2 hL h3
  subst e
  have hs := sep_iff hn hL (Int.le_refl _) _ node hh (Nat.lt_succ_self _) h0.1 h0.2 h1
  refine ⟨⟨fun q => ⟨h0.1, h1, hs.1 (of_pBc (h.symm.trans q))⟩, fun q => ?_⟩, hc⟩
  rw [h]; exact pBc_yes (hs.2 q.2.2)
theorem heightCut_q (n : Nt) (ls : List Int) (lv : Value) (node : Int) (hh : Int) (w : World) (hr : RdsNt w n) (hn : NtOk n) (hl : RdsW w lv 1 ls.length (ls.map (Value.int .i64))) (hll : (ls.length : Int) = n.cnt) (hL : LabL n n.cnt ls) (hnd : n.fst ≤ node ∧ node < n.cnt) (hh1 : 1 ≤ hh) :
   Calls Try.prog 25 #[.agg #[.int .i64 n.ins, n.sv, n.av, n.ov], .int .i64 node, .int .i64 hh, lv] w (Ret w (fun u_ p_ => ∃ (xs : List Int) (cv : Value) (okb : Bool), u_ = .tuple #[cv, .bool okb] ∧ p_ = [rowE 3 1 cv xs.length (xs.map (Value.int .i64))] ∧ CutQ n node hh xs okb)) :=
  (heightCut_at n ls lv node hh w hr hn hl hll hnd hh1).mono (fun e w' ⟨u, p, g1, ⟨xs, cv, okb, h1, h2, h3, h4⟩, g3⟩ => ⟨u, p, g1, ⟨xs, cv, okb, h1, h2, cutQ_of hn hll hL hnd hh1 h3 h4⟩, g3⟩)
def HtI (ls xs : List Int) (m : Int) : Prop := ∀ h : Int, 1 ≤ h → (∀ c ∈ xs, lbI ls c < h) → m ≤ h
def HtS (ls xs : List Int) (m : Int) : Prop := 0 ≤ m ∧ ∀ c ∈ xs, lbI ls c ≤ m
theorem HtI.start (ls : List Int) : HtI ls [] 1 := fun h h1 _ => h1
theorem HtI.step {ls xs : List Int} {i : Nat} {m x : Int} (h : HtI ls (xs.take i) m) (hi : i < xs.length) (hx : x = m ∨ x = 1 + lbI ls (xs.getD i 0)) : HtI ls (xs.take (i + 1)) x := fun hh h1 hc => by
  rw [zdi 0 hi] at hc
  rcases hx with e | e
  · rw [e]; exact h hh h1 (fun c q => hc c (List.mem_append_left _ q))
  · have := hc (xs.getD i 0) (List.mem_append_right _ (List.mem_singleton.2 rfl)); omega
theorem HtI.done {n : Nt} (hn : NtOk n) {ls0 xs : List Int} {i : Nat} {m : Int} (hl : (ls0.length : Int) = n.cnt) (hL : LabL n n.cnt ls0) (h : HtI ls0 (xs.take i) m) (hi : xs.length ≤ i) : ∀ ls : List Int, (ls.length : Int) = n.cnt → LabL n n.cnt ls → HtI ls xs m := fun ls h2 h3 => by
  have e := zdx hn hl h2 hL h3
  subst e; rwa [List.take_of_length_le hi] at h
def hgS (ls xs : List Int) : Int := xs.foldl (fun m c => max m (lbI ls c)) 0
theorem hgS_start (ls : List Int) : 0 = hgS ls [] := rfl
theorem hgS_step {ls xs : List Int} {i : Nat} (h : i < xs.length) : (if hgS ls (xs.take i) < lbI ls (xs.getD i 0) then lbI ls (xs.getD i 0) else hgS ls (xs.take i)) = hgS ls (xs.take (i + 1)) := by
  have e : hgS ls (xs.take (i + 1)) = max (hgS ls (xs.take i)) (lbI ls (xs.getD i 0)) := by
    unfold hgS; rw [zdi 0 h, List.foldl_append]; rfl
  rw [e]; split <;> omega
theorem hgS_ok (ls : List Int) : ∀ (xs : List Int) (m : Int), m ≤ xs.foldl (fun m c => max m (lbI ls c)) m ∧ ∀ c ∈ xs, lbI ls c ≤ xs.foldl (fun m c => max m (lbI ls c)) m
  | [], m => ⟨Int.le_refl _, fun c hc => by cases hc⟩
  | x :: t, m => by
    obtain ⟨h1, h2⟩ := hgS_ok ls t (max m (lbI ls x))
    rw [List.foldl_cons]
    refine ⟨by omega, fun c hc => ?_⟩
    rcases List.mem_cons.1 hc with rfl | hc
    · omega
    · exact h2 c hc
theorem hgS_ht (ls xs : List Int) : HtS ls xs (hgS ls xs) := hgS_ok ls xs 0
attribute [irreducible] hgS
theorem LabL.rng {n : Nt} (hn : NtOk n) {ls : List Int} (hL : LabL n n.cnt ls) {c : Int} (h0 : 0 ≤ c) (h1 : c < n.cnt) : 0 ≤ ls.getD c.toNat 0 ∧ ls.getD c.toNat 0 ≤ 333 := by
  have h2 := (hL.nn hn h0 h1).1
  have h3 := hL.small hn (Int.le_refl _) _ c (Nat.lt_succ_self _) h0 h1
  have : n.cnt ≤ 334 := by have := hn.i1; have := hn.s1; have := hn.a1; unfold Nt.cnt; omega
  unfold lbI at h2 h3
  omega
theorem zgj (n : Nt) (w : World) (hr : RdsNt w n) (hn : NtOk n) :
   Calls Try.prog 26 #[.agg #[.int .i64 n.ins, n.sv, n.av, n.ov]] w (Ret w (fun u_ p_ => ∃ ls : List Int, p_ = [rowE 3 1 u_ ls.length (ls.map (Value.int .i64))] ∧ (ls.length : Int) = n.cnt ∧ LabL n n.cnt ls)) := by
 have hi0 := hn.i0
 have hi1 := hn.i1
 have hs1 := hn.s1
 have ha1 := hn.a1
 have ho1 := hn.o1
 have hcnt : n.cnt = 1 + n.ins + n.ss.length + n.gs.length := rfl
 have hfst : n.fst = 1 + n.ins + n.ss.length := rfl
 have hrp2 : (List.replicate n.cnt.toNat (0 : Int)).length = n.cnt.toNat := List.length_replicate
 refine zbg (N := 53) (args := [.agg #[.int .i64 n.ins, n.sv, n.av, n.ov]]) Try.func26 rfl rfl (srQ ?_)
 refine zei rfl (zco rfl rfl) ?_
 intro b1
 refine zds 3 1 (zbb 1 rfl (srQ (hvQ rfl (zaf (cs := [.int .i64 n.ins, n.sv, n.av, n.ov]) rfl rfl rfl rfl rfl (zag 1 rfl 0 rfl)) ?_)))
 refine zdw rfl (zas rfl rfl (fun w hm => zaz (zbt n w (hr.below hm.bel) hn))) (zea rfl (zff (z := .int .i64 0) (s := 1) (bytes := 8) (n := (List.replicate (n.cnt).toNat (0 : Int)).length) (cs := ((List.replicate (n.cnt).toNat (0 : Int)).map (Value.int .i64))) rfl Try.underlying26 rfl (by decide) rfl rfl (by first | (rw [List.length_replicate]; done) | (rw [List.length_replicate]; omega)) (by first | (rw [List.length_replicate]; done) | (rw [List.length_replicate]; omega)) (by rw [List.length_replicate]; omega) (ints_make _)) ?_)
 intro g3
 refine zbb 1 rfl (ssrQ (hvQ rfl (zaf (cs := [.int .i64 n.ins, n.sv, n.av, n.ov]) rfl rfl rfl rfl rfl (zag 2 rfl 0 rfl)) ?_))
 refine zdw rfl (zas rfl rfl (fun w hm => zaz (zdu n w (hr.below hm.bel) hn))) (zbb 1 rfl (zba ?_))
 refine hc_loop2 (α := Nat) (β := List Int) (fun i ls => [rowE 3 1 (.slice (some ⟨g3, 0, none⟩) ((List.replicate (n.cnt).toNat (0 : Int)).length) ((List.replicate (n.cnt).toNat (0 : Int)).length)) ls.length (ls.map (Value.int .i64)), rowE 3 1 (.slice none 0 0) 0 ([]), boxE b1 #[.int .i64 n.ins, n.sv, n.av, n.ov] 28]) (fun i ls => [(0, .agg #[.int .i64 n.ins, n.sv, n.av, n.ov]), (1, .pointer (some ⟨b1, 0, none⟩)), (2, .slice none 0 0), (3, .slice (some ⟨g3, 0, none⟩) ((List.replicate (n.cnt).toNat (0 : Int)).length) ((List.replicate (n.cnt).toNat (0 : Int)).length)), (4, .int .i64 (n.fst + (i : Int)))]) (fun i ls => i ≤ n.gs.length ∧ (ls.length : Int) = n.cnt ∧ LabL n (n.fst + (i : Int)) ls) (fun i ls => n.gs.length - i) 0 _ ⟨Nat.zero_le _, by rw [List.length_replicate]; omega, by have h9 := LabL.start n n.cnt.toNat; rwa [show n.fst + ((0 : Nat) : Int) = n.fst by omega]⟩ (zbx [3, 2, 1, 0] _ (sk 4 (congrArg (fun x => some (Value.int .i64 x)) (by simp)) (zak _)) rfl) (pfQ rfl) ?_
 intro i ls hi4
 obtain ⟨hi, hll, hL⟩ := hi4
 refine zaa (zaa (reQ 1 rfl (hvQ rfl (zaf (cs := [.int .i64 n.ins, n.sv, n.av, n.ov]) rfl rfl rfl rfl rfl (zag 2 rfl 0 rfl)) ?_)))
 refine zdw rfl (zas rfl rfl (fun w hm => zaz (zbt n w (hr.below hm.bel) hn))) (zbr rfl rfl rfl rfl rfl rfl (fun h5 => ?_) (fun h5 => ?_))
 ·
  refine ntQ (zaq rfl (zcw (sbQ (zbh 1 rfl ?_))))
  refine ssrQ (hvQ rfl (zaf (cs := [.int .i64 n.ins, n.sv, n.av, n.ov]) rfl rfl rfl rfl rfl (zag 2 rfl 0 rfl)) (zab 1 rfl ?_))
  refine hl_q rfl rfl rfl (zas rfl rfl (fun w hm => kidsOf_ret n (n.fst + (i : Int)) w (hr.below hm.bel) hn)) ?_
  intro v6 p7 hR8
  subst hR8
  have hkl := kidL_len n (n.fst + (i : Int))
  refine hvQ rfl (lnQ rfl rfl rfl (zad 0 rfl)) (zbb 1 rfl (zba ?_))
  refine hc_loop2 (α := Nat) (β := Int) (fun j mh => [rowE 3 1 v6 ((kidL n (n.fst + (i : Int))).length) ((kidL n (n.fst + (i : Int))).map (Value.int .i64)), rowE 3 1 (.slice (some ⟨g3, 0, none⟩) ((List.replicate (n.cnt).toNat (0 : Int)).length) ((List.replicate (n.cnt).toNat (0 : Int)).length)) ls.length (ls.map (Value.int .i64)), rowE 3 1 (.slice none 0 0) 0 ([]), boxE b1 #[.int .i64 n.ins, n.sv, n.av, n.ov] 28]) (fun j mh => [(0, .agg #[.int .i64 n.ins, n.sv, n.av, n.ov]), (1, .pointer (some ⟨b1, 0, none⟩)), (2, .slice none 0 0), (3, .slice (some ⟨g3, 0, none⟩) ((List.replicate (n.cnt).toNat (0 : Int)).length) ((List.replicate (n.cnt).toNat (0 : Int)).length)), (4, .int .i64 (n.fst + (i : Int))), (5, .int .i64 mh), (18, .bool true), (23, v6), (24, .int .i64 ((kidL n (n.fst + (i : Int))).length : Int)), (25, .int .i64 (j : Int))]) (fun j mh => j ≤ (kidL n (n.fst + (i : Int))).length ∧ mh = mxP ls (kidL n (n.fst + (i : Int))) j) (fun j mh => (kidL n (n.fst + (i : Int))).length - j) 0 1 ⟨Nat.zero_le _, mxP_start _ _⟩ (saQ rfl) (pfQ rfl) ?_
  intro j mh hi9
  obtain ⟨hj, hhm⟩ := hi9
  refine srQ ?_
  refine zbr rfl rfl rfl rfl rfl rfl (fun h10 => ?_) (fun h10 => ?_)
  ·
   refine (zay (zaj (zaa (zaq rfl (zdg (zaj (zaa (zba (zaa (zai (hvQ rfl (riQ 1 rfl rfl rfl rfl (zad 0 rfl)) (hvQ rfl (zav (u := .int .i64 ((kidL n (n.fst + (i : Int))).getD j 0)) rfl rfl rfl (zad 0 rfl) (zcr (show _ < (kidL n (n.fst + (i : Int))).length by omega))) (zab 1 rfl ?_)))))))))))))
   refine ntQ (zai ?_)
   have hkr := (kidL_mem (n := n) (k := n.fst + (i : Int)) (by omega)).1 (zbj (d := (0 : Int)) (show j < (kidL n (n.fst + (i : Int))).length by omega))
   have hkr2 := FanI.lt hn hkr (by omega)
   refine zab 3 rfl (hvQ rfl (riQ 1 rfl rfl rfl rfl (zad 1 rfl)) (hvQ rfl (lzQ rfl rfl rfl (zad 1 rfl)) (hvQ rfl (rv_max rfl rfl rfl) (enQ 1 rfl (zdk (zai (hvQ rfl (vaQ rfl rfl rfl) (zab 1 rfl (?_)))))))))
   exact zay (zch (j + 1) (if mh < ls.getD (((kidL n (n.fst + (i : Int))).getD j 0).toNat) 0 then ls.getD (((kidL n (n.fst + (i : Int))).getD j 0).toNat) 0 else mh) ⟨by omega, by rw [hhm]; exact mxP_step (by omega)⟩ (by omega) (saQ rfl) (pfQ rfl))
  refine ntQ (fcQ rfl ?_)
  refine zbi (zep ?_)
  refine zal (zaj (srQ ?_))
  have hmx : mh = mxL n ls (n.fst + (i : Int)) := hhm.trans (mxP_kid (by omega) (by omega))
  have hkd := zfv hn (k := n.fst + (i : Int)) (by omega) (by omega)
  have hs1 := hL.small hn (by omega) _ _ (Nat.lt_succ_self _) hkd.2.1 hkd.2.2.1
  have hs2 := hL.small hn (by omega) _ _ (Nat.lt_succ_self _) hkd.2.2.2.1 hkd.2.2.2.2
  have hm1 : 1 ≤ mh ∧ mh ≤ 1 + n.cnt := by rw [hmx]; unfold mxL; omega
  refine hvQ rfl (zaf (cs := [.int .i64 n.ins, n.sv, n.av, n.ov]) rfl rfl rfl rfl rfl (zag 3 rfl 0 rfl)) (zab 3 rfl ?_)
  refine hl_q rfl rfl rfl (zas rfl rfl (fun w hm => heightCut_at n ls _ (n.fst + (i : Int)) mh w (hr.below hm.bel) hn ((zad 1 rfl) w hm) hll (by omega) (by omega))) ?_
  intro v11 p12 hR13
  obtain ⟨xs, cv, okb, rfl, rfl, hok, hcu⟩ := hR13
  refine zab 3 rfl (zbc (fun h14 => ?_) (fun h14 => ?_))
  ·
   refine zbb 2 rfl (zaa (zbh 2 rfl (zao rfl (zcw ?_))))
   refine reQ 3 rfl (hvQ rfl (riQ 1 rfl rfl rfl rfl (zad 2 rfl)) ?_)
   refine zdh (i := 2) (n' := (ls.set ((n.fst + (i : Int)).toNat) mh).length) (xs' := ((ls.set ((n.fst + (i : Int)).toNat) mh).map (Value.int .i64))) rfl rfl rfl rfl rfl rfl rfl rfl (by first | omega | (simp only [List.length_set]; omega)) List.length_set.symm (zeg _ _ _) rfl (zay (zdk (reQ 1 rfl (hvQ rfl (vaQ rfl rfl rfl) (enQ 1 rfl ?_)))))
   exact zch (i + 1) (ls.set ((n.fst + (i : Int)).toNat) mh) ⟨by omega, by rw [List.length_set]; exact hll, by rw [show n.fst + ((i + 1 : Nat) : Int) = n.fst + (i : Int) + 1 by omega]; exact hL.step hn (by omega) (by omega) hll (.inl ⟨by omega, by rw [← hmx]; exact of_pBc (hok.symm.trans (by assumption))⟩)⟩ (by omega) (zbx [3, 2, 1, 0] _ (sk 4 (congrArg (fun x => some (Value.int .i64 x)) (by omega)) (zak _)) rfl) (slQ [2, 0, 0] rfl)
  refine zbb 2 rfl (zaa (zbh 2 rfl (zaq rfl (reQ 1 rfl ?_))))
  refine hvQ rfl (vaQ rfl rfl rfl) (zbb 1 rfl (reQ 3 rfl (hvQ rfl (riQ 1 rfl rfl rfl rfl (zad 2 rfl)) ?_)))
  refine zdh (i := 2) (n' := (ls.set ((n.fst + (i : Int)).toNat) (mh + 1)).length) (xs' := ((ls.set ((n.fst + (i : Int)).toNat) (mh + 1)).map (Value.int .i64))) rfl rfl rfl rfl rfl rfl rfl rfl (by first | omega | (simp only [List.length_set]; omega)) List.length_set.symm (zeg _ _ _) rfl (zay (zdk (reQ 1 rfl (hvQ rfl (vaQ rfl rfl rfl) (enQ 1 rfl ?_)))))
  exact zch (i + 1) (ls.set ((n.fst + (i : Int)).toNat) (mh + 1)) ⟨by omega, by rw [List.length_set]; exact hll, by rw [show n.fst + ((i + 1 : Nat) : Int) = n.fst + (i : Int) + 1 by omega]; exact hL.step hn (by omega) (by omega) hll (.inr ⟨by omega, by rw [← hmx]; exact of_pBcn (hok.symm.trans (by assumption))⟩)⟩ (by omega) (zbx [3, 2, 1, 0] _ (sk 4 (congrArg (fun x => some (Value.int .i64 x)) (by omega)) (zak _)) rfl) (slQ [2, 0, 0] rfl)
 refine ntQ (zao rfl ?_)
 refine zbi (zep ?_)
 refine zal (zaj (zbh 2 rfl ?_))
 exact zax (zct (post := [rowE 3 1 (.slice (some ⟨g3, 0, none⟩) ((List.replicate (n.cnt).toNat (0 : Int)).length) ((List.replicate (n.cnt).toNat (0 : Int)).length)) ls.length (ls.map (Value.int .i64))]) rfl rfl (slQ [0] rfl) ⟨_, rfl, hll, by rw [show n.cnt = n.fst + (i : Int) by omega]; exact hL⟩)
theorem LabelsI_ret (n : Nt) (w : World) (hr : RdsNt w n) (hn : NtOk n) :
   Calls Try.prog 10 #[.agg #[.int .i64 n.ins, n.sv, n.av, n.ov]] w (Ret w (fun u_ p_ => ∃ ls : List Int, p_ = [rowE 3 1 u_ ls.length (ls.map (Value.int .i64))] ∧ (ls.length : Int) = n.cnt ∧ LabL n n.cnt ls)) := by
 have hi0 := hn.i0
 have hi1 := hn.i1
 have hs1 := hn.s1
 have ha1 := hn.a1
 have ho1 := hn.o1
 have hcnt : n.cnt = 1 + n.ins + n.ss.length + n.gs.length := rfl
 have hfst : n.fst = 1 + n.ins + n.ss.length := rfl
 refine zbg (N := 8) (args := [.agg #[.int .i64 n.ins, n.sv, n.av, n.ov]]) Try.func10 rfl rfl (srQ ?_)
 refine zei rfl (zco rfl rfl) ?_
 intro b1
 refine zbb 1 rfl (ssrQ (hvQ rfl (zaf (cs := [.int .i64 n.ins, n.sv, n.av, n.ov]) rfl rfl rfl rfl rfl (zag 0 rfl 0 rfl)) ?_))
 refine zdw rfl (zas rfl rfl (fun w hm => zaz (zfc n w (hr.below hm.bel) hn))) (zbb 1 rfl (zao rfl (zcw (srQ (hvQ rfl (zaf (cs := [.int .i64 n.ins, n.sv, n.av, n.ov]) rfl rfl rfl rfl rfl (zag 0 rfl 0 rfl)) ?_)))))
 refine hl_q rfl rfl rfl (zas rfl rfl (fun w hm => zgj n w (hr.below hm.bel) hn)) ?_
 intro v2 p3 hR4
 obtain ⟨ls, rfl, hll, hL⟩ := hR4
 refine zbb 1 rfl ?_
 exact zax (zct (post := [rowE 3 1 v2 ls.length (ls.map (Value.int .i64))]) rfl rfl (slQ [0] rfl) ⟨ls, rfl, hll, hL⟩)
theorem HeightCut_ret (n : Nt) (node hh : Int) (w : World) (hr : RdsNt w n) (hn : NtOk n) (hnd : 0 ≤ node ∧ node < n.cnt) :
   Calls Try.prog 9 #[.agg #[.int .i64 n.ins, n.sv, n.av, n.ov], .int .i64 node, .int .i64 hh] w (Ret w (fun u_ p_ => ∃ (xs : List Int) (cv : Value) (okb : Bool), u_ = .tuple #[cv, .bool okb] ∧ p_ = [rowE 3 1 cv xs.length (xs.map (Value.int .i64))] ∧ CutR n node hh xs okb)) := by
 have hi0 := hn.i0
 have hi1 := hn.i1
 have hs1 := hn.s1
 have ha1 := hn.a1
 have ho1 := hn.o1
 have hcnt : n.cnt = 1 + n.ins + n.ss.length + n.gs.length := rfl
 have hfst : n.fst = 1 + n.ins + n.ss.length := rfl
 refine zbg (N := 35) (args := [.agg #[.int .i64 n.ins, n.sv, n.av, n.ov], .int .i64 node, .int .i64 hh]) Try.func9 rfl rfl (srQ ?_)
 refine zei rfl (zco rfl rfl) ?_
 intro b1
 refine zds 3 1 (zbb 2 rfl (ssrQ (hvQ rfl (zaf (cs := [.int .i64 n.ins, n.sv, n.av, n.ov]) rfl rfl rfl rfl rfl (zag 1 rfl 0 rfl)) ?_)))
 refine zdw rfl (zas rfl rfl (fun w hm => zaz (zfc n w (hr.below hm.bel) hn))) (zab 2 rfl (hvQ rfl (zaf (cs := [.int .i64 n.ins, n.sv, n.av, n.ov]) rfl rfl rfl rfl rfl (zag 1 rfl 0 rfl)) (zab 1 rfl ?_)))
 refine zdw rfl (zas rfl rfl (fun w hm => zaz (isAnd_yes n node w (hr.below hm.bel) hn))) (zbc (fun h3 => ?_) (fun h3 => ?_))
 ·
  have h3p := zfw.1 h3
  refine zab 4 rfl (zbr rfl rfl rfl rfl rfl rfl (fun h4 => ?_) (fun h4 => ?_))
  ·
   refine zbb 1 rfl (zaq rfl (srQ ?_))
   refine zds 3 1 (zbb 2 rfl ?_)
   refine zax (zam ?_)
   exact zdl (rs := [.tmp 6, .tmp 7]) (vs := [.slice none 0 0, .bool false]) (post := [rowE 3 1 (.slice none 0 0) 0 ([])]) rfl ⟨rfl, rfl, trivial⟩ rfl (slQ [0] rfl) ⟨[], _, _, rfl, rfl, CutR.early (by omega)⟩
  refine zbb 1 rfl (zao rfl (zcw (zaa ?_)))
  refine zfq rfl 10 [0, 1, 2, 3, 4, 5, 6, 7, 8, 9] (List.take 10 _) (List.drop 10 _) [[], [], [], [], [3], [0, 1, 2, 4], [5], [5, 6], [5, 6], [5, 7]] [24, 25, 26, 27, 28, 29, 23, 30, 31, 8] (fun i_ vs_ v_ p_ => match i_ with | 0 => v_ = .agg #[.int .i64 n.ins, n.sv, n.av, n.ov] ∧ p_ = [] | 1 => v_ = .int .i64 node ∧ p_ = [] | 2 => v_ = .int .i64 hh ∧ p_ = [] | 3 => v_ = .agg #[.int .i64 n.ins, n.sv, n.av, n.ov] ∧ p_ = [] | 4 => (fun u_ p_ => ∃ ls : List Int, p_ = [rowE 3 1 u_ ls.length (ls.map (Value.int .i64))] ∧ (ls.length : Int) = n.cnt ∧ LabL n n.cnt ls) v_ p_ | 5 => (fun u_ p_ => ∃ (xs : List Int) (cv : Value) (okb : Bool), u_ = .tuple #[cv, .bool okb] ∧ p_ = [rowE 3 1 cv xs.length (xs.map (Value.int .i64))] ∧ CutQ n node hh xs okb) v_ p_ | 6 => v_ = .tuple #[(tFsV (List.getD vs_ 0 undef)), .bool (tSnB (List.getD vs_ 0 undef))] ∧ p_ = [] | 7 => v_ = (tFsV (List.getD vs_ 0 undef)) ∧ p_ = [] | 8 => v_ = .bool (tSnB (List.getD vs_ 0 undef)) ∧ p_ = [] | 9 => v_ = (tFsV (List.getD vs_ 0 undef)) ∧ p_ = [] | _ => True) (List.take_append_drop 10 _).symm (by kernel_rfl) (by kernel_rfl) rfl rfl ?_ ?_
  ·
   refine ⟨?_, ?_, ?_, ?_, ?_, ?_, ?_, ?_, ?_, ?_, trivial⟩
   ·
    intro vf pf hR
    exact olQ rfl (zau [3] rfl) (zbz (zaf (cs := [.int .i64 n.ins, n.sv, n.av, n.ov]) rfl rfl rfl rfl rfl (zag 1 rfl 0 rfl)))
   ·
    intro vf pf hR
    exact ovQ rfl (zau [1] rfl) (zbz (zae rfl))
   ·
    intro vf pf hR
    exact ovQ rfl (zau [2] rfl) (zbz (zae rfl))
   ·
    intro vf pf hR
    exact olQ rfl (zau [3] rfl) (zbz (zaf (cs := [.int .i64 n.ins, n.sv, n.av, n.ov]) rfl rfl rfl rfl rfl (zag 1 rfl 0 rfl)))
   ·
    intro vf pf hR
    have e3 := hR 3 (by decide)
    exact olQ rfl (sk 27 (congrArg some e3.1) (zak _)) (zas rfl rfl (fun w hm => zgj n w (hr.below hm.bel) hn))
   ·
    intro vf pf hR
    have e0 := hR 0 (by decide)
    have e1 := hR 1 (by decide)
    have e2 := hR 2 (by decide)
    have e4 : (fun u_ p_ => ∃ ls : List Int, p_ = [rowE 3 1 u_ ls.length (ls.map (Value.int .i64))] ∧ (ls.length : Int) = n.cnt ∧ LabL n n.cnt ls) (vf 4) (pf 4) := hR 4 (by decide)
    obtain ⟨v6, vE4⟩ : ∃ x, vf 4 = x := ⟨_, rfl⟩
    obtain ⟨p7, pE4⟩ : ∃ x, pf 4 = x := ⟨_, rfl⟩
    have hR8 := e4
    rw [vE4, pE4] at hR8
    obtain ⟨ls, rfl, hll, hL⟩ := hR8
    refine Or.inl ⟨rfl, ?_⟩
    exact zcm (sk 24 (congrArg some e0.1) (sk 25 (congrArg some e1.1) (sk 26 (congrArg some e2.1) (sk 28 (congrArg some vE4) (zak _))))) (by simp only [pE4, vE4, e0.2, e1.2, e2.2, fS] <;> rfl) (zas rfl rfl (fun w hm => heightCut_q n ls _ node hh w (hr.below hm.bel) hn ((zad 0 rfl) w hm) hll hL (by omega) (by omega)))
   ·
    intro vf pf hR
    have e5 : (fun u_ p_ => ∃ (xs : List Int) (cv : Value) (okb : Bool), u_ = .tuple #[cv, .bool okb] ∧ p_ = [rowE 3 1 cv xs.length (xs.map (Value.int .i64))] ∧ CutQ n node hh xs okb) (vf 5) (pf 5) := hR 5 (by decide)
    obtain ⟨v9, vE5⟩ : ∃ x, vf 5 = x := ⟨_, rfl⟩
    obtain ⟨p10, pE5⟩ : ∃ x, pf 5 = x := ⟨_, rfl⟩
    have hR11 := e5
    rw [vE5, pE5] at hR11
    obtain ⟨xs, cv, okb, rfl, rfl, hcq⟩ := hR11
    refine Or.inl ⟨rfl, ?_⟩
    exact zcm (sk 29 (congrArg some vE5) (zak _)) (by simp only [pE5, vE5, fS] <;> rfl) (zdd (zbz (zae rfl)) (fun _ _ h => ⟨h.1.trans (by show _ = (.tuple #[(tFsV (vf 5)), .bool (tSnB (vf 5))] : Value); first | (rw [vE5]; done) | (rw [vE5]; rfl)), h.2⟩))
   ·
    intro vf pf hR
    have e5 : (fun u_ p_ => ∃ (xs : List Int) (cv : Value) (okb : Bool), u_ = .tuple #[cv, .bool okb] ∧ p_ = [rowE 3 1 cv xs.length (xs.map (Value.int .i64))] ∧ CutQ n node hh xs okb) (vf 5) (pf 5) := hR 5 (by decide)
    obtain ⟨v9, vE5⟩ : ∃ x, vf 5 = x := ⟨_, rfl⟩
    obtain ⟨p10, pE5⟩ : ∃ x, pf 5 = x := ⟨_, rfl⟩
    have hR11 := e5
    rw [vE5, pE5] at hR11
    obtain ⟨xs, cv, okb, rfl, rfl, hcq⟩ := hR11
    have e6 : (vf 6) = .tuple #[(tFsV (vf 5)), .bool (tSnB (vf 5))] ∧ (pf 6) = [] := hR 6 (by decide)
    rw [vE5] at e6
    refine Or.inl ⟨rfl, ?_⟩
    exact zcm (sk 23 (congrArg some e6.1) (zak _)) (by simp only [pE5, vE5, e6.2, fS] <;> rfl) (zdd (zbz (zae rfl)) (fun _ _ h => ⟨h.1.trans (by show _ = ((tFsV (vf 5)) : Value); first | (rw [vE5]; done) | (rw [vE5]; rfl)), h.2⟩))
   ·
    intro vf pf hR
    have e5 : (fun u_ p_ => ∃ (xs : List Int) (cv : Value) (okb : Bool), u_ = .tuple #[cv, .bool okb] ∧ p_ = [rowE 3 1 cv xs.length (xs.map (Value.int .i64))] ∧ CutQ n node hh xs okb) (vf 5) (pf 5) := hR 5 (by decide)
    obtain ⟨v9, vE5⟩ : ∃ x, vf 5 = x := ⟨_, rfl⟩
    obtain ⟨p10, pE5⟩ : ∃ x, pf 5 = x := ⟨_, rfl⟩
    have hR11 := e5
    rw [vE5, pE5] at hR11
    obtain ⟨xs, cv, okb, rfl, rfl, hcq⟩ := hR11
    have e6 : (vf 6) = .tuple #[(tFsV (vf 5)), .bool (tSnB (vf 5))] ∧ (pf 6) = [] := hR 6 (by decide)
    rw [vE5] at e6
    refine Or.inl ⟨rfl, ?_⟩
    exact zcm (sk 23 (congrArg some e6.1) (zak _)) (by simp only [pE5, vE5, e6.2, fS] <;> rfl) (zdd (zbz (zae rfl)) (fun _ _ h => ⟨h.1.trans (by show _ = (.bool (tSnB (vf 5)) : Value); first | (rw [vE5]; done) | (rw [vE5]; rfl)), h.2⟩))
   intro vf pf hR
   have e5 : (fun u_ p_ => ∃ (xs : List Int) (cv : Value) (okb : Bool), u_ = .tuple #[cv, .bool okb] ∧ p_ = [rowE 3 1 cv xs.length (xs.map (Value.int .i64))] ∧ CutQ n node hh xs okb) (vf 5) (pf 5) := hR 5 (by decide)
   obtain ⟨v9, vE5⟩ : ∃ x, vf 5 = x := ⟨_, rfl⟩
   obtain ⟨p10, pE5⟩ : ∃ x, pf 5 = x := ⟨_, rfl⟩
   have hR11 := e5
   rw [vE5, pE5] at hR11
   obtain ⟨xs, cv, okb, rfl, rfl, hcq⟩ := hR11
   have e7 : (vf 7) = (tFsV (vf 5)) ∧ (pf 7) = [] := hR 7 (by decide)
   rw [vE5] at e7
   refine Or.inl ⟨rfl, ?_⟩
   exact zcm (sk 30 (congrArg some e7.1) (zak _)) (by simp only [pE5, vE5, e7.2, fS] <;> rfl) (zdd (zbz (zae rfl)) (fun _ _ h => ⟨h.1.trans (by show _ = ((tFsV (vf 5)) : Value); first | (rw [vE5]; done) | (rw [vE5]; rfl)), h.2⟩))
  intro vf pf hR
  have e4 : (fun u_ p_ => ∃ ls : List Int, p_ = [rowE 3 1 u_ ls.length (ls.map (Value.int .i64))] ∧ (ls.length : Int) = n.cnt ∧ LabL n n.cnt ls) (vf 4) (pf 4) := hR 4 (by decide)
  obtain ⟨v6, vE4⟩ : ∃ x, vf 4 = x := ⟨_, rfl⟩
  obtain ⟨p7, pE4⟩ : ∃ x, pf 4 = x := ⟨_, rfl⟩
  have hR8 := e4
  rw [vE4, pE4] at hR8
  obtain ⟨ls, rfl, hll, hL⟩ := hR8
  have e5 : (fun u_ p_ => ∃ (xs : List Int) (cv : Value) (okb : Bool), u_ = .tuple #[cv, .bool okb] ∧ p_ = [rowE 3 1 cv xs.length (xs.map (Value.int .i64))] ∧ CutQ n node hh xs okb) (vf 5) (pf 5) := hR 5 (by decide)
  obtain ⟨v9, vE5⟩ : ∃ x, vf 5 = x := ⟨_, rfl⟩
  obtain ⟨p10, pE5⟩ : ∃ x, pf 5 = x := ⟨_, rfl⟩
  have hR11 := e5
  rw [vE5, pE5] at hR11
  obtain ⟨xs, cv, okb, rfl, rfl, hcq⟩ := hR11
  have e8 : (vf 8) = .bool (tSnB (vf 5)) ∧ (pf 8) = [] := hR 8 (by decide)
  rw [vE5] at e8
  have e9 : (vf 9) = (tFsV (vf 5)) ∧ (pf 9) = [] := hR 9 (by decide)
  rw [vE5] at e9
  have q0 := hR 0 (by decide)
  have q1 := hR 1 (by decide)
  have q2 := hR 2 (by decide)
  have q3 := hR 3 (by decide)
  have q6 := hR 6 (by decide)
  have q7 := hR 7 (by decide)
  have q8 := hR 8 (by decide)
  have q9 := hR 9 (by decide)
  refine zcx (zbx [7, 6, 3, 2, 1, 0] _ (sk 8 (congrArg some e9.1) (sk 22 rfl (sk 31 (congrArg some e8.1) (zak _)))) rfl) (by simp only [pE4, vE4, pE5, vE5, q0.2, q1.2, q2.2, q3.2, q6.2, q7.2, q8.2, q9.2, fS] <;> rfl) ?_
  simp only [List.drop_succ_cons, List.drop_zero]
  refine zbb 1 rfl (zaa (zaa (reQ 1 rfl ?_)))
  refine zbc (fun h12 => ?_) (fun h12 => ?_)
  ·
   refine zbb 1 rfl (zao rfl (zcw (zbh 3 rfl ?_)))
   exact zax (zdl (rs := [.tmp 6, .tmp 7]) (vs := [cv, .bool true]) (post := [rowE 3 1 cv xs.length (xs.map (Value.int .i64))]) rfl ⟨rfl, rfl, trivial⟩ rfl (slQ [1] rfl) ⟨xs, _, _, rfl, rfl, CutR.yes hcq (by assumption)⟩)
  refine zbb 1 rfl (zaq rfl (srQ ?_))
  refine zds 3 1 (zbb 2 rfl ?_)
  refine zax (zam ?_)
  exact zdl (rs := [.tmp 6, .tmp 7]) (vs := [.slice none 0 0, .bool false]) (post := [rowE 3 1 (.slice none 0 0) 0 ([])]) rfl ⟨rfl, rfl, trivial⟩ rfl (slQ [0] rfl) ⟨[], _, _, rfl, rfl, CutR.no hcq (by assumption)⟩
 have h3p := isAnd_not h3
 refine zbb 6 rfl (zaq rfl (srQ ?_))
 refine zds 3 1 (zbb 2 rfl ?_)
 refine zax (zam ?_)
 exact zdl (rs := [.tmp 6, .tmp 7]) (vs := [.slice none 0 0, .bool false]) (post := [rowE 3 1 (.slice none 0 0) 0 ([])]) rfl ⟨rfl, rfl, trivial⟩ rfl (slQ [0] rfl) ⟨[], _, _, rfl, rfl, CutR.early (by omega)⟩
theorem CutHeightI_ret (n : Nt) (xs : List Int) (cv : Value) (w : World) (hr : RdsNt w n) (hn : NtOk n) (hc : RdsW w cv 1 xs.length (xs.map (Value.int .i64))) (hx : ∀ c ∈ xs, 0 ≤ c ∧ c < n.cnt) (hxl : xs.length ≤ 100000) :
   Calls Try.prog 14 #[.agg #[.int .i64 n.ins, n.sv, n.av, n.ov], cv] w (Ret w (fun u_ p_ => ∃ m : Int, u_ = .int .i64 m ∧ p_ = [] ∧ ∀ ls : List Int, (ls.length : Int) = n.cnt → LabL n n.cnt ls → HtI ls xs m)) := by
 have hi0 := hn.i0
 have hi1 := hn.i1
 have hs1 := hn.s1
 have ha1 := hn.a1
 have ho1 := hn.o1
 have hcnt : n.cnt = 1 + n.ins + n.ss.length + n.gs.length := rfl
 have hfst : n.fst = 1 + n.ins + n.ss.length := rfl
 refine zbg (N := 35) (args := [.agg #[.int .i64 n.ins, n.sv, n.av, n.ov], cv]) Try.func14 rfl rfl (srQ ?_)
 refine zei rfl (zco rfl rfl) ?_
 intro b1
 refine zbb 1 rfl (ssrQ (hvQ rfl (zaf (cs := [.int .i64 n.ins, n.sv, n.av, n.ov]) rfl rfl rfl rfl rfl (zag 0 rfl 0 rfl)) ?_))
 refine zdw rfl (zas rfl rfl (fun w hm => zaz (zfc n w (hr.below hm.bel) hn))) (zbb 1 rfl (zao rfl (zcw (srQ (hvQ rfl (zaf (cs := [.int .i64 n.ins, n.sv, n.av, n.ov]) rfl rfl rfl rfl rfl (zag 0 rfl 0 rfl)) ?_)))))
 refine hl_q rfl rfl rfl (zas rfl rfl (fun w hm => zgj n w (hr.below hm.bel) hn)) ?_
 intro v2 p3 hR4
 obtain ⟨ls, rfl, hll, hL⟩ := hR4
 refine zbb 1 rfl (zbh 1 rfl (zaa (zaa (reQ 1 rfl ?_))))
 refine hvQ rfl (lnQ rfl rfl rfl (zac hc)) (zbb 1 rfl (zba ?_))
 refine lkQ2 (α := Nat) (β := Int) [0, 1, 2, 4, 5, 11, 14, 15] rfl (fun i m => [rowE 3 1 v2 ls.length (ls.map (Value.int .i64)), boxE b1 #[.int .i64 n.ins, n.sv, n.av, n.ov] 28]) (fun i m => [(6, .int .i64 m), (16, .int .i64 (i : Int))]) (fun i m => i ≤ xs.length ∧ HtI ls (xs.take i) m ∧ 1 ≤ m ∧ m ≤ 400) (fun i m => xs.length - i) 0 1 ⟨Nat.zero_le _, HtI.start ls, by omega⟩ (saQ rfl) (pfQ rfl) ?_
 intro i m hi5
 obtain ⟨hi, hht, hm1⟩ := hi5
 refine srQ ?_
 refine zbr rfl rfl rfl rfl rfl rfl (fun h6 => ?_) (fun h6 => ?_)
 ·
  refine ntQ (tcQ rfl (zcw (sbQ (srQ (hvQ rfl (riQ 1 rfl rfl rfl rfl (zac hc)) (hvQ rfl (liQ rfl rfl rfl (zac hc)) (zab 1 rfl ?_)))))))
  refine ntQ (zaa (zaa (reQ 1 rfl (hvQ rfl (zaf (cs := [.int .i64 n.ins, n.sv, n.av, n.ov]) rfl rfl rfl rfl rfl (zag 1 rfl 0 rfl)) ?_))))
  refine zdw rfl (zas rfl rfl (fun w hm => zaz (zbt n w (hr.below hm.bel) hn))) (hvQ rfl (vsQ rfl rfl rfl) ?_)
  have hxi := hx _ (zbj (d := (0 : Int)) (show i < xs.length by omega))
  have hlr := hL.rng hn hxi.1 hxi.2
  refine zdw rfl (zas rfl rfl (fun w hm => zaz (ans_of (zdr _ _ _ w)))) (zbc (fun h7 => ?_) (fun h7 => absurd ((((zeb _ _ _).2 (by omega))).symm.trans h7) (by decide)))
  refine zbb 1 rfl (zao rfl (zcw (reQ 3 rfl (hvQ rfl (riQ 1 rfl rfl rfl rfl (zad 0 rfl)) (hvQ rfl (lzQ rfl rfl rfl (zad 0 rfl)) (hvQ rfl (vaQ rfl rfl rfl) (hvQ rfl (rv_max rfl rfl rfl) (zab 1 rfl ?_))))))))
  refine zay (zdk (zai (hvQ rfl (vaQ rfl rfl rfl) (enQ 1 rfl ?_))))
  exact zch (i + 1) (if m < 1 + (ls.getD ((xs.getD i 0).toNat) 0) then 1 + (ls.getD ((xs.getD i 0).toNat) 0) else m) ⟨by omega, hht.step (by omega) (by split; (exact .inr rfl); exact .inl rfl), by split <;> omega⟩ (by omega) (saQ rfl) (pfQ rfl)
 refine ntQ (fcQ rfl ?_)
 refine zbi (zep ?_)
 refine zal (zaj (zbh 2 rfl ?_))
 exact zax (zct (post := []) rfl rfl (List.nil_sublist _) ⟨_, rfl, rfl, HtI.done hn hll hL hht (by omega)⟩)
theorem CutHeightS_ret (n : Nt) (xs : List Int) (cv : Value) (w : World) (hr : RdsNt w n) (hn : NtOk n) (hc : RdsW w cv 1 xs.length (xs.map (Value.int .i64))) (hx : ∀ c ∈ xs, 0 ≤ c ∧ c < n.cnt) (hxl : xs.length ≤ 100000) :
   Calls Try.prog 12 #[.agg #[.int .i64 n.ins, n.sv, n.av, n.ov], cv] w (Ret w (fun u_ p_ => ∃ ls : List Int, u_ = .int .i64 (hgS ls xs + 1) ∧ p_ = [] ∧ (ls.length : Int) = n.cnt ∧ LabL n n.cnt ls)) := by
 have hi0 := hn.i0
 have hi1 := hn.i1
 have hs1 := hn.s1
 have ha1 := hn.a1
 have ho1 := hn.o1
 have hcnt : n.cnt = 1 + n.ins + n.ss.length + n.gs.length := rfl
 have hfst : n.fst = 1 + n.ins + n.ss.length := rfl
 refine zbg (N := 44) (args := [.agg #[.int .i64 n.ins, n.sv, n.av, n.ov], cv]) Try.func12 rfl rfl (srQ ?_)
 refine zei rfl (zco rfl rfl) ?_
 intro b1
 refine zbb 1 rfl (ssrQ (hvQ rfl (zaf (cs := [.int .i64 n.ins, n.sv, n.av, n.ov]) rfl rfl rfl rfl rfl (zag 0 rfl 0 rfl)) ?_))
 refine zdw rfl (zas rfl rfl (fun w hm => zaz (zey n w (hr.below hm.bel) hn))) (zbb 1 rfl (zao rfl (zcw (srQ (hvQ rfl (zaf (cs := [.int .i64 n.ins, n.sv, n.av, n.ov]) rfl rfl rfl rfl rfl (zag 0 rfl 0 rfl)) ?_)))))
 refine hl_q rfl rfl rfl (zas rfl rfl (fun w hm => LabelsS_ret n w (hr.below hm.bel) hn)) ?_
 intro v2 p3 hR4
 obtain ⟨ls, rfl, hll, hL⟩ := hR4
 refine zbb 1 rfl (zbh 1 rfl (zaa (zaa (reQ 1 rfl ?_))))
 refine ntQ (zba ?_)
 refine lkQ2 (α := Nat) (β := Int) [0, 1, 2, 4, 5, 10] rfl (fun i m => [rowE 3 1 v2 ls.length (ls.map (Value.int .i64)), boxE b1 #[.int .i64 n.ins, n.sv, n.av, n.ov] 28]) (fun i m => [(6, .int .i64 m), (7, .int .i64 (i : Int))]) (fun i m => i ≤ xs.length ∧ m = hgS ls (xs.take i) ∧ 0 ≤ m ∧ m ≤ 400) (fun i m => xs.length - i) 0 0 ⟨Nat.zero_le _, hgS_start ls, by omega, by omega⟩ (saQ rfl) (pfQ rfl) ?_
 intro i m hi5
 obtain ⟨hi, hht, hm0, hm1⟩ := hi5
 refine zaa (zaa (reQ 2 rfl (hvQ rfl (lnQ rfl rfl rfl (zac hc)) ?_)))
 refine zbr rfl rfl rfl rfl rfl rfl (fun h6 => ?_) (fun h6 => ?_)
 ·
  refine ntQ (zaq rfl (zcw (sbQ (ssrQ ?_))))
  have hxi := hx _ (zbj (d := (0 : Int)) (show i < xs.length by omega))
  have hlr := hL.rng hn hxi.1 hxi.2
  refine zab 2 rfl (hvQ rfl (riQ 1 rfl rfl rfl rfl (zac hc)) (hvQ rfl (liQ rfl rfl rfl (zac hc)) ?_))
  refine zbr rfl rfl rfl rfl rfl rfl (fun h7 => ?_) (fun h7 => ?_)
  ·
   refine zbb 9 rfl (zaq rfl (zaa (reQ 1 rfl ?_)))
   refine ntQ ?_
   refine zax (zam ?_)
   refine zat (rt2Q ?_)
   refine zat (zam ?_)
   exact absurd hxi.1 (by omega)
  refine zab 3 rfl (hvQ rfl (riQ 1 rfl rfl rfl rfl (zac hc)) (hvQ rfl (liQ rfl rfl rfl (zac hc)) (zab 1 rfl (hvQ rfl (lnQ rfl rfl rfl (zad 0 rfl)) ?_))))
  refine zeh rfl rfl rfl rfl rfl rfl (fun h8 => ?_) (fun h8 => ?_)
  ·
   refine zbb 1 rfl (zaq rfl (zbh 1 rfl ?_))
   refine zax (zam ?_)
   refine zat (rt2Q ?_)
   refine zat (zam ?_)
   exact absurd hxi.1 (by omega)
  refine zbb 1 rfl (zao rfl (zcw (reQ 4 rfl (hvQ rfl (riQ 1 rfl rfl rfl rfl (zac hc)) (hvQ rfl (liQ rfl rfl rfl (zac hc)) (hvQ rfl (riQ 1 rfl rfl rfl rfl (zad 0 rfl)) (hvQ rfl (lzQ rfl rfl rfl (zad 0 rfl)) (hvQ rfl (rv_max rfl rfl rfl) ?_))))))))
  refine enQ 1 rfl (zdk (reQ 1 rfl (hvQ rfl (vaQ rfl rfl rfl) (enQ 1 rfl ?_))))
  exact zch (i + 1) (if m < ls.getD ((xs.getD i 0).toNat) 0 then ls.getD ((xs.getD i 0).toNat) 0 else m) ⟨by omega, by rw [hht]; exact hgS_step (by omega), by split <;> omega, by split <;> omega⟩ (by omega) (saQ rfl) (pfQ rfl)
 refine ntQ (zao rfl ?_)
 refine zbi (zep ?_)
 refine zal (zaj (zaa (reQ 1 rfl (hvQ rfl (vaQ rfl rfl rfl) (zbb 1 rfl ?_)))))
 exact zax (zct (post := []) rfl rfl (List.nil_sublist _) ⟨ls, by rw [hht, List.take_of_length_le (by omega)], rfl, hll, hL⟩)
theorem CutHeightS_at (n : Nt) (ls xs : List Int) (cv : Value) (w : World) (hr : RdsNt w n) (hn : NtOk n) (hc : RdsW w cv 1 xs.length (xs.map (Value.int .i64))) (hx : ∀ c ∈ xs, 0 ≤ c ∧ c < n.cnt) (hxl : xs.length ≤ 100000) (hll : (ls.length : Int) = n.cnt) (hL : LabL n n.cnt ls) :
   Calls Try.prog 12 #[.agg #[.int .i64 n.ins, n.sv, n.av, n.ov], cv] w (Ret w (fun u_ p_ => u_ = .int .i64 (hgS ls xs + 1) ∧ p_ = [])) :=
  (CutHeightS_ret n xs cv w hr hn hc hx hxl).mono (fun e w' ⟨u, p, g1, ⟨ls0, h1, h2, h3, h4⟩, g3⟩ => ⟨u, p, g1, ⟨by rw [zdx hn hll h3 hL h4] at h1; exact h1, h2⟩, g3⟩)
open Go.RowKit
open Go.RowKit
def tFstH (v : Value) : Value := match v with | .tuple #[x, _] => x | _ => undef
def tSndB (v : Value) : Bool := match v with | .tuple #[_, .bool b] => b | _ => false
noncomputable def pBe (p : Prop) : Bool := @decide p (Classical.propDecidable p)
theorem pBe_yes {p : Prop} (h : p) : pBe p = true := @decide_eq_true p (Classical.propDecidable p) h
theorem pBe_no {p : Prop} (h : ¬ p) : pBe p = false := @decide_eq_false p (Classical.propDecidable p) h
def StrictE (xs : List Int) : Prop := ∀ i, i < xs.length → 0 ≤ xs.getD i 0 ∧ (0 < i → xs.getD (i - 1) 0 < xs.getD i 0)
theorem strict_no {xs : List Int} {j : Nat} (hj : j < xs.length) (hb : xs.getD j 0 < 0 ∨ (0 < j ∧ xs.getD j 0 ≤ xs.getD ((j : Int) - 1).toNat 0)) : ¬ StrictE xs := fun h => by
  have h1 := h j hj
  rcases hb with hb | ⟨h0, hb⟩
  · omega
  · have h2 := h1.2 h0
    rw [show ((j : Int) - 1).toNat = j - 1 by omega] at hb
    omega
theorem strict_step {xs : List Int} {j : Nat} (h : ∀ i, i < j → 0 ≤ xs.getD i 0 ∧ (0 < i → xs.getD (i - 1) 0 < xs.getD i 0)) (h0 : 0 ≤ xs.getD j 0) (h1 : (j : Int) ≤ 0 ∨ xs.getD ((j : Int) - 1).toNat 0 < xs.getD j 0) : ∀ i, i < j + 1 → 0 ≤ xs.getD i 0 ∧ (0 < i → xs.getD (i - 1) 0 < xs.getD i 0) := fun i hi => by
  by_cases e : i = j
  · subst e
    refine ⟨h0, fun hp => ?_⟩
    rcases h1 with h1 | h1
    · omega
    · rwa [show ((i : Int) - 1).toNat = i - 1 by omega] at h1
  · exact h i (by omega)
def CLessE (a b : List Int) : Prop := a.length < b.length ∨ a.length = b.length ∧ ∃ i, i < a.length ∧ (∀ j, j < i → a.getD j 0 = b.getD j 0) ∧ a.getD i 0 < b.getD i 0
theorem zfz {a b : List Int} (h : a.length ≠ b.length) : pBe (CLessE a b) = decide ((a.length : Int) < b.length) := by
  by_cases c : a.length < b.length
  · rw [pBe_yes (.inl c), decide_eq_true (by omega)]
  · rw [pBe_no (by rintro (h1 | h1) <;> omega), decide_eq_false (by omega)]
theorem clessE_at {a b : List Int} {i : Nat} (h : a.length = b.length) (hi : i < a.length) (hj : ∀ j, j < i → a.getD j 0 = b.getD j 0) (hne : a.getD i 0 ≠ b.getD i 0) : pBe (CLessE a b) = decide (a.getD i 0 < b.getD i 0) := by
  by_cases c : a.getD i 0 < b.getD i 0
  · rw [pBe_yes (.inr ⟨h, i, hi, hj, c⟩), decide_eq_true c]
  · rw [decide_eq_false c, pBe_no]
    rintro (h1 | ⟨-, k, hk, h1, h2⟩)
    · omega
    · rcases Nat.lt_trichotomy k i with e | e | e
      · have := hj k e; omega
      · subst e; exact c h2
      · exact hne (h1 i e)
theorem clessE_eq {a b : List Int} (h : a.length = b.length) (hj : ∀ j, j < a.length → a.getD j 0 = b.getD j 0) : pBe (CLessE a b) = false := pBe_no (by
  rintro (h1 | ⟨-, k, hk, h1, h2⟩)
  · omega
  · have := hj k hk; omega)
theorem app_mem {rs qs : List CRow} {u e : CRow} (h : ∀ q ∈ qs, q = u ∨ q ∈ rs) (he : e = u ∨ e ∈ rs) : ∀ q ∈ qs ++ [e], q = u ∨ q ∈ rs := fun q hq => by
  rcases List.mem_append.1 hq with hq | hq
  · exact h q hq
  · rw [List.mem_singleton] at hq; subst hq; exact he
theorem mul_small {i j b n : Nat} (h : n ≤ i * b + j) (hi : i ≤ 8) (hj : j ≤ 8) (hb : b ≤ 8) : n ≤ 72 := by
  have : i * b ≤ 8 * 8 := Nat.mul_le_mul hi hb
  omega
structure CGrp where
  v : Value
  rs : List CRow
abbrev cgrp0 : CGrp := ⟨.slice none 0 0, []⟩
def cgC (c : CGrp) : List Value := [c.v]
def RdsGrps (w : World) (cs : List CGrp) : Prop := ∀ c ∈ cs, RdsCl w c.v c.rs
theorem RdsGrps.at {w : World} {cs : List CGrp} (h : RdsGrps w cs) {k : Nat} (hk : k < cs.length) : RdsCl w (cs.getD k cgrp0).v (cs.getD k cgrp0).rs := h _ (zbp hk)
theorem RdsGrps.app {w : World} {cs : List CGrp} (h : RdsGrps w cs) {e : CGrp} (he : RdsCl w e.v e.rs) : RdsGrps w (cs ++ [e]) := fun c hc => by
  rcases List.mem_append.1 hc with hc | hc
  · exact h c hc
  · rw [List.mem_singleton] at hc; subst hc; exact he
structure GrpOk (rs : List CRow) : Prop where
  pos : 1 ≤ rs.length
  len : rs.length ≤ 8
  four : ∀ r ∈ rs, r.xs.length ≤ 4
def GrpsOk (cs : List CGrp) : Prop := ∀ c ∈ cs, GrpOk c.rs
theorem hasBE_mem {xs : List Int} {x : Int} : hasB xs x = true ↔ x ∈ xs := by unfold hasB; exact List.contains_iff_mem
theorem hasBE_at {xs : List Int} {x : Int} {j : Nat} (hj : j < xs.length) (h : xs.getD j 0 = x) : hasB xs x = true := hasBE_mem.2 (by rw [← h]; exact zbj hj)
theorem hasBE_no {xs : List Int} {x : Int} (h : ∀ i, i < xs.length → xs.getD i 0 ≠ x) : hasB xs x = false := by
  cases hb : hasB xs x with
  | false => rfl
  | true =>
    obtain ⟨i, hi, e⟩ := List.mem_iff_getElem.1 (hasBE_mem.1 hb)
    have := h i hi
    rw [List.getD_eq_getElem?_getD, List.getElem?_eq_getElem hi] at this
    exact absurd e this
theorem l13HasE_ans (xs : List Int) (x : Int) (v : Value) (w : World) (hv : RdsW w v 1 xs.length (xs.map (Value.int .i64))) (hlen : xs.length ≤ 1000000000) :
   Calls Try.prog 62 #[v, .int .i64 x] w (Ans w (.bool (hasB xs x))) := by
 refine zbg (N := 18) (args := [v, .int .i64 x]) Try.func62 rfl rfl (zbh 1 rfl (zaa (zbh 1 rfl ?_)))
 refine zba ?_
 refine lkQ1 (α := Nat) [0, 1, 4] rfl (fun j => []) (fun j => [(5, .int .i64 (j : Int))]) (fun j => j ≤ xs.length ∧ ∀ i, i < j → xs.getD i 0 ≠ x) (fun j => xs.length - j) 0 ⟨by omega, fun i hi => absurd hi (by omega)⟩ (saQ rfl) (.slnil) ?_
 intro j hi1
 obtain ⟨hk1, hk2⟩ := hi1
 refine zaa (zaa (reQ 2 rfl (hvQ rfl (lnQ rfl rfl rfl (zac hv)) ?_)))
 refine zbr rfl rfl rfl rfl rfl rfl (fun h2 => ?_) (fun h2 => ?_)
 ·
  refine ntQ (zaq rfl (zcw (sbQ (zaa (reQ 2 rfl (hvQ rfl (riQ 1 rfl rfl rfl rfl (zac hv)) (hvQ rfl (liQ rfl rfl rfl (zac hv)) (zab 1 rfl ?_))))))))
  refine zcj rfl rfl rfl rfl rfl rfl (fun h3 => ?_) (fun h3 => ?_)
  ·
   refine ntQ (zaq rfl (zbh 1 rfl ?_))
   refine zax (zat ?_)
   refine rt2Q ?_
   refine zat (zam ?_)
   exact zce rfl rfl (congrArg _ (hasBE_at (j := j) (by omega) (by assumption)).symm)
  refine ntQ (fsQ rfl (zdk (reQ 1 rfl (hvQ rfl (vaQ rfl rfl rfl) (enQ 1 rfl ?_)))))
  exact zci (j + 1) ⟨by omega, fun i hi => by by_cases hij : i = j; (subst hij; assumption); exact hk2 i (by omega)⟩ (by omega) (saQ rfl) (.slnil)
 refine ntQ (zao rfl ?_)
 refine zbi (zep ?_)
 refine zal (zaj (zbh 1 rfl ?_))
 exact zax (zce rfl rfl (congrArg _ (hasBE_no (fun i hi => hk2 i (by omega))).symm))
theorem l13Strict_ans (xs : List Int) (v : Value) (w : World) (hv : RdsW w v 1 xs.length (xs.map (Value.int .i64))) (hlen : xs.length ≤ 1000000) :
   Calls Try.prog 60 #[v] w (Ans w (.bool (pBe (StrictE xs)))) := by
 refine zbg (N := 31) (args := [v]) Try.func60 rfl rfl (zbh 1 rfl (zaa (zbh 1 rfl ?_)))
 refine zba ?_
 refine lkQ1 (α := Nat) [0, 2] rfl (fun j => []) (fun j => [(3, .int .i64 (j : Int))]) (fun j => j ≤ xs.length ∧ ∀ i, i < j → 0 ≤ xs.getD i 0 ∧ (0 < i → xs.getD (i - 1) 0 < xs.getD i 0)) (fun j => xs.length - j) 0 ⟨by omega, fun i hi => absurd hi (by omega)⟩ (saQ rfl) (.slnil) ?_
 intro j hi1
 obtain ⟨hk1, hk2⟩ := hi1
 refine zaa (zaa (reQ 2 rfl (hvQ rfl (lnQ rfl rfl rfl (zac hv)) ?_)))
 refine zbr rfl rfl rfl rfl rfl rfl (fun h2 => ?_) (fun h2 => ?_)
 ·
  refine ntQ (zaq rfl (zcw (sbQ (zaa ?_))))
  rcases Bool.eq_false_or_eq_true (decide (xs.getD j 0 < 0)) with hb3 | hb3
  ·
   have hb3p : xs.getD j 0 < 0 := of_decide_eq_true hb3
   refine zbl 21 [[], [], [0, 1], [2], [3], [4], [5], [5], [5], [8], [8], [8], [8], [8], [8], [8], [8], [8], [8], [5], [5, 19]] [10, 11, 12, 13, 14, 15, 16, 17, 18, 19, 20, 21, 22, 23, 24, 25, 26, 27, 28, 29, 30] [v, .int .i64 (j : Int), elP v (((j : Int)).toNat * 1), .int .i64 (xs.getD j 0), .bool true, .bool true, undef, undef, undef, undef, undef, undef, undef, undef, undef, undef, undef, undef, undef, undef, .bool true] (by kernel_rfl) rfl ?_ ?_
   ·
    exact ⟨iaQ rfl (zae rfl) rfl, iaQ rfl (zae rfl) rfl, iaQ rfl (riQ 1 rfl rfl rfl rfl (zac hv)) rfl, iaQ rfl (liQ rfl rfl rfl (zac hv)) rfl, .inl ⟨rfl, zcq (zbo rfl rfl rfl rfl) hb3⟩, iaQ rfl (zae rfl) rfl, .inr ⟨rfl, rfl⟩, .inr ⟨rfl, rfl⟩, .inr ⟨rfl, rfl⟩, .inr ⟨rfl, rfl⟩, .inr ⟨rfl, rfl⟩, .inr ⟨rfl, rfl⟩, .inr ⟨rfl, rfl⟩, .inr ⟨rfl, rfl⟩, .inr ⟨rfl, rfl⟩, .inr ⟨rfl, rfl⟩, .inr ⟨rfl, rfl⟩, .inr ⟨rfl, rfl⟩, .inr ⟨rfl, rfl⟩, .inr ⟨rfl, rfl⟩, iaQ rfl (zae rfl) rfl, trivial⟩
   simp only [List.drop_succ_cons, List.drop_zero]
   refine ntQ (zaq rfl (zbh 1 rfl ?_))
   refine zax (zat ?_)
   refine rt2Q ?_
   refine zat (zam ?_)
   exact zce rfl rfl (congrArg _ (pBe_no (strict_no (j := j) (by omega) (by first | exact .inl (by omega) | exact .inr ⟨by omega, by omega⟩))).symm)
  have hb3p : ¬ (xs.getD j 0 < 0) := of_decide_eq_false hb3
  rcases Bool.eq_false_or_eq_true (decide (0 < (j : Int))) with hb4 | hb4
  ·
   have hb4p : 0 < (j : Int) := of_decide_eq_true hb4
   refine zbl 21 [[], [], [0, 1], [2], [3], [4], [5], [5, 6], [5, 7], [8], [8], [8, 9, 10], [8, 11], [8], [8], [8, 14], [8, 13, 15], [8, 16], [8, 12, 17], [5, 8, 18], [5, 19]] [10, 11, 12, 13, 14, 15, 16, 17, 18, 19, 20, 21, 22, 23, 24, 25, 26, 27, 28, 29, 30] [v, .int .i64 (j : Int), elP v (((j : Int)).toNat * 1), .int .i64 (xs.getD j 0), .bool false, .bool false, .int .i64 (j : Int), .bool true, .bool true, v, .int .i64 (j : Int), elP v (((j : Int)).toNat * 1), .int .i64 (xs.getD j 0), v, .int .i64 (j : Int), .int .i64 ((j : Int) - 1), elP v (((j : Int) - 1).toNat * 1), .int .i64 (xs.getD (((j : Int) - 1).toNat) 0), .bool (decide (xs.getD j 0 ≤ xs.getD (((j : Int) - 1).toNat) 0)), .bool (decide (xs.getD j 0 ≤ xs.getD (((j : Int) - 1).toNat) 0)), .bool (decide (xs.getD j 0 ≤ xs.getD (((j : Int) - 1).toNat) 0))] (by kernel_rfl) rfl ?_ ?_
   ·
    exact ⟨iaQ rfl (zae rfl) rfl, iaQ rfl (zae rfl) rfl, iaQ rfl (riQ 1 rfl rfl rfl rfl (zac hv)) rfl, iaQ rfl (liQ rfl rfl rfl (zac hv)) rfl, .inl ⟨rfl, zcq (zbo rfl rfl rfl rfl) hb3⟩, iaQ rfl (zae rfl) rfl, iaQ rfl (zae rfl) rfl, .inl ⟨rfl, zcq (zbo rfl rfl rfl rfl) hb4⟩, iaQ rfl (zae rfl) rfl, iaQ rfl (zae rfl) rfl, iaQ rfl (zae rfl) rfl, iaQ rfl (riQ 1 rfl rfl rfl rfl (zac hv)) rfl, iaQ rfl (liQ rfl rfl rfl (zac hv)) rfl, iaQ rfl (zae rfl) rfl, iaQ rfl (zae rfl) rfl, iaQ rfl (vsQ rfl rfl rfl) rfl, iaQ rfl (riQ 1 rfl rfl rfl rfl (zac hv)) rfl, iaQ rfl (lzQ rfl rfl rfl (zac hv)) rfl, iaQ rfl (zbo rfl rfl rfl rfl) rfl, iaQ rfl (zae rfl) rfl, iaQ rfl (zae rfl) rfl, trivial⟩
   simp only [List.drop_succ_cons, List.drop_zero]
   refine ntQ ?_
   refine zgf rfl (fun h5 => ?_) (fun h5 => ?_)
   ·
    have h5p : xs.getD j 0 ≤ xs.getD (((j : Int) - 1).toNat) 0 := of_decide_eq_true h5
    refine zbh 1 rfl ?_
    refine zax (zat ?_)
    refine rt2Q ?_
    refine zat (zam ?_)
    exact zce rfl rfl (congrArg _ (pBe_no (strict_no (j := j) (by omega) (by first | exact .inl (by omega) | exact .inr ⟨by omega, by omega⟩))).symm)
   have h5p : ¬ (xs.getD j 0 ≤ xs.getD (((j : Int) - 1).toNat) 0) := of_decide_eq_false h5
   refine zdg (zdk (reQ 1 rfl (hvQ rfl (vaQ rfl rfl rfl) (enQ 1 rfl ?_))))
   exact zci (j + 1) ⟨by omega, strict_step hk2 (by omega) (by first | exact .inl (by omega) | exact .inr (by omega))⟩ (by omega) (saQ rfl) (.slnil)
  have hb4p : ¬ (0 < (j : Int)) := of_decide_eq_false hb4
  refine zbl 21 [[], [], [0, 1], [2], [3], [4], [5], [5, 6], [5, 7], [8], [8], [8], [8], [8], [8], [8], [8], [8], [8], [5, 8, 18], [5, 19]] [10, 11, 12, 13, 14, 15, 16, 17, 18, 19, 20, 21, 22, 23, 24, 25, 26, 27, 28, 29, 30] [v, .int .i64 (j : Int), elP v (((j : Int)).toNat * 1), .int .i64 (xs.getD j 0), .bool false, .bool false, .int .i64 (j : Int), .bool false, .bool false, undef, undef, undef, undef, undef, undef, undef, undef, undef, undef, .bool false, .bool false] (by kernel_rfl) rfl ?_ ?_
  ·
   exact ⟨iaQ rfl (zae rfl) rfl, iaQ rfl (zae rfl) rfl, iaQ rfl (riQ 1 rfl rfl rfl rfl (zac hv)) rfl, iaQ rfl (liQ rfl rfl rfl (zac hv)) rfl, .inl ⟨rfl, zcq (zbo rfl rfl rfl rfl) hb3⟩, iaQ rfl (zae rfl) rfl, iaQ rfl (zae rfl) rfl, .inl ⟨rfl, zcq (zbo rfl rfl rfl rfl) hb4⟩, iaQ rfl (zae rfl) rfl, .inr ⟨rfl, rfl⟩, .inr ⟨rfl, rfl⟩, .inr ⟨rfl, rfl⟩, .inr ⟨rfl, rfl⟩, .inr ⟨rfl, rfl⟩, .inr ⟨rfl, rfl⟩, .inr ⟨rfl, rfl⟩, .inr ⟨rfl, rfl⟩, .inr ⟨rfl, rfl⟩, .inr ⟨rfl, rfl⟩, iaQ rfl (zae rfl) rfl, iaQ rfl (zae rfl) rfl, trivial⟩
  simp only [List.drop_succ_cons, List.drop_zero]
  refine ntQ (fsQ rfl (zdk (reQ 1 rfl (hvQ rfl (vaQ rfl rfl rfl) (enQ 1 rfl ?_)))))
  exact zci (j + 1) ⟨by omega, strict_step hk2 (by omega) (by first | exact .inl (by omega) | exact .inr (by omega))⟩ (by omega) (saQ rfl) (.slnil)
 refine ntQ (zao rfl ?_)
 refine zbi (zep ?_)
 refine zal (zaj (zbh 1 rfl ?_))
 exact zax (zce rfl rfl (congrArg _ (pBe_yes (fun i hi => hk2 i (by omega))).symm))
theorem CutLessE_ans (xs ys : List Int) (u v : Value) (w : World) (hu : RdsW w u 1 xs.length (xs.map (Value.int .i64))) (hv : RdsW w v 1 ys.length (ys.map (Value.int .i64))) (hlen : xs.length ≤ 1000000) :
   Calls Try.prog 61 #[u, v] w (Ans w (.bool (pBe (CLessE xs ys)))) := by
 refine zbg (N := 40) (args := [u, v]) Try.func61 rfl rfl (zbh 1 rfl (zaa (zaa (reQ 1 rfl (hvQ rfl (lnQ rfl rfl rfl (zac hu)) (zab 1 rfl (hvQ rfl (lnQ rfl rfl rfl (zac hv)) ?_)))))))
 refine hl_neq rfl rfl rfl rfl rfl rfl (fun h1 => ?_) (fun h1 => ?_)
 ·
  refine ntQ (zaq rfl (zaa (reQ 1 rfl (hvQ rfl (lnQ rfl rfl rfl (zac hu)) (zab 1 rfl (hvQ rfl (lnQ rfl rfl rfl (zac hv)) ?_))))))
  refine zbr rfl rfl rfl rfl rfl rfl (fun h2 => ?_) (fun h2 => ?_)
  ·
   refine zbb 1 rfl ?_
   refine zax (zam ?_)
   exact zce rfl rfl (congrArg Value.bool (by first | exact (clessE_eq (by omega) (fun j2 hj2 => hk2 j2 (by omega))).symm | (rw [zfz (by omega)]; first | exact (decide_eq_true (by omega)).symm | exact (decide_eq_false (by omega)).symm) | (rw [clessE_at (i := j) (by omega) (by omega) hk2 (by omega)]; first | exact (decide_eq_true (by omega)).symm | exact (decide_eq_false (by omega)).symm)))
  refine zbb 1 rfl ?_
  refine zax (zam ?_)
  exact zce rfl rfl (congrArg Value.bool (by first | exact (clessE_eq (by omega) (fun j2 hj2 => hk2 j2 (by omega))).symm | (rw [zfz (by omega)]; first | exact (decide_eq_true (by omega)).symm | exact (decide_eq_false (by omega)).symm) | (rw [clessE_at (i := j) (by omega) (by omega) hk2 (by omega)]; first | exact (decide_eq_true (by omega)).symm | exact (decide_eq_false (by omega)).symm)))
 refine ntQ (zao rfl (zcw (zaa (zbh 1 rfl (zba ?_)))))
 refine lkQ1 (α := Nat) [0, 1, 4, 10] rfl (fun j => []) (fun j => [(5, .int .i64 (j : Int))]) (fun j => j ≤ xs.length ∧ ∀ i, i < j → xs.getD i 0 = ys.getD i 0) (fun j => xs.length - j) 0 ⟨by omega, fun i hi => absurd hi (by omega)⟩ (saQ rfl) (.slnil) ?_
 intro j hi3
 obtain ⟨hk1, hk2⟩ := hi3
 refine zaa (zaa (reQ 2 rfl (hvQ rfl (lnQ rfl rfl rfl (zac hu)) ?_)))
 refine zbr rfl rfl rfl rfl rfl rfl (fun h4 => ?_) (fun h4 => ?_)
 ·
  refine ntQ (zaq rfl (zcw (sbQ (zaa ?_))))
  refine zbl 9 [[], [], [0, 1], [2], [], [], [4, 5], [6], [3, 7]] [22, 23, 24, 25, 26, 27, 28, 29, 30] [u, .int .i64 (j : Int), elP u (((j : Int)).toNat * 1), .int .i64 (xs.getD j 0), v, .int .i64 (j : Int), elP v (((j : Int)).toNat * 1), .int .i64 (ys.getD j 0), .bool ((xs.getD j 0) != (ys.getD j 0))] (by kernel_rfl) rfl ?_ ?_
  ·
   exact ⟨iaQ rfl (zae rfl) rfl, iaQ rfl (zae rfl) rfl, iaQ rfl (riQ 1 rfl rfl rfl rfl (zac hu)) rfl, iaQ rfl (liQ rfl rfl rfl (zac hu)) rfl, iaQ rfl (zae rfl) rfl, iaQ rfl (zae rfl) rfl, iaQ rfl (riQ 1 rfl rfl rfl rfl (zac hv)) rfl, iaQ rfl (liQ rfl rfl rfl (zac hv)) rfl, iaQ rfl (zbo rfl rfl rfl rfl) rfl, trivial⟩
  simp only [List.drop_succ_cons, List.drop_zero]
  refine ntQ ?_
  refine zgf rfl (fun h5 => ?_) (fun h5 => ?_)
  ·
   have h5p : xs.getD j 0 ≠ ys.getD j 0 := bne_iff_ne.1 h5
   refine zaa ?_
   rcases Bool.eq_false_or_eq_true (decide (xs.getD j 0 < ys.getD j 0)) with hb6 | hb6
   ·
    have hb6p : xs.getD j 0 < ys.getD j 0 := of_decide_eq_true hb6
    refine zbl 9 [[], [], [0, 1], [2], [], [], [4, 5], [6], [3, 7]] [31, 32, 33, 34, 35, 36, 37, 38, 39] [u, .int .i64 (j : Int), elP u (((j : Int)).toNat * 1), .int .i64 (xs.getD j 0), v, .int .i64 (j : Int), elP v (((j : Int)).toNat * 1), .int .i64 (ys.getD j 0), .bool true] (by kernel_rfl) rfl ?_ ?_
    ·
     exact ⟨iaQ rfl (zae rfl) rfl, iaQ rfl (zae rfl) rfl, iaQ rfl (riQ 1 rfl rfl rfl rfl (zac hu)) rfl, iaQ rfl (liQ rfl rfl rfl (zac hu)) rfl, iaQ rfl (zae rfl) rfl, iaQ rfl (zae rfl) rfl, iaQ rfl (riQ 1 rfl rfl rfl rfl (zac hv)) rfl, iaQ rfl (liQ rfl rfl rfl (zac hv)) rfl, .inl ⟨rfl, zcq (zbo rfl rfl rfl rfl) hb6⟩, trivial⟩
    simp only [List.drop_succ_cons, List.drop_zero]
    refine zbb 1 rfl ?_
    refine zax (zat ?_)
    refine rt2Q ?_
    refine zat (zam ?_)
    exact zce rfl rfl (congrArg Value.bool (by first | exact (clessE_eq (by omega) (fun j2 hj2 => hk2 j2 (by omega))).symm | (rw [zfz (by omega)]; first | exact (decide_eq_true (by omega)).symm | exact (decide_eq_false (by omega)).symm) | (rw [clessE_at (i := j) (by omega) (by omega) hk2 (by omega)]; first | exact (decide_eq_true (by omega)).symm | exact (decide_eq_false (by omega)).symm)))
   have hb6p : ¬ (xs.getD j 0 < ys.getD j 0) := of_decide_eq_false hb6
   refine zbl 9 [[], [], [0, 1], [2], [], [], [4, 5], [6], [3, 7]] [31, 32, 33, 34, 35, 36, 37, 38, 39] [u, .int .i64 (j : Int), elP u (((j : Int)).toNat * 1), .int .i64 (xs.getD j 0), v, .int .i64 (j : Int), elP v (((j : Int)).toNat * 1), .int .i64 (ys.getD j 0), .bool false] (by kernel_rfl) rfl ?_ ?_
   ·
    exact ⟨iaQ rfl (zae rfl) rfl, iaQ rfl (zae rfl) rfl, iaQ rfl (riQ 1 rfl rfl rfl rfl (zac hu)) rfl, iaQ rfl (liQ rfl rfl rfl (zac hu)) rfl, iaQ rfl (zae rfl) rfl, iaQ rfl (zae rfl) rfl, iaQ rfl (riQ 1 rfl rfl rfl rfl (zac hv)) rfl, iaQ rfl (liQ rfl rfl rfl (zac hv)) rfl, .inl ⟨rfl, zcq (zbo rfl rfl rfl rfl) hb6⟩, trivial⟩
   simp only [List.drop_succ_cons, List.drop_zero]
   refine zbb 1 rfl ?_
   refine zax (zat ?_)
   refine rt2Q ?_
   refine zat (zam ?_)
   exact zce rfl rfl (congrArg Value.bool (by first | exact (clessE_eq (by omega) (fun j2 hj2 => hk2 j2 (by omega))).symm | (rw [zfz (by omega)]; first | exact (decide_eq_true (by omega)).symm | exact (decide_eq_false (by omega)).symm) | (rw [clessE_at (i := j) (by omega) (by omega) hk2 (by omega)]; first | exact (decide_eq_true (by omega)).symm | exact (decide_eq_false (by omega)).symm)))
  have h5p : xs.getD j 0 = ys.getD j 0 := (bne_eq_false_iff_eq.1 h5)
  refine zdg (zdk (reQ 1 rfl (hvQ rfl (vaQ rfl rfl rfl) (enQ 1 rfl ?_))))
  exact zci (j + 1) ⟨by omega, fun i hi => by by_cases hij : i = j; (subst hij; assumption); exact hk2 i (by omega)⟩ (by omega) (saQ rfl) (.slnil)
 refine ntQ (zao rfl ?_)
 refine zbi (zep ?_)
 refine zal (zaj (zbh 1 rfl ?_))
 exact zax (zce rfl rfl (congrArg Value.bool (by first | exact (clessE_eq (by omega) (fun j2 hj2 => hk2 j2 (by omega))).symm | (rw [zfz (by omega)]; first | exact (decide_eq_true (by omega)).symm | exact (decide_eq_false (by omega)).symm) | (rw [clessE_at (i := j) (by omega) (by omega) hk2 (by omega)]; first | exact (decide_eq_true (by omega)).symm | exact (decide_eq_false (by omega)).symm))))
theorem l13Within_ans (xs ys : List Int) (u v : Value) (w : World) (hu : RdsW w u 1 xs.length (xs.map (Value.int .i64))) (hv : RdsW w v 1 ys.length (ys.map (Value.int .i64))) (hlen : xs.length ≤ 1000000 ∧ ys.length ≤ 1000000) :
   Calls Try.prog 58 #[u, v] w (Ans w (.bool (xs.all (hasB ys)))) := by
 refine zbg (N := 19) (args := [u, v]) Try.func58 rfl rfl (zbh 1 rfl (zaa (zbh 1 rfl ?_)))
 refine zba ?_
 refine lkQ1 (α := Nat) [0, 1, 4] rfl (fun j => []) (fun j => [(5, .int .i64 (j : Int))]) (fun j => j ≤ xs.length ∧ ∀ i, i < j → hasB ys (xs.getD i 0) = true) (fun j => xs.length - j) 0 ⟨by omega, fun i hi => absurd hi (by omega)⟩ (saQ rfl) (.slnil) ?_
 intro j hi1
 obtain ⟨hk1, hk2⟩ := hi1
 refine zaa (zaa (reQ 2 rfl (hvQ rfl (lnQ rfl rfl rfl (zac hu)) ?_)))
 refine zbr rfl rfl rfl rfl rfl rfl (fun h2 => ?_) (fun h2 => ?_)
 ·
  refine ntQ (zaq rfl (zcw (sbQ (zaa (reQ 3 rfl (hvQ rfl (riQ 1 rfl rfl rfl rfl (zac hu)) (hvQ rfl (liQ rfl rfl rfl (zac hu)) ?_)))))))
  refine zdw rfl (zas rfl rfl (fun w hm => zaz (l13HasE_ans ys (xs.getD j 0) _ w ((zac hv) w hm) (by omega)))) (zbc (fun h3 => ?_) (fun h3 => ?_))
  ·
   refine zbb 1 rfl (fsQ rfl (zdk (reQ 1 rfl (hvQ rfl (vaQ rfl rfl rfl) (enQ 1 rfl ?_)))))
   exact zci (j + 1) ⟨by omega, fun i hi => by by_cases hij : i = j; (subst hij; assumption); exact hk2 i (by omega)⟩ (by omega) (saQ rfl) (.slnil)
  refine zbb 1 rfl (zaq rfl (zbh 1 rfl ?_))
  refine zax (zat ?_)
  refine rt2Q ?_
  refine zat (zam ?_)
  exact zce rfl rfl (congrArg _ (Bool.eq_false_iff.2 (fun h => by have h2 := List.all_eq_true.1 h _ (zbp (es := xs) (i := j) (d := (0 : Int)) (by omega)); rw [show hasB ys (xs.getD j 0) = false by assumption] at h2; cases h2)).symm)
 refine ntQ (zao rfl ?_)
 refine zbi (zep ?_)
 refine zal (zaj (zbh 1 rfl ?_))
 exact zax (zce rfl rfl (congrArg _ (List.all_eq_true.2 (fun x hx => by obtain ⟨i, hi, rfl⟩ := List.mem_iff_getElem.1 hx; have := hk2 i (by omega); rwa [List.getD_eq_getElem?_getD, List.getElem?_eq_getElem hi] at this)).symm))
theorem l13Add_ret (rs : List CRow) (ux : List Int) (v uv : Value) (w : World) (hv : RdsCl w v rs) (hr4 : ∀ r ∈ rs, r.xs.length ≤ 4) (hrl : rs.length ≤ 1000) (hu : RdsW w uv 1 ux.length (ux.map (Value.int .i64))) (hul : ux.length ≤ 4) :
   Calls Try.prog 57 #[v, uv] w (Ret w (fun u_ p_ => ∃ zs : List CRow, p_ = [rowE 26 1 u_ zs.length (zs.flatMap crowC)] ∧ (∀ z ∈ zs, z = CRow.mk uv ux ∨ z ∈ rs) ∧ zs.length ≤ rs.length + 1)) := by
 refine zbg (N := 51) (args := [v, uv]) Try.func57 rfl rfl (zbh 1 rfl (srQ ?_))
 refine zea rfl (zcl (s := 1) rfl Try.underlying36 rfl) ?_
 intro g1
 refine zbb 1 rfl (zbh 1 rfl (zaa (zaa (reQ 1 rfl ?_))))
 refine ntQ (zba ?_)
 refine lkQ4 (α := Nat) (β := List CRow) (γ := Value) (δ := Nat) [0, 1, 4] rfl (fun i zs gu c => [rowE 26 1 gu zs.length (zs.flatMap crowC)]) (fun i zs gu c => [(5, gu), (6, .bool (decide (c = 1))), (7, .int .i64 (i : Int))]) (fun i zs gu c => i ≤ rs.length ∧ c ≤ 1 ∧ (∀ z ∈ zs, z = CRow.mk uv ux ∨ z ∈ rs) ∧ zs.length ≤ i + c) (fun i zs gu c => rs.length - i) 0 [] _ 0 ⟨Nat.zero_le _, by omega, (fun z hz => by cases hz), by simp⟩ (saQ rfl) (pfQ rfl) ?_
 intro i zs gu c hi2
 obtain ⟨hi, hc, hzm, hzl⟩ := hi2
 refine zaa (zaa (reQ 2 rfl (hvQ rfl (lnQ rfl rfl rfl (zac hv.row)) ?_)))
 refine zbr rfl rfl rfl rfl rfl rfl (fun h3 => ?_) (fun h3 => ?_)
 ·
  refine ntQ (zaq rfl (zcw (sbQ (zaa (zaa (reQ 1 rfl ?_))))))
  refine zbc (fun h4 => ?_) (fun h4 => ?_)
  ·
   have h4p : c = 1 := of_decide_eq_true h4
   refine zbb 10 rfl (zao rfl (zcw (reQ 3 rfl ?_)))
   refine hvQ rfl (riQ 1 rfl rfl rfl rfl (zac hv.row)) (hvQ rfl (zav (u := (rs.getD i crow0).v) rfl rfl rfl (zac hv.row) (zbm crowC (fun r => r.v) (fun _ => rfl) rs crow0 (show i < _ by omega))) ?_)
   refine zea rfl (zde rfl Try.underlying36 (by kernel_rfl) rfl (hv.at (k := i) (by omega)).one) ?_
   intro g5
   refine zck (i := 1) (z := .slice none 0 0) (bytes := 24) rfl rfl rfl rfl Try.underlying36 (by kernel_rfl) rfl rfl rfl rfl (zad 0 rfl) (fun q hq => by rw [List.mem_singleton] at hq; subst hq; exact (hv.at (k := i) (by omega)).one) (by first | omega | (simp only [List.length_append, List.length_cons, List.length_nil]; omega)) (zcc zs [(rs.getD i crow0)]) (zdt crowC zs (rs.getD i crow0) _ rfl) (fun _ => rfl) ?_
   intro v6
   refine enQ 1 rfl (zdk (reQ 1 rfl (hvQ rfl (vaQ rfl rfl rfl) (enQ 1 rfl ?_))))
   exact zbe (i + 1) (zs ++ [(rs.getD i crow0)]) v6 c ⟨by omega, by omega, (app_mem hzm (.inr (zbp (by omega)))), by simp only [List.length_append, List.length_cons, List.length_nil]; omega⟩ (by omega) (saQ rfl) (slQ [1] rfl)
  have h4p : ¬ c = 1 := of_decide_eq_false h4
  refine zab 4 rfl (hvQ rfl (riQ 1 rfl rfl rfl rfl (zac hv.row)) ?_)
  refine hvQ rfl (zav (u := (rs.getD i crow0).v) rfl rfl rfl (zac hv.row) (zbm crowC (fun r => r.v) (fun _ => rfl) rs crow0 (show i < _ by omega))) (zab 1 rfl ?_)
  have h4i := hr4 _ (zbp (es := rs) (i := i) (d := crow0) (by omega))
  refine zdw rfl (zas rfl rfl (fun w hm => zaz (CutLessE_ans ((rs.getD i crow0).xs) ux _ _ w ((zac (hv.at (k := i) (by omega))) w hm) ((zac hu) w hm) (by omega)))) (zbc (fun h7 => ?_) (fun h7 => ?_))
  ·
   refine zbb 2 rfl (zao rfl (zcw (reQ 3 rfl (hvQ rfl (riQ 1 rfl rfl rfl rfl (zac hv.row)) ?_))))
   refine hvQ rfl (zav (u := (rs.getD i crow0).v) rfl rfl rfl (zac hv.row) (zbm crowC (fun r => r.v) (fun _ => rfl) rs crow0 (show i < _ by omega))) (zea rfl (zde rfl Try.underlying36 (by kernel_rfl) rfl (hv.at (k := i) (by omega)).one) ?_)
   intro g8
   refine zck (i := 1) (z := .slice none 0 0) (bytes := 24) rfl rfl rfl rfl Try.underlying36 (by kernel_rfl) rfl rfl rfl rfl (zad 0 rfl) (fun q hq => by rw [List.mem_singleton] at hq; subst hq; exact (hv.at (k := i) (by omega)).one) (by first | omega | (simp only [List.length_append, List.length_cons, List.length_nil]; omega)) (zcc zs [(rs.getD i crow0)]) (zdt crowC zs (rs.getD i crow0) _ rfl) (fun _ => rfl) ?_
   intro v9
   refine enQ 1 rfl (zdk (reQ 1 rfl (hvQ rfl (vaQ rfl rfl rfl) (enQ 1 rfl ?_))))
   exact zbe (i + 1) (zs ++ [(rs.getD i crow0)]) v9 c ⟨by omega, by omega, (app_mem hzm (.inr (zbp (by omega)))), by simp only [List.length_append, List.length_cons, List.length_nil]; omega⟩ (by omega) (saQ rfl) (slQ [1] rfl)
  refine zbb 2 rfl (zaq rfl (zbh 1 rfl (zaa (reQ 2 rfl ?_))))
  refine zea rfl (zde rfl Try.underlying36 (by kernel_rfl) rfl hu.one) ?_
  intro g10
  refine zck (i := 1) (z := .slice none 0 0) (bytes := 24) rfl rfl rfl rfl Try.underlying36 (by kernel_rfl) rfl rfl rfl rfl (zad 0 rfl) (fun q hq => by rw [List.mem_singleton] at hq; subst hq; exact hu.one) (by first | omega | (simp only [List.length_append, List.length_cons, List.length_nil]; omega)) (zcc zs [(CRow.mk uv ux)]) (zdt crowC zs (CRow.mk uv ux) _ rfl) (fun _ => rfl) ?_
  intro v11
  refine zbb 1 rfl (zaa (reQ 3 rfl (hvQ rfl (riQ 1 rfl rfl rfl rfl (zac hv.row)) ?_)))
  refine hvQ rfl (zav (u := (rs.getD i crow0).v) rfl rfl rfl (zac hv.row) (zbm crowC (fun r => r.v) (fun _ => rfl) rs crow0 (show i < _ by omega))) (zdw rfl (zas rfl rfl (fun w hm => zaz (CutLessE_ans ux ((rs.getD i crow0).xs) _ _ w ((zac hu) w hm) ((zac (hv.at (k := i) (by omega))) w hm) (by omega)))) ?_)
  refine zbc (fun h12 => ?_) (fun h12 => ?_)
  ·
   refine zbb 1 rfl (zao rfl (zcw (reQ 3 rfl (hvQ rfl (riQ 1 rfl rfl rfl rfl (zac hv.row)) ?_))))
   refine hvQ rfl (zav (u := (rs.getD i crow0).v) rfl rfl rfl (zac hv.row) (zbm crowC (fun r => r.v) (fun _ => rfl) rs crow0 (show i < _ by omega))) (zea rfl (zde rfl Try.underlying36 (by kernel_rfl) rfl (hv.at (k := i) (by omega)).one) ?_)
   intro g13
   refine zck (i := 2) (z := .slice none 0 0) (bytes := 24) rfl rfl rfl rfl Try.underlying36 (by kernel_rfl) rfl rfl rfl rfl (zad 0 rfl) (fun q hq => by rw [List.mem_singleton] at hq; subst hq; exact (hv.at (k := i) (by omega)).one) (by first | omega | (simp only [List.length_append, List.length_cons, List.length_nil]; omega)) (zcc (zs ++ [(CRow.mk uv ux)]) [(rs.getD i crow0)]) (zdt crowC (zs ++ [(CRow.mk uv ux)]) (rs.getD i crow0) _ rfl) (fun _ => rfl) ?_
   intro v14
   refine enQ 1 rfl (zdk (reQ 1 rfl (hvQ rfl (vaQ rfl rfl rfl) (enQ 1 rfl ?_))))
   exact zbe (i + 1) ((zs ++ [(CRow.mk uv ux)]) ++ [(rs.getD i crow0)]) v14 1 ⟨by omega, by omega, (app_mem (app_mem hzm (.inl rfl)) (.inr (zbp (by omega)))), by simp only [List.length_append, List.length_cons, List.length_nil]; omega⟩ (by omega) (saQ rfl) (slQ [2] rfl)
  refine zbb 1 rfl (zaq rfl ?_)
  refine zbi (zed ?_)
  refine zal (zaj (reQ 1 rfl (hvQ rfl (vaQ rfl rfl rfl) (enQ 1 rfl ?_))))
  exact zbe (i + 1) (zs ++ [(CRow.mk uv ux)]) v11 1 ⟨by omega, by omega, (app_mem hzm (.inl rfl)), by simp only [List.length_append, List.length_cons, List.length_nil]; omega⟩ (by omega) (saQ rfl) (slQ [1] rfl)
 refine ntQ (zao rfl ?_)
 refine zbi (zep ?_)
 refine zal (zaj (zaa (zaa (reQ 1 rfl ?_))))
 refine zbc (fun h15 => ?_) (fun h15 => ?_)
 ·
  have h15p : c = 1 := of_decide_eq_true h15
  refine zbb 1 rfl (zao rfl (zcw (zbh 2 rfl ?_)))
  exact zax (zct (post := [rowE 26 1 gu zs.length (zs.flatMap crowC)]) rfl rfl (pfQ rfl) ⟨_, rfl, hzm, by omega⟩)
 have h15p : ¬ c = 1 := of_decide_eq_false h15
 refine zbb 1 rfl (zaq rfl (reQ 2 rfl ?_))
 refine zea rfl (zde rfl Try.underlying36 (by kernel_rfl) rfl hu.one) ?_
 intro g16
 refine zck (i := 1) (z := .slice none 0 0) (bytes := 24) rfl rfl rfl rfl Try.underlying36 (by kernel_rfl) rfl rfl rfl rfl (zad 0 rfl) (fun q hq => by rw [List.mem_singleton] at hq; subst hq; exact hu.one) (by first | omega | (simp only [List.length_append, List.length_cons, List.length_nil]; omega)) (zcc zs [(CRow.mk uv ux)]) (zdt crowC zs (CRow.mk uv ux) _ rfl) (fun _ => rfl) ?_
 intro v17
 refine zbb 1 rfl (zbh 2 rfl ?_)
 exact zax (zct (post := [rowE 26 1 v17 ((zs ++ [(CRow.mk uv ux)]).length) ((zs ++ [(CRow.mk uv ux)]).flatMap crowC)]) rfl rfl (slQ [1] rfl) ⟨_, rfl, (app_mem hzm (.inl rfl)), by simp only [List.length_append, List.length_cons, List.length_nil]; omega⟩)
open Go.RowKit
def JoinU (xs ys us : List Int) : Prop := ∀ k, k ∈ us ↔ k ∈ xs ∨ k ∈ ys
def UnX (xs ys : List Int) (i j : Nat) (os : List Int) : Prop := ∀ k, k ∈ os ↔ k ∈ xs.take i ∨ k ∈ ys.take j
theorem UnX.start (xs ys : List Int) : UnX xs ys 0 0 [] := fun k => by simp
theorem UnX.a {xs ys os : List Int} {i j : Nat} (h : UnX xs ys i j os) (hi : i < xs.length) : UnX xs ys (i + 1) j (os ++ [xs.getD i 0]) := fun k => by
  rw [List.mem_append, h k, zdi 0 hi, List.mem_append]
  constructor
  · rintro ((q | q) | q)
    · exact .inl (.inl q)
    · exact .inr q
    · exact .inl (.inr q)
  · rintro ((q | q) | q)
    · exact .inl (.inl q)
    · exact .inr q
    · exact .inl (.inr q)
theorem UnX.b {xs ys os : List Int} {i j : Nat} (h : UnX xs ys i j os) (hj : j < ys.length) : UnX xs ys i (j + 1) (os ++ [ys.getD j 0]) := fun k => by
  rw [List.mem_append, h k, zdi 0 hj, List.mem_append, or_assoc]
theorem UnX.ab {xs ys os : List Int} {i j : Nat} (h : UnX xs ys i j os) (hi : i < xs.length) (hj : j < ys.length) (e : xs.getD i 0 = ys.getD j 0) : UnX xs ys (i + 1) (j + 1) (os ++ [xs.getD i 0]) := fun k => by
  rw [h.a hi k, zdi 0 hj, List.mem_append]
  constructor
  · rintro (q | q)
    · exact .inl q
    · exact .inr (.inl q)
  · rintro (q | q | q)
    · exact .inl q
    · exact .inr q
    · rw [List.mem_singleton, ← e] at q
      exact .inl (by rw [zdi 0 hi, q]; simp)
theorem UnX.done {xs ys os : List Int} (h : UnX xs ys xs.length ys.length os) : JoinU xs ys os := fun k => by rw [h k, List.take_length, List.take_length]
def JnX (ca cb : List CRow) (r : CRow) : Prop := ∃ x ∈ ca, ∃ y ∈ cb, JoinU x.xs y.xs r.xs
def QR (ca cb : List CRow) (r : CRow) : Prop := r.xs.length ≤ 4 ∧ JnX ca cb r
theorem q_cons {ca cb rs qs : List CRow} {u : CRow} (h : ∀ r ∈ rs, QR ca cb r) (hu : QR ca cb u) (hq : ∀ q ∈ qs, q = u ∨ q ∈ rs) : ∀ q ∈ qs, QR ca cb q := fun q hm => by
  rcases hq q hm with rfl | e
  · exact hu
  · exact h q e
structure GrpX (n : Nt) (k : Int) (rs : List CRow) : Prop where
  pos : 1 ≤ rs.length
  len : rs.length ≤ 8
  four : ∀ r ∈ rs, r.xs.length ≤ 4
  cov : ∀ r ∈ rs, Cov n r.xs k ∧ ∀ c ∈ r.xs, 0 ≤ c ∧ c ≤ k
  low : ∀ i, i + 1 < rs.length → ∀ c ∈ (rs.getD i crow0).xs, c < k
def GrpsX (n : Nt) (cs : List CGrp) : Prop := ∀ k, k < cs.length → GrpX n (k : Int) (cs.getD k cgrp0).rs
theorem GrpsX.at {n : Nt} {cs : List CGrp} (h : GrpsX n cs) {k : Nat} (hk : k < cs.length) : GrpX n (k : Int) (cs.getD k cgrp0).rs := h k hk
theorem GrpsX.app {n : Nt} {cs : List CGrp} (h : GrpsX n cs) {e : CGrp} {k : Nat} (hk : cs.length = k) (he : GrpX n (k : Int) e.rs) : GrpsX n (cs ++ [e]) := fun j hj => by
  rw [List.length_append, List.length_singleton] at hj
  by_cases c : j < cs.length
  · rw [zfx c]; exact h j c
  · have : j = cs.length := by omega
    subst this
    rw [List.getD_eq_getElem?_getD, List.getElem?_concat_length, Option.getD_some, hk]; exact he
theorem GrpX.one {n : Nt} {v : Value} {k : Nat} : GrpX n (k : Int) [CRow.mk v [(k : Int)]] := ⟨by simp, by simp, fun r hr => by rw [List.mem_singleton] at hr; subst hr; simp, fun r hr => by
  rw [List.mem_singleton] at hr; subst hr
  exact ⟨.mem (List.mem_singleton.2 rfl), fun c hc => by rw [List.mem_singleton.1 hc]; omega⟩, fun i hi => by simp at hi⟩
theorem GrpX.zero {n : Nt} {v : Value} : GrpX n 0 [CRow.mk v []] := ⟨by simp, by simp, fun r hr => by rw [List.mem_singleton] at hr; subst hr; simp, fun r hr => by
  rw [List.mem_singleton] at hr; subst hr
  exact ⟨.zero, fun c hc => by cases hc⟩, fun i hi => by simp at hi⟩
theorem GrpX.more {n : Nt} (hn : NtOk n) {k ta tb : Nat} {ca cb us : List CRow} {v : Value} (h0 : n.fst ≤ (k : Int)) (h1 : (k : Int) < n.cnt) (hA : GrpX n (ta : Int) ca) (hB : GrpX n (tb : Int) cb) (ea : (ta : Int) = ndA n (k : Int) / 2) (eb : (tb : Int) = ndB n (k : Int) / 2) (hl : us.length ≤ 7) (h4 : ∀ r ∈ us, r.xs.length ≤ 4) (hj : ∀ r ∈ us, JnX ca cb r) : GrpX n (k : Int) (us ++ [CRow.mk v [(k : Int)]]) := by
  obtain ⟨o1, o2, o3, o4, o5, o6⟩ := nd_ok hn h0 h1
  have hm : ∀ r ∈ us, Cov n r.xs (k : Int) ∧ ∀ c ∈ r.xs, 0 ≤ c ∧ c < (k : Int) := fun r hr => by
    obtain ⟨x, hx, y, hy, e⟩ := hj r hr
    obtain ⟨c1, c2⟩ := hA.cov x hx
    obtain ⟨d1, d2⟩ := hB.cov y hy
    refine ⟨.and h0 h1 (by rw [← ea]; exact c1.mono fun z hz => (e z).2 (.inl hz)) (by rw [← eb]; exact d1.mono fun z hz => (e z).2 (.inr hz)), fun c hc => ?_⟩
    rcases (e c).1 hc with q | q
    · have := c2 c q; omega
    · have := d2 c q; omega
  refine ⟨by simp, by simp; omega, fun r hr => ?_, fun r hr => ?_, fun i hi c hc => ?_⟩
  · rcases List.mem_append.1 hr with hr | hr
    · exact h4 r hr
    · rw [List.mem_singleton] at hr; subst hr; simp
  · rcases List.mem_append.1 hr with hr | hr
    · exact ⟨(hm r hr).1, fun c hc => by have := (hm r hr).2 c hc; omega⟩
    · rw [List.mem_singleton] at hr; subst hr
      exact ⟨.mem (List.mem_singleton.2 rfl), fun c hc => by rw [List.mem_singleton.1 hc]; omega⟩
  · rw [List.length_append, List.length_singleton] at hi
    rw [zfx (show i < us.length by omega)] at hc
    exact ((hm _ (zbp (show i < us.length by omega))).2 c hc).2
theorem GrpX.like {n : Nt} {k : Int} {rs qs : List CRow} (h : GrpX n k rs) (hl : qs.length = rs.length) (he : ∀ j, j < rs.length → (qs.getD j crow0).xs = (rs.getD j crow0).xs) : GrpX n k qs := by
  have key : ∀ r ∈ qs, ∃ r' ∈ rs, r.xs = r'.xs := fun r hr => by
    obtain ⟨j, hj, rfl⟩ := List.mem_iff_getElem.1 hr
    have := he j (by omega)
    rw [List.getD_eq_getElem?_getD, List.getElem?_eq_getElem hj] at this
    exact ⟨_, zbp (show j < rs.length by omega), this⟩
  refine ⟨by have := h.pos; omega, by have := h.len; omega, fun r hr => ?_, fun r hr => ?_, fun i hi c hc => ?_⟩
  · obtain ⟨r', h1, e⟩ := key r hr; rw [e]; exact h.four r' h1
  · obtain ⟨r', h1, e⟩ := key r hr; rw [e]; exact h.cov r' h1
  · rw [he i (by omega)] at hc; exact h.low i (by omega) c hc
theorem MergeU_ret (xs ys : List Int) (u v : Value) (w : World) (hu : RdsW w u 1 xs.length (xs.map (Value.int .i64))) (hv : RdsW w v 1 ys.length (ys.map (Value.int .i64))) (hxl : xs.length ≤ 100000) (hyl : ys.length ≤ 100000) :
   Calls Try.prog 56 #[u, v] w (Ret w (fun u_ p_ => ∃ (mv : Value) (us : List Int) (mb : Bool), u_ = .tuple #[mv, .bool mb] ∧ p_ = [rowE 3 1 mv us.length (us.map (Value.int .i64))] ∧ us.length ≤ 4 ∧ (mb = true → JoinU xs ys us))) := by
 refine zbg (N := 101) (args := [u, v]) Try.func56 rfl rfl (zbh 2 rfl (srQ ?_))
 refine zea rfl (zcl (s := 1) rfl Try.underlying26 rfl) ?_
 intro g1
 refine zbb 1 rfl (zaa (zaa (reQ 1 rfl ?_)))
 refine zdw rfl (zas rfl rfl (fun w hm => zaz (l13Strict_ans xs _ w ((zac hu) w hm) (by omega)))) (zbc (fun h2 => ?_) (fun h2 => ?_))
 ·
  refine zab 3 rfl (zdw rfl (zas rfl rfl (fun w hm => zaz (l13Strict_ans ys _ w ((zac hv) w hm) (by omega)))) ?_)
  refine zbc (fun h3 => ?_) (fun h3 => ?_)
  ·
   refine zbb 2 rfl (zao rfl (zcw (zbh 1 rfl (zaa ?_))))
   refine zai (zbb 1 rfl (sbQ ?_))
   refine lkQ4 (α := Nat) (β := Nat) (γ := Value) (δ := List Int) [0, 1, 4, 5, 17] rfl (fun i j gu os => [rowE 3 1 gu os.length (os.map (Value.int .i64))]) (fun i j gu os => [(6, gu), (7, .int .i64 (i : Int)), (8, .int .i64 (j : Int))]) (fun i j gu os => i ≤ xs.length ∧ j ≤ ys.length ∧ os.length ≤ 4 ∧ UnX xs ys i j os) (fun i j gu os => xs.length - i + (ys.length - j)) 0 0 _ [] ⟨Nat.zero_le _, Nat.zero_le _, by simp, UnX.start xs ys⟩ (saQ rfl) (pfQ rfl) ?_
   intro i j gu os hi4
   obtain ⟨hi, hj, hol, hux⟩ := hi4
   refine zaa (zaa (reQ 2 rfl (hvQ rfl (lnQ rfl rfl rfl (zac hu)) ?_)))
   refine zbr rfl rfl rfl rfl rfl rfl (fun h5 => ?_) (fun h5 => ?_)
   ·
    refine zbb 6 rfl (zaq rfl (zcw (zba (ssrQ ?_))))
    refine zab 1 rfl (hvQ rfl (lnQ rfl rfl rfl (zad 0 rfl)) ?_)
    refine zcj rfl rfl rfl rfl rfl rfl (fun h6 => ?_) (fun h6 => ?_)
    ·
     refine ntQ (zaq rfl (srQ ?_))
     refine zea rfl (zcl (s := 1) rfl Try.underlying26 rfl) ?_
     intro g7
     refine zbb 2 rfl ?_
     refine zax (zam ?_)
     refine zat (zam ?_)
     refine zat (zam ?_)
     exact zdl (rs := [.tmp 4, .tmp 5]) (vs := [.slice (some ⟨g7, 0, none⟩) 0 0, .bool false]) (post := [rowE 3 1 (.slice (some ⟨g7, 0, none⟩) 0 0) 0 ([])]) rfl ⟨rfl, rfl, trivial⟩ rfl (slQ [0] rfl) ⟨_, [], false, rfl, rfl, by simp, fun h => absurd h (by decide)⟩
    refine ntQ (zao rfl (zcw (zba ?_)))
    refine zfn (α := Bool) (fun b4 => [rowE 3 1 gu os.length (os.map (Value.int .i64))]) (fun b4 => [(0, u), (1, v), (4, .slice none 0 0), (5, .bool false), (6, gu), (7, .int .i64 (i : Int)), (8, .int .i64 (j : Int)), (17, .bool false), (28, .bool true), (31, .bool false), (44, .bool b4)]) (fun b4 => (b4 = true → i < xs.length) ∧ (b4 = false → j < ys.length ∧ (i < xs.length → ys.getD j 0 ≤ xs.getD i 0))) ?_ ?_
    ·
     rcases Bool.eq_false_or_eq_true ((j : Int) == (ys.length : Int)) with hb8 | hb8
     ·
      have hb8p : (j : Int) = (ys.length : Int) := beq_iff_eq.1 hb8
      refine zbl 21 [[], [], [1], [0, 2], [3], [4], [4], [4], [4], [4], [9], [9], [9], [9], [9], [9], [9], [9], [9], [4], [4, 19]] [45, 46, 47, 48, 49, 50, 51, 52, 53, 54, 55, 56, 57, 58, 59, 60, 61, 62, 63, 64, 65] [.int .i64 (j : Int), v, .int .i64 (ys.length : Int), .bool true, .bool true, undef, undef, undef, undef, undef, undef, undef, undef, undef, undef, undef, undef, undef, undef, undef, .bool true] (by kernel_rfl) rfl ?_ ?_
      ·
       exact ⟨iaQ rfl (zae rfl) rfl, iaQ rfl (zae rfl) rfl, iaQ rfl (lnQ rfl rfl rfl (zac hv)) rfl, .inl ⟨rfl, zcq (zbo rfl rfl rfl rfl) hb8⟩, iaQ rfl (zae rfl) rfl, .inr ⟨rfl, rfl⟩, .inr ⟨rfl, rfl⟩, .inr ⟨rfl, rfl⟩, .inr ⟨rfl, rfl⟩, .inr ⟨rfl, rfl⟩, .inr ⟨rfl, rfl⟩, .inr ⟨rfl, rfl⟩, .inr ⟨rfl, rfl⟩, .inr ⟨rfl, rfl⟩, .inr ⟨rfl, rfl⟩, .inr ⟨rfl, rfl⟩, .inr ⟨rfl, rfl⟩, .inr ⟨rfl, rfl⟩, .inr ⟨rfl, rfl⟩, .inr ⟨rfl, rfl⟩, iaQ rfl (zae rfl) rfl, trivial⟩
      simp only [List.drop_succ_cons, List.drop_zero]
      refine enQ 1 rfl ?_
      exact zcb true ⟨fun _ => by first | omega | contradiction, fun _ => by first | contradiction | (exact ⟨by omega, fun _ => by omega⟩)⟩ (saQ rfl) (pfQ rfl)
     have hb8p : (j : Int) ≠ (ys.length : Int) := beq_eq_false_iff_ne.1 hb8
     rcases Bool.eq_false_or_eq_true (decide ((i : Int) < (xs.length : Int))) with hb9 | hb9
     ·
      have hb9p : (i : Int) < (xs.length : Int) := of_decide_eq_true hb9
      rcases Bool.eq_false_or_eq_true (decide (xs.getD i 0 < ys.getD j 0)) with hb10 | hb10
      ·
       have hb10p : xs.getD i 0 < ys.getD j 0 := of_decide_eq_true hb10
       refine zbl 21 [[], [], [1], [0, 2], [3], [4], [4], [4, 6], [4, 5, 7], [4, 8], [9], [9], [9, 10, 11], [9, 12], [9], [9], [9, 14, 15], [9, 16], [9, 13, 17], [4, 9, 18], [4, 19]] [45, 46, 47, 48, 49, 50, 51, 52, 53, 54, 55, 56, 57, 58, 59, 60, 61, 62, 63, 64, 65] [.int .i64 (j : Int), v, .int .i64 (ys.length : Int), .bool false, .bool false, .int .i64 (i : Int), u, .int .i64 (xs.length : Int), .bool true, .bool true, u, .int .i64 (i : Int), elP u (((i : Int)).toNat * 1), .int .i64 (xs.getD i 0), v, .int .i64 (j : Int), elP v (((j : Int)).toNat * 1), .int .i64 (ys.getD j 0), .bool true, .bool true, .bool true] (by kernel_rfl) rfl ?_ ?_
       ·
        exact ⟨iaQ rfl (zae rfl) rfl, iaQ rfl (zae rfl) rfl, iaQ rfl (lnQ rfl rfl rfl (zac hv)) rfl, .inl ⟨rfl, zcq (zbo rfl rfl rfl rfl) hb8⟩, iaQ rfl (zae rfl) rfl, iaQ rfl (zae rfl) rfl, iaQ rfl (zae rfl) rfl, iaQ rfl (lnQ rfl rfl rfl (zac hu)) rfl, .inl ⟨rfl, zcq (zbo rfl rfl rfl rfl) hb9⟩, iaQ rfl (zae rfl) rfl, iaQ rfl (zae rfl) rfl, iaQ rfl (zae rfl) rfl, iaQ rfl (riQ 1 rfl rfl rfl rfl (zac hu)) rfl, iaQ rfl (liQ rfl rfl rfl (zac hu)) rfl, iaQ rfl (zae rfl) rfl, iaQ rfl (zae rfl) rfl, iaQ rfl (riQ 1 rfl rfl rfl rfl (zac hv)) rfl, iaQ rfl (liQ rfl rfl rfl (zac hv)) rfl, .inl ⟨rfl, zcq (zbo rfl rfl rfl rfl) hb10⟩, iaQ rfl (zae rfl) rfl, iaQ rfl (zae rfl) rfl, trivial⟩
       simp only [List.drop_succ_cons, List.drop_zero]
       refine enQ 1 rfl ?_
       exact zcb true ⟨fun _ => by first | omega | contradiction, fun _ => by first | contradiction | (exact ⟨by omega, fun _ => by omega⟩)⟩ (saQ rfl) (pfQ rfl)
      have hb10p : ¬ (xs.getD i 0 < ys.getD j 0) := of_decide_eq_false hb10
      refine zbl 21 [[], [], [1], [0, 2], [3], [4], [4], [4, 6], [4, 5, 7], [4, 8], [9], [9], [9, 10, 11], [9, 12], [9], [9], [9, 14, 15], [9, 16], [9, 13, 17], [4, 9, 18], [4, 19]] [45, 46, 47, 48, 49, 50, 51, 52, 53, 54, 55, 56, 57, 58, 59, 60, 61, 62, 63, 64, 65] [.int .i64 (j : Int), v, .int .i64 (ys.length : Int), .bool false, .bool false, .int .i64 (i : Int), u, .int .i64 (xs.length : Int), .bool true, .bool true, u, .int .i64 (i : Int), elP u (((i : Int)).toNat * 1), .int .i64 (xs.getD i 0), v, .int .i64 (j : Int), elP v (((j : Int)).toNat * 1), .int .i64 (ys.getD j 0), .bool false, .bool false, .bool false] (by kernel_rfl) rfl ?_ ?_
      ·
       exact ⟨iaQ rfl (zae rfl) rfl, iaQ rfl (zae rfl) rfl, iaQ rfl (lnQ rfl rfl rfl (zac hv)) rfl, .inl ⟨rfl, zcq (zbo rfl rfl rfl rfl) hb8⟩, iaQ rfl (zae rfl) rfl, iaQ rfl (zae rfl) rfl, iaQ rfl (zae rfl) rfl, iaQ rfl (lnQ rfl rfl rfl (zac hu)) rfl, .inl ⟨rfl, zcq (zbo rfl rfl rfl rfl) hb9⟩, iaQ rfl (zae rfl) rfl, iaQ rfl (zae rfl) rfl, iaQ rfl (zae rfl) rfl, iaQ rfl (riQ 1 rfl rfl rfl rfl (zac hu)) rfl, iaQ rfl (liQ rfl rfl rfl (zac hu)) rfl, iaQ rfl (zae rfl) rfl, iaQ rfl (zae rfl) rfl, iaQ rfl (riQ 1 rfl rfl rfl rfl (zac hv)) rfl, iaQ rfl (liQ rfl rfl rfl (zac hv)) rfl, .inl ⟨rfl, zcq (zbo rfl rfl rfl rfl) hb10⟩, iaQ rfl (zae rfl) rfl, iaQ rfl (zae rfl) rfl, trivial⟩
      simp only [List.drop_succ_cons, List.drop_zero]
      refine enQ 1 rfl ?_
      exact zcb false ⟨fun _ => by first | omega | contradiction, fun _ => by first | contradiction | (exact ⟨by omega, fun _ => by omega⟩)⟩ (saQ rfl) (pfQ rfl)
     have hb9p : ¬ ((i : Int) < (xs.length : Int)) := of_decide_eq_false hb9
     refine zbl 21 [[], [], [1], [0, 2], [3], [4], [4], [4, 6], [4, 5, 7], [4, 8], [9], [9], [9], [9], [9], [9], [9], [9], [9], [4, 9, 18], [4, 19]] [45, 46, 47, 48, 49, 50, 51, 52, 53, 54, 55, 56, 57, 58, 59, 60, 61, 62, 63, 64, 65] [.int .i64 (j : Int), v, .int .i64 (ys.length : Int), .bool false, .bool false, .int .i64 (i : Int), u, .int .i64 (xs.length : Int), .bool false, .bool false, undef, undef, undef, undef, undef, undef, undef, undef, undef, .bool false, .bool false] (by kernel_rfl) rfl ?_ ?_
     ·
      exact ⟨iaQ rfl (zae rfl) rfl, iaQ rfl (zae rfl) rfl, iaQ rfl (lnQ rfl rfl rfl (zac hv)) rfl, .inl ⟨rfl, zcq (zbo rfl rfl rfl rfl) hb8⟩, iaQ rfl (zae rfl) rfl, iaQ rfl (zae rfl) rfl, iaQ rfl (zae rfl) rfl, iaQ rfl (lnQ rfl rfl rfl (zac hu)) rfl, .inl ⟨rfl, zcq (zbo rfl rfl rfl rfl) hb9⟩, iaQ rfl (zae rfl) rfl, .inr ⟨rfl, rfl⟩, .inr ⟨rfl, rfl⟩, .inr ⟨rfl, rfl⟩, .inr ⟨rfl, rfl⟩, .inr ⟨rfl, rfl⟩, .inr ⟨rfl, rfl⟩, .inr ⟨rfl, rfl⟩, .inr ⟨rfl, rfl⟩, .inr ⟨rfl, rfl⟩, iaQ rfl (zae rfl) rfl, iaQ rfl (zae rfl) rfl, trivial⟩
     simp only [List.drop_succ_cons, List.drop_zero]
     refine enQ 1 rfl ?_
     exact zcb false ⟨fun _ => by first | omega | contradiction, fun _ => by first | contradiction | (exact ⟨by omega, fun _ => by omega⟩)⟩ (saQ rfl) (pfQ rfl)
    intro b4 hm11
    obtain ⟨hm4, hm5⟩ := hm11
    refine zgf rfl (fun h12 => ?_) (fun h12 => ?_)
    ·
     refine zaa (reQ 3 rfl ?_)
     have hlt4 := hm4 (by assumption)
     refine hvQ rfl (riQ 1 rfl rfl rfl rfl (zac hu)) (hvQ rfl (liQ rfl rfl rfl (zac hu)) ?_)
     refine zea rfl (zaw (z := .int .i64 0) (s := 1) (cs := ([xs.getD i 0].map (Value.int .i64))) rfl Try.underlying26 rfl (by decide) rfl (by kernel_rfl) rfl) ?_
     intro g13
     refine zck (i := 1) (z := .int .i64 0) (bytes := 8) rfl rfl rfl rfl Try.underlying26 (by kernel_rfl) rfl rfl rfl rfl (zad 0 rfl) (zca _) (by first | omega | (simp; done) | (simp; omega)) (zcc os ([xs.getD i 0])) (zcv os ([xs.getD i 0])) (fun _ => rfl) ?_
     intro v14
     refine zbb 1 rfl (reQ 1 rfl (hvQ rfl (vaQ rfl rfl rfl) (enQ 1 rfl (zap (zap ?_)))))
     exact zbe (i + 1) j v14 (os ++ ([xs.getD i 0])) ⟨by omega, by omega, by rw [List.length_append, List.length_singleton]; omega, hux.a (by omega)⟩ (by omega) (saQ rfl) (slQ [1] rfl)
    refine zfn (α := Bool) (fun b7 => [rowE 3 1 gu os.length (os.map (Value.int .i64))]) (fun b7 => [(0, u), (1, v), (4, .slice none 0 0), (5, .bool false), (6, gu), (7, .int .i64 (i : Int)), (8, .int .i64 (j : Int)), (17, .bool false), (28, .bool true), (31, .bool false), (44, .bool b4), (75, .bool b7)]) (fun b7 => (b7 = false → i < xs.length ∧ xs.getD i 0 ≤ ys.getD j 0)) ?_ ?_
    ·
     obtain ⟨hlt5, hge5⟩ := hm5 (by assumption)
     rcases Bool.eq_false_or_eq_true ((i : Int) == (xs.length : Int)) with hb15 | hb15
     ·
      have hb15p : (i : Int) = (xs.length : Int) := beq_iff_eq.1 hb15
      obtain ⟨hlt5, hge5⟩ := hm5 (by assumption)
      refine zbl 15 [[], [], [1], [0, 2], [3], [4], [4], [4], [4], [4], [4], [4], [4], [4], [4, 13]] [76, 77, 78, 79, 80, 81, 82, 83, 84, 85, 86, 87, 88, 89, 90] [.int .i64 (i : Int), u, .int .i64 (xs.length : Int), .bool true, .bool true, undef, undef, undef, undef, undef, undef, undef, undef, undef, .bool true] (by kernel_rfl) rfl ?_ ?_
      ·
       exact ⟨iaQ rfl (zae rfl) rfl, iaQ rfl (zae rfl) rfl, iaQ rfl (lnQ rfl rfl rfl (zac hu)) rfl, .inl ⟨rfl, zcq (zbo rfl rfl rfl rfl) hb15⟩, iaQ rfl (zae rfl) rfl, .inr ⟨rfl, rfl⟩, .inr ⟨rfl, rfl⟩, .inr ⟨rfl, rfl⟩, .inr ⟨rfl, rfl⟩, .inr ⟨rfl, rfl⟩, .inr ⟨rfl, rfl⟩, .inr ⟨rfl, rfl⟩, .inr ⟨rfl, rfl⟩, .inr ⟨rfl, rfl⟩, iaQ rfl (zae rfl) rfl, trivial⟩
      simp only [List.drop_succ_cons, List.drop_zero]
      refine enQ 1 rfl ?_
      exact zcb true (fun _ => by first | contradiction | (exact ⟨by omega, by omega⟩)) (saQ rfl) (pfQ rfl)
     have hb15p : (i : Int) ≠ (xs.length : Int) := beq_eq_false_iff_ne.1 hb15
     obtain ⟨hlt5, hge5⟩ := hm5 (by assumption)
     rcases Bool.eq_false_or_eq_true (decide (ys.getD j 0 < xs.getD i 0)) with hb16 | hb16
     ·
      have hb16p : ys.getD j 0 < xs.getD i 0 := of_decide_eq_true hb16
      obtain ⟨hlt5, hge5⟩ := hm5 (by assumption)
      refine zbl 15 [[], [], [1], [0, 2], [3], [4], [4], [4, 5, 6], [4, 7], [4], [4], [4, 9, 10], [4, 11], [4, 8, 12], [4, 13]] [76, 77, 78, 79, 80, 81, 82, 83, 84, 85, 86, 87, 88, 89, 90] [.int .i64 (i : Int), u, .int .i64 (xs.length : Int), .bool false, .bool false, v, .int .i64 (j : Int), elP v (((j : Int)).toNat * 1), .int .i64 (ys.getD j 0), u, .int .i64 (i : Int), elP u (((i : Int)).toNat * 1), .int .i64 (xs.getD i 0), .bool true, .bool true] (by kernel_rfl) rfl ?_ ?_
      ·
       exact ⟨iaQ rfl (zae rfl) rfl, iaQ rfl (zae rfl) rfl, iaQ rfl (lnQ rfl rfl rfl (zac hu)) rfl, .inl ⟨rfl, zcq (zbo rfl rfl rfl rfl) hb15⟩, iaQ rfl (zae rfl) rfl, iaQ rfl (zae rfl) rfl, iaQ rfl (zae rfl) rfl, iaQ rfl (riQ 1 rfl rfl rfl rfl (zac hv)) rfl, iaQ rfl (liQ rfl rfl rfl (zac hv)) rfl, iaQ rfl (zae rfl) rfl, iaQ rfl (zae rfl) rfl, iaQ rfl (riQ 1 rfl rfl rfl rfl (zac hu)) rfl, iaQ rfl (liQ rfl rfl rfl (zac hu)) rfl, .inl ⟨rfl, zcq (zbo rfl rfl rfl rfl) hb16⟩, iaQ rfl (zae rfl) rfl, trivial⟩
      simp only [List.drop_succ_cons, List.drop_zero]
      refine enQ 1 rfl ?_
      exact zcb true (fun _ => by first | contradiction | (exact ⟨by omega, by omega⟩)) (saQ rfl) (pfQ rfl)
     have hb16p : ¬ (ys.getD j 0 < xs.getD i 0) := of_decide_eq_false hb16
     obtain ⟨hlt5, hge5⟩ := hm5 (by assumption)
     refine zbl 15 [[], [], [1], [0, 2], [3], [4], [4], [4, 5, 6], [4, 7], [4], [4], [4, 9, 10], [4, 11], [4, 8, 12], [4, 13]] [76, 77, 78, 79, 80, 81, 82, 83, 84, 85, 86, 87, 88, 89, 90] [.int .i64 (i : Int), u, .int .i64 (xs.length : Int), .bool false, .bool false, v, .int .i64 (j : Int), elP v (((j : Int)).toNat * 1), .int .i64 (ys.getD j 0), u, .int .i64 (i : Int), elP u (((i : Int)).toNat * 1), .int .i64 (xs.getD i 0), .bool false, .bool false] (by kernel_rfl) rfl ?_ ?_
     ·
      exact ⟨iaQ rfl (zae rfl) rfl, iaQ rfl (zae rfl) rfl, iaQ rfl (lnQ rfl rfl rfl (zac hu)) rfl, .inl ⟨rfl, zcq (zbo rfl rfl rfl rfl) hb15⟩, iaQ rfl (zae rfl) rfl, iaQ rfl (zae rfl) rfl, iaQ rfl (zae rfl) rfl, iaQ rfl (riQ 1 rfl rfl rfl rfl (zac hv)) rfl, iaQ rfl (liQ rfl rfl rfl (zac hv)) rfl, iaQ rfl (zae rfl) rfl, iaQ rfl (zae rfl) rfl, iaQ rfl (riQ 1 rfl rfl rfl rfl (zac hu)) rfl, iaQ rfl (liQ rfl rfl rfl (zac hu)) rfl, .inl ⟨rfl, zcq (zbo rfl rfl rfl rfl) hb16⟩, iaQ rfl (zae rfl) rfl, trivial⟩
     simp only [List.drop_succ_cons, List.drop_zero]
     refine enQ 1 rfl ?_
     exact zcb false (fun _ => by first | contradiction | (exact ⟨by omega, by omega⟩)) (saQ rfl) (pfQ rfl)
    intro b7 hm17
    have hm7 := hm17
    refine zgf rfl (fun h18 => ?_) (fun h18 => ?_)
    ·
     refine zaa (reQ 3 rfl ?_)
     obtain ⟨hlt6, hge6⟩ := hm5 (by assumption)
     refine hvQ rfl (riQ 1 rfl rfl rfl rfl (zac hv)) (hvQ rfl (liQ rfl rfl rfl (zac hv)) ?_)
     refine zea rfl (zaw (z := .int .i64 0) (s := 1) (cs := ([ys.getD j 0].map (Value.int .i64))) rfl Try.underlying26 rfl (by decide) rfl (by kernel_rfl) rfl) ?_
     intro g19
     refine zck (i := 1) (z := .int .i64 0) (bytes := 8) rfl rfl rfl rfl Try.underlying26 (by kernel_rfl) rfl rfl rfl rfl (zad 0 rfl) (zca _) (by first | omega | (simp; done) | (simp; omega)) (zcc os ([ys.getD j 0])) (zcv os ([ys.getD j 0])) (fun _ => rfl) ?_
     intro v20
     refine zbb 1 rfl (reQ 1 rfl (hvQ rfl (vaQ rfl rfl rfl) (enQ 1 rfl (zap (zap ?_)))))
     exact zbe i (j + 1) v20 (os ++ ([ys.getD j 0])) ⟨by omega, by omega, by rw [List.length_append, List.length_singleton]; omega, hux.b (by omega)⟩ (by omega) (saQ rfl) (slQ [1] rfl)
    refine zaa (reQ 3 rfl ?_)
    obtain ⟨hlt6, hge6⟩ := hm5 (by assumption)
    obtain ⟨hlt7, hle7⟩ := hm7 (by assumption)
    have hge7 := hge6 hlt7
    refine hvQ rfl (riQ 1 rfl rfl rfl rfl (zac hu)) (hvQ rfl (liQ rfl rfl rfl (zac hu)) ?_)
    refine zea rfl (zaw (z := .int .i64 0) (s := 1) (cs := ([xs.getD i 0].map (Value.int .i64))) rfl Try.underlying26 rfl (by decide) rfl (by kernel_rfl) rfl) ?_
    intro g21
    refine zck (i := 1) (z := .int .i64 0) (bytes := 8) rfl rfl rfl rfl Try.underlying26 (by kernel_rfl) rfl rfl rfl rfl (zad 0 rfl) (zca _) (by first | omega | (simp; done) | (simp; omega)) (zcc os ([xs.getD i 0])) (zcv os ([xs.getD i 0])) (fun _ => rfl) ?_
    intro v22
    refine zbb 1 rfl (zaa (reQ 1 rfl (hvQ rfl (vaQ rfl rfl rfl) (zbb 1 rfl (reQ 1 rfl ?_)))))
    refine hvQ rfl (vaQ rfl rfl rfl) (enQ 1 rfl (zap (zap ?_)))
    exact zbe (i + 1) (j + 1) v22 (os ++ ([xs.getD i 0])) ⟨by omega, by omega, by rw [List.length_append, List.length_singleton]; omega, hux.ab (by omega) (by omega) (by omega)⟩ (by omega) (saQ rfl) (slQ [1] rfl)
   refine zab 3 rfl (hvQ rfl (lnQ rfl rfl rfl (zac hv)) ?_)
   refine zbr rfl rfl rfl rfl rfl rfl (fun h23 => ?_) (fun h23 => ?_)
   ·
    refine zbb 1 rfl (zaq rfl (zcw (zba (zaa (zaa (reQ 1 rfl (hvQ rfl (lnQ rfl rfl rfl (zad 0 rfl)) ?_)))))))
    refine zcj rfl rfl rfl rfl rfl rfl (fun h24 => ?_) (fun h24 => ?_)
    ·
     refine ntQ (zaq rfl (srQ ?_))
     refine zea rfl (zcl (s := 1) rfl Try.underlying26 rfl) ?_
     intro g25
     refine zbb 2 rfl ?_
     refine zax (zam ?_)
     refine zat (zam ?_)
     refine zat (zam ?_)
     exact zdl (rs := [.tmp 4, .tmp 5]) (vs := [.slice (some ⟨g25, 0, none⟩) 0 0, .bool false]) (post := [rowE 3 1 (.slice (some ⟨g25, 0, none⟩) 0 0) 0 ([])]) rfl ⟨rfl, rfl, trivial⟩ rfl (slQ [0] rfl) ⟨_, [], false, rfl, rfl, by simp, fun h => absurd h (by decide)⟩
    refine ntQ (zao rfl (zcw (zba ?_)))
    refine zfn (α := Bool) (fun b4 => [rowE 3 1 gu os.length (os.map (Value.int .i64))]) (fun b4 => [(0, u), (1, v), (4, .slice none 0 0), (5, .bool false), (6, gu), (7, .int .i64 (i : Int)), (8, .int .i64 (j : Int)), (17, .bool false), (28, .bool true), (31, .bool false), (44, .bool b4)]) (fun b4 => (b4 = true → i < xs.length) ∧ (b4 = false → j < ys.length ∧ (i < xs.length → ys.getD j 0 ≤ xs.getD i 0))) ?_ ?_
    ·
     rcases Bool.eq_false_or_eq_true ((j : Int) == (ys.length : Int)) with hb26 | hb26
     ·
      have hb26p : (j : Int) = (ys.length : Int) := beq_iff_eq.1 hb26
      refine zbl 21 [[], [], [1], [0, 2], [3], [4], [4], [4], [4], [4], [9], [9], [9], [9], [9], [9], [9], [9], [9], [4], [4, 19]] [45, 46, 47, 48, 49, 50, 51, 52, 53, 54, 55, 56, 57, 58, 59, 60, 61, 62, 63, 64, 65] [.int .i64 (j : Int), v, .int .i64 (ys.length : Int), .bool true, .bool true, undef, undef, undef, undef, undef, undef, undef, undef, undef, undef, undef, undef, undef, undef, undef, .bool true] (by kernel_rfl) rfl ?_ ?_
      ·
       exact ⟨iaQ rfl (zae rfl) rfl, iaQ rfl (zae rfl) rfl, iaQ rfl (lnQ rfl rfl rfl (zac hv)) rfl, .inl ⟨rfl, zcq (zbo rfl rfl rfl rfl) hb26⟩, iaQ rfl (zae rfl) rfl, .inr ⟨rfl, rfl⟩, .inr ⟨rfl, rfl⟩, .inr ⟨rfl, rfl⟩, .inr ⟨rfl, rfl⟩, .inr ⟨rfl, rfl⟩, .inr ⟨rfl, rfl⟩, .inr ⟨rfl, rfl⟩, .inr ⟨rfl, rfl⟩, .inr ⟨rfl, rfl⟩, .inr ⟨rfl, rfl⟩, .inr ⟨rfl, rfl⟩, .inr ⟨rfl, rfl⟩, .inr ⟨rfl, rfl⟩, .inr ⟨rfl, rfl⟩, .inr ⟨rfl, rfl⟩, iaQ rfl (zae rfl) rfl, trivial⟩
      simp only [List.drop_succ_cons, List.drop_zero]
      refine enQ 1 rfl ?_
      exact zcb true ⟨fun _ => by first | omega | contradiction, fun _ => by first | contradiction | (exact ⟨by omega, fun _ => by omega⟩)⟩ (saQ rfl) (pfQ rfl)
     have hb26p : (j : Int) ≠ (ys.length : Int) := beq_eq_false_iff_ne.1 hb26
     rcases Bool.eq_false_or_eq_true (decide ((i : Int) < (xs.length : Int))) with hb27 | hb27
     ·
      have hb27p : (i : Int) < (xs.length : Int) := of_decide_eq_true hb27
      rcases Bool.eq_false_or_eq_true (decide (xs.getD i 0 < ys.getD j 0)) with hb28 | hb28
      ·
       have hb28p : xs.getD i 0 < ys.getD j 0 := of_decide_eq_true hb28
       refine zbl 21 [[], [], [1], [0, 2], [3], [4], [4], [4, 6], [4, 5, 7], [4, 8], [9], [9], [9, 10, 11], [9, 12], [9], [9], [9, 14, 15], [9, 16], [9, 13, 17], [4, 9, 18], [4, 19]] [45, 46, 47, 48, 49, 50, 51, 52, 53, 54, 55, 56, 57, 58, 59, 60, 61, 62, 63, 64, 65] [.int .i64 (j : Int), v, .int .i64 (ys.length : Int), .bool false, .bool false, .int .i64 (i : Int), u, .int .i64 (xs.length : Int), .bool true, .bool true, u, .int .i64 (i : Int), elP u (((i : Int)).toNat * 1), .int .i64 (xs.getD i 0), v, .int .i64 (j : Int), elP v (((j : Int)).toNat * 1), .int .i64 (ys.getD j 0), .bool true, .bool true, .bool true] (by kernel_rfl) rfl ?_ ?_
       ·
        exact ⟨iaQ rfl (zae rfl) rfl, iaQ rfl (zae rfl) rfl, iaQ rfl (lnQ rfl rfl rfl (zac hv)) rfl, .inl ⟨rfl, zcq (zbo rfl rfl rfl rfl) hb26⟩, iaQ rfl (zae rfl) rfl, iaQ rfl (zae rfl) rfl, iaQ rfl (zae rfl) rfl, iaQ rfl (lnQ rfl rfl rfl (zac hu)) rfl, .inl ⟨rfl, zcq (zbo rfl rfl rfl rfl) hb27⟩, iaQ rfl (zae rfl) rfl, iaQ rfl (zae rfl) rfl, iaQ rfl (zae rfl) rfl, iaQ rfl (riQ 1 rfl rfl rfl rfl (zac hu)) rfl, iaQ rfl (liQ rfl rfl rfl (zac hu)) rfl, iaQ rfl (zae rfl) rfl, iaQ rfl (zae rfl) rfl, iaQ rfl (riQ 1 rfl rfl rfl rfl (zac hv)) rfl, iaQ rfl (liQ rfl rfl rfl (zac hv)) rfl, .inl ⟨rfl, zcq (zbo rfl rfl rfl rfl) hb28⟩, iaQ rfl (zae rfl) rfl, iaQ rfl (zae rfl) rfl, trivial⟩
       simp only [List.drop_succ_cons, List.drop_zero]
       refine enQ 1 rfl ?_
       exact zcb true ⟨fun _ => by first | omega | contradiction, fun _ => by first | contradiction | (exact ⟨by omega, fun _ => by omega⟩)⟩ (saQ rfl) (pfQ rfl)
      have hb28p : ¬ (xs.getD i 0 < ys.getD j 0) := of_decide_eq_false hb28
      refine zbl 21 [[], [], [1], [0, 2], [3], [4], [4], [4, 6], [4, 5, 7], [4, 8], [9], [9], [9, 10, 11], [9, 12], [9], [9], [9, 14, 15], [9, 16], [9, 13, 17], [4, 9, 18], [4, 19]] [45, 46, 47, 48, 49, 50, 51, 52, 53, 54, 55, 56, 57, 58, 59, 60, 61, 62, 63, 64, 65] [.int .i64 (j : Int), v, .int .i64 (ys.length : Int), .bool false, .bool false, .int .i64 (i : Int), u, .int .i64 (xs.length : Int), .bool true, .bool true, u, .int .i64 (i : Int), elP u (((i : Int)).toNat * 1), .int .i64 (xs.getD i 0), v, .int .i64 (j : Int), elP v (((j : Int)).toNat * 1), .int .i64 (ys.getD j 0), .bool false, .bool false, .bool false] (by kernel_rfl) rfl ?_ ?_
      ·
       exact ⟨iaQ rfl (zae rfl) rfl, iaQ rfl (zae rfl) rfl, iaQ rfl (lnQ rfl rfl rfl (zac hv)) rfl, .inl ⟨rfl, zcq (zbo rfl rfl rfl rfl) hb26⟩, iaQ rfl (zae rfl) rfl, iaQ rfl (zae rfl) rfl, iaQ rfl (zae rfl) rfl, iaQ rfl (lnQ rfl rfl rfl (zac hu)) rfl, .inl ⟨rfl, zcq (zbo rfl rfl rfl rfl) hb27⟩, iaQ rfl (zae rfl) rfl, iaQ rfl (zae rfl) rfl, iaQ rfl (zae rfl) rfl, iaQ rfl (riQ 1 rfl rfl rfl rfl (zac hu)) rfl, iaQ rfl (liQ rfl rfl rfl (zac hu)) rfl, iaQ rfl (zae rfl) rfl, iaQ rfl (zae rfl) rfl, iaQ rfl (riQ 1 rfl rfl rfl rfl (zac hv)) rfl, iaQ rfl (liQ rfl rfl rfl (zac hv)) rfl, .inl ⟨rfl, zcq (zbo rfl rfl rfl rfl) hb28⟩, iaQ rfl (zae rfl) rfl, iaQ rfl (zae rfl) rfl, trivial⟩
      simp only [List.drop_succ_cons, List.drop_zero]
      refine enQ 1 rfl ?_
      exact zcb false ⟨fun _ => by first | omega | contradiction, fun _ => by first | contradiction | (exact ⟨by omega, fun _ => by omega⟩)⟩ (saQ rfl) (pfQ rfl)
     have hb27p : ¬ ((i : Int) < (xs.length : Int)) := of_decide_eq_false hb27
     refine zbl 21 [[], [], [1], [0, 2], [3], [4], [4], [4, 6], [4, 5, 7], [4, 8], [9], [9], [9], [9], [9], [9], [9], [9], [9], [4, 9, 18], [4, 19]] [45, 46, 47, 48, 49, 50, 51, 52, 53, 54, 55, 56, 57, 58, 59, 60, 61, 62, 63, 64, 65] [.int .i64 (j : Int), v, .int .i64 (ys.length : Int), .bool false, .bool false, .int .i64 (i : Int), u, .int .i64 (xs.length : Int), .bool false, .bool false, undef, undef, undef, undef, undef, undef, undef, undef, undef, .bool false, .bool false] (by kernel_rfl) rfl ?_ ?_
     ·
      exact ⟨iaQ rfl (zae rfl) rfl, iaQ rfl (zae rfl) rfl, iaQ rfl (lnQ rfl rfl rfl (zac hv)) rfl, .inl ⟨rfl, zcq (zbo rfl rfl rfl rfl) hb26⟩, iaQ rfl (zae rfl) rfl, iaQ rfl (zae rfl) rfl, iaQ rfl (zae rfl) rfl, iaQ rfl (lnQ rfl rfl rfl (zac hu)) rfl, .inl ⟨rfl, zcq (zbo rfl rfl rfl rfl) hb27⟩, iaQ rfl (zae rfl) rfl, .inr ⟨rfl, rfl⟩, .inr ⟨rfl, rfl⟩, .inr ⟨rfl, rfl⟩, .inr ⟨rfl, rfl⟩, .inr ⟨rfl, rfl⟩, .inr ⟨rfl, rfl⟩, .inr ⟨rfl, rfl⟩, .inr ⟨rfl, rfl⟩, .inr ⟨rfl, rfl⟩, iaQ rfl (zae rfl) rfl, iaQ rfl (zae rfl) rfl, trivial⟩
     simp only [List.drop_succ_cons, List.drop_zero]
     refine enQ 1 rfl ?_
     exact zcb false ⟨fun _ => by first | omega | contradiction, fun _ => by first | contradiction | (exact ⟨by omega, fun _ => by omega⟩)⟩ (saQ rfl) (pfQ rfl)
    intro b4 hm29
    obtain ⟨hm4, hm5⟩ := hm29
    refine zgf rfl (fun h30 => ?_) (fun h30 => ?_)
    ·
     refine zaa (reQ 3 rfl ?_)
     have hlt4 := hm4 (by assumption)
     refine hvQ rfl (riQ 1 rfl rfl rfl rfl (zac hu)) (hvQ rfl (liQ rfl rfl rfl (zac hu)) ?_)
     refine zea rfl (zaw (z := .int .i64 0) (s := 1) (cs := ([xs.getD i 0].map (Value.int .i64))) rfl Try.underlying26 rfl (by decide) rfl (by kernel_rfl) rfl) ?_
     intro g31
     refine zck (i := 1) (z := .int .i64 0) (bytes := 8) rfl rfl rfl rfl Try.underlying26 (by kernel_rfl) rfl rfl rfl rfl (zad 0 rfl) (zca _) (by first | omega | (simp; done) | (simp; omega)) (zcc os ([xs.getD i 0])) (zcv os ([xs.getD i 0])) (fun _ => rfl) ?_
     intro v32
     refine zbb 1 rfl (reQ 1 rfl (hvQ rfl (vaQ rfl rfl rfl) (enQ 1 rfl (zap (zap ?_)))))
     exact zbe (i + 1) j v32 (os ++ ([xs.getD i 0])) ⟨by omega, by omega, by rw [List.length_append, List.length_singleton]; omega, hux.a (by omega)⟩ (by omega) (saQ rfl) (slQ [1] rfl)
    refine zfn (α := Bool) (fun b7 => [rowE 3 1 gu os.length (os.map (Value.int .i64))]) (fun b7 => [(0, u), (1, v), (4, .slice none 0 0), (5, .bool false), (6, gu), (7, .int .i64 (i : Int)), (8, .int .i64 (j : Int)), (17, .bool false), (28, .bool true), (31, .bool false), (44, .bool b4), (75, .bool b7)]) (fun b7 => (b7 = false → i < xs.length ∧ xs.getD i 0 ≤ ys.getD j 0)) ?_ ?_
    ·
     obtain ⟨hlt5, hge5⟩ := hm5 (by assumption)
     rcases Bool.eq_false_or_eq_true ((i : Int) == (xs.length : Int)) with hb33 | hb33
     ·
      have hb33p : (i : Int) = (xs.length : Int) := beq_iff_eq.1 hb33
      obtain ⟨hlt5, hge5⟩ := hm5 (by assumption)
      refine zbl 15 [[], [], [1], [0, 2], [3], [4], [4], [4], [4], [4], [4], [4], [4], [4], [4, 13]] [76, 77, 78, 79, 80, 81, 82, 83, 84, 85, 86, 87, 88, 89, 90] [.int .i64 (i : Int), u, .int .i64 (xs.length : Int), .bool true, .bool true, undef, undef, undef, undef, undef, undef, undef, undef, undef, .bool true] (by kernel_rfl) rfl ?_ ?_
      ·
       exact ⟨iaQ rfl (zae rfl) rfl, iaQ rfl (zae rfl) rfl, iaQ rfl (lnQ rfl rfl rfl (zac hu)) rfl, .inl ⟨rfl, zcq (zbo rfl rfl rfl rfl) hb33⟩, iaQ rfl (zae rfl) rfl, .inr ⟨rfl, rfl⟩, .inr ⟨rfl, rfl⟩, .inr ⟨rfl, rfl⟩, .inr ⟨rfl, rfl⟩, .inr ⟨rfl, rfl⟩, .inr ⟨rfl, rfl⟩, .inr ⟨rfl, rfl⟩, .inr ⟨rfl, rfl⟩, .inr ⟨rfl, rfl⟩, iaQ rfl (zae rfl) rfl, trivial⟩
      simp only [List.drop_succ_cons, List.drop_zero]
      refine enQ 1 rfl ?_
      exact zcb true (fun _ => by first | contradiction | (exact ⟨by omega, by omega⟩)) (saQ rfl) (pfQ rfl)
     have hb33p : (i : Int) ≠ (xs.length : Int) := beq_eq_false_iff_ne.1 hb33
     obtain ⟨hlt5, hge5⟩ := hm5 (by assumption)
     rcases Bool.eq_false_or_eq_true (decide (ys.getD j 0 < xs.getD i 0)) with hb34 | hb34
     ·
      have hb34p : ys.getD j 0 < xs.getD i 0 := of_decide_eq_true hb34
      obtain ⟨hlt5, hge5⟩ := hm5 (by assumption)
      refine zbl 15 [[], [], [1], [0, 2], [3], [4], [4], [4, 5, 6], [4, 7], [4], [4], [4, 9, 10], [4, 11], [4, 8, 12], [4, 13]] [76, 77, 78, 79, 80, 81, 82, 83, 84, 85, 86, 87, 88, 89, 90] [.int .i64 (i : Int), u, .int .i64 (xs.length : Int), .bool false, .bool false, v, .int .i64 (j : Int), elP v (((j : Int)).toNat * 1), .int .i64 (ys.getD j 0), u, .int .i64 (i : Int), elP u (((i : Int)).toNat * 1), .int .i64 (xs.getD i 0), .bool true, .bool true] (by kernel_rfl) rfl ?_ ?_
      ·
       exact ⟨iaQ rfl (zae rfl) rfl, iaQ rfl (zae rfl) rfl, iaQ rfl (lnQ rfl rfl rfl (zac hu)) rfl, .inl ⟨rfl, zcq (zbo rfl rfl rfl rfl) hb33⟩, iaQ rfl (zae rfl) rfl, iaQ rfl (zae rfl) rfl, iaQ rfl (zae rfl) rfl, iaQ rfl (riQ 1 rfl rfl rfl rfl (zac hv)) rfl, iaQ rfl (liQ rfl rfl rfl (zac hv)) rfl, iaQ rfl (zae rfl) rfl, iaQ rfl (zae rfl) rfl, iaQ rfl (riQ 1 rfl rfl rfl rfl (zac hu)) rfl, iaQ rfl (liQ rfl rfl rfl (zac hu)) rfl, .inl ⟨rfl, zcq (zbo rfl rfl rfl rfl) hb34⟩, iaQ rfl (zae rfl) rfl, trivial⟩
      simp only [List.drop_succ_cons, List.drop_zero]
      refine enQ 1 rfl ?_
      exact zcb true (fun _ => by first | contradiction | (exact ⟨by omega, by omega⟩)) (saQ rfl) (pfQ rfl)
     have hb34p : ¬ (ys.getD j 0 < xs.getD i 0) := of_decide_eq_false hb34
     obtain ⟨hlt5, hge5⟩ := hm5 (by assumption)
     refine zbl 15 [[], [], [1], [0, 2], [3], [4], [4], [4, 5, 6], [4, 7], [4], [4], [4, 9, 10], [4, 11], [4, 8, 12], [4, 13]] [76, 77, 78, 79, 80, 81, 82, 83, 84, 85, 86, 87, 88, 89, 90] [.int .i64 (i : Int), u, .int .i64 (xs.length : Int), .bool false, .bool false, v, .int .i64 (j : Int), elP v (((j : Int)).toNat * 1), .int .i64 (ys.getD j 0), u, .int .i64 (i : Int), elP u (((i : Int)).toNat * 1), .int .i64 (xs.getD i 0), .bool false, .bool false] (by kernel_rfl) rfl ?_ ?_
     ·
      exact ⟨iaQ rfl (zae rfl) rfl, iaQ rfl (zae rfl) rfl, iaQ rfl (lnQ rfl rfl rfl (zac hu)) rfl, .inl ⟨rfl, zcq (zbo rfl rfl rfl rfl) hb33⟩, iaQ rfl (zae rfl) rfl, iaQ rfl (zae rfl) rfl, iaQ rfl (zae rfl) rfl, iaQ rfl (riQ 1 rfl rfl rfl rfl (zac hv)) rfl, iaQ rfl (liQ rfl rfl rfl (zac hv)) rfl, iaQ rfl (zae rfl) rfl, iaQ rfl (zae rfl) rfl, iaQ rfl (riQ 1 rfl rfl rfl rfl (zac hu)) rfl, iaQ rfl (liQ rfl rfl rfl (zac hu)) rfl, .inl ⟨rfl, zcq (zbo rfl rfl rfl rfl) hb34⟩, iaQ rfl (zae rfl) rfl, trivial⟩
     simp only [List.drop_succ_cons, List.drop_zero]
     refine enQ 1 rfl ?_
     exact zcb false (fun _ => by first | contradiction | (exact ⟨by omega, by omega⟩)) (saQ rfl) (pfQ rfl)
    intro b7 hm35
    have hm7 := hm35
    refine zgf rfl (fun h36 => ?_) (fun h36 => ?_)
    ·
     refine zaa (reQ 3 rfl ?_)
     obtain ⟨hlt6, hge6⟩ := hm5 (by assumption)
     refine hvQ rfl (riQ 1 rfl rfl rfl rfl (zac hv)) (hvQ rfl (liQ rfl rfl rfl (zac hv)) ?_)
     refine zea rfl (zaw (z := .int .i64 0) (s := 1) (cs := ([ys.getD j 0].map (Value.int .i64))) rfl Try.underlying26 rfl (by decide) rfl (by kernel_rfl) rfl) ?_
     intro g37
     refine zck (i := 1) (z := .int .i64 0) (bytes := 8) rfl rfl rfl rfl Try.underlying26 (by kernel_rfl) rfl rfl rfl rfl (zad 0 rfl) (zca _) (by first | omega | (simp; done) | (simp; omega)) (zcc os ([ys.getD j 0])) (zcv os ([ys.getD j 0])) (fun _ => rfl) ?_
     intro v38
     refine zbb 1 rfl (reQ 1 rfl (hvQ rfl (vaQ rfl rfl rfl) (enQ 1 rfl (zap (zap ?_)))))
     exact zbe i (j + 1) v38 (os ++ ([ys.getD j 0])) ⟨by omega, by omega, by rw [List.length_append, List.length_singleton]; omega, hux.b (by omega)⟩ (by omega) (saQ rfl) (slQ [1] rfl)
    refine zaa (reQ 3 rfl ?_)
    obtain ⟨hlt6, hge6⟩ := hm5 (by assumption)
    obtain ⟨hlt7, hle7⟩ := hm7 (by assumption)
    have hge7 := hge6 hlt7
    refine hvQ rfl (riQ 1 rfl rfl rfl rfl (zac hu)) (hvQ rfl (liQ rfl rfl rfl (zac hu)) ?_)
    refine zea rfl (zaw (z := .int .i64 0) (s := 1) (cs := ([xs.getD i 0].map (Value.int .i64))) rfl Try.underlying26 rfl (by decide) rfl (by kernel_rfl) rfl) ?_
    intro g39
    refine zck (i := 1) (z := .int .i64 0) (bytes := 8) rfl rfl rfl rfl Try.underlying26 (by kernel_rfl) rfl rfl rfl rfl (zad 0 rfl) (zca _) (by first | omega | (simp; done) | (simp; omega)) (zcc os ([xs.getD i 0])) (zcv os ([xs.getD i 0])) (fun _ => rfl) ?_
    intro v40
    refine zbb 1 rfl (zaa (reQ 1 rfl (hvQ rfl (vaQ rfl rfl rfl) (zbb 1 rfl (reQ 1 rfl ?_)))))
    refine hvQ rfl (vaQ rfl rfl rfl) (enQ 1 rfl (zap (zap ?_)))
    exact zbe (i + 1) (j + 1) v40 (os ++ ([xs.getD i 0])) ⟨by omega, by omega, by rw [List.length_append, List.length_singleton]; omega, hux.ab (by omega) (by omega) (by omega)⟩ (by omega) (saQ rfl) (slQ [1] rfl)
   refine zbb 1 rfl (zao rfl ?_)
   refine zbi (zep ?_)
   refine zal (zaj (zbh 3 rfl ?_))
   exact zax (zdl (rs := [.tmp 4, .tmp 5]) (vs := [gu, .bool true]) (post := [rowE 3 1 gu os.length (os.map (Value.int .i64))]) rfl ⟨rfl, rfl, trivial⟩ rfl (pfQ rfl) ⟨_, os, true, rfl, rfl, hol, fun _ => by rw [show i = xs.length by omega, show j = ys.length by omega] at hux; exact hux.done⟩)
  refine zbb 2 rfl (zaq rfl (zbh 3 rfl ?_))
  refine zax (zam ?_)
  exact zdl (rs := [.tmp 4, .tmp 5]) (vs := [.slice (some ⟨g1, 0, none⟩) 0 0, .bool false]) (post := [rowE 3 1 (.slice (some ⟨g1, 0, none⟩) 0 0) 0 ([])]) rfl ⟨rfl, rfl, trivial⟩ rfl (pfQ rfl) ⟨_, [], false, rfl, rfl, by simp, fun h => absurd h (by decide)⟩
 refine zbb 6 rfl (zaq rfl (zbh 3 rfl ?_))
 refine zax (zam ?_)
 exact zdl (rs := [.tmp 4, .tmp 5]) (vs := [.slice (some ⟨g1, 0, none⟩) 0 0, .bool false]) (post := [rowE 3 1 (.slice (some ⟨g1, 0, none⟩) 0 0) 0 ([])]) rfl ⟨rfl, rfl, trivial⟩ rfl (pfQ rfl) ⟨_, [], false, rfl, rfl, by simp, fun h => absurd h (by decide)⟩
theorem l13JoinU_ret (ca cb : List CRow) (u v : Value) (w : World) (ha : RdsCl w u ca) (hb : RdsCl w v cb) (h4a : ∀ r ∈ ca, r.xs.length ≤ 4) (h4b : ∀ r ∈ cb, r.xs.length ≤ 4) (ha8 : ca.length ≤ 8) (hb8 : cb.length ≤ 8) :
   Calls Try.prog 45 #[u, v] w (Ret w (fun u_ p_ => ∃ (ps : List HP) (us : List CRow), p_ = [rowE 26 1 u_ us.length (us.flatMap crowC), bigE ps] ∧ (∀ w, (bigE ps).holds w → RdsAll w us) ∧ us.length ≤ 7 ∧ (∀ r ∈ us, r.xs.length ≤ 4) ∧ ∀ r ∈ us, JnX ca cb r)) := by
 refine zbg (N := 95) (args := [u, v]) Try.func45 rfl rfl (zbh 1 rfl (srQ ?_))
 refine zea rfl (zcl (s := 1) rfl Try.underlying36 rfl) ?_
 intro g1
 refine zbb 1 rfl (zaa (zbh 1 rfl (zba ?_)))
 refine zev _ conv_bg0 ?_
 refine lkQ4 (α := Nat) (β := List CRow) (γ := Value) (δ := List HP) [0, 1, 4] rfl (fun i rs lv ps => [bigE ps, rowE 26 1 lv rs.length (rs.flatMap crowC)]) (fun i rs lv ps => [(5, lv), (6, .int .i64 (i : Int))]) (fun i rs lv ps => i ≤ ca.length ∧ rs.length ≤ i * cb.length + 0 ∧ (∀ r ∈ rs, QR ca cb r) ∧ ∀ w, (bigE ps).holds w → RdsAll w rs) (fun i rs lv ps => ca.length - i) 0 [] _ [] ⟨Nat.zero_le _, by simp, (fun r hr => by cases hr), fun w _ => RdsAll.nil w⟩ (saQ rfl) (pfQ rfl) ?_
 intro i rs lv ps hi2
 obtain ⟨hi, hrl, h4, hps⟩ := hi2
 have hrs := mul_small hrl (by omega) (by omega) (by omega)
 refine zaa (zaa (reQ 2 rfl (hvQ rfl (lnQ rfl rfl rfl (zac ha.row)) ?_)))
 refine zbr rfl rfl rfl rfl rfl rfl (fun h3 => ?_) (fun h3 => ?_)
 ·
  refine ntQ (zaq rfl (zcw (sbQ (zbh 1 rfl ?_))))
  refine zba ?_
  refine lkQ4 (α := Nat) (β := List CRow) (γ := Value) (δ := List HP) [0, 1, 4, 6, 18] rfl (fun j rs2 lv2 ps2 => [bigE ps2, rowE 26 1 lv2 rs2.length (rs2.flatMap crowC)]) (fun j rs2 lv2 ps2 => [(5, lv2), (7, .int .i64 (j : Int))]) (fun j rs2 lv2 ps2 => j ≤ cb.length ∧ rs2.length ≤ i * cb.length + j ∧ (∀ r ∈ rs2, QR ca cb r) ∧ ∀ w, (bigE ps2).holds w → RdsAll w rs2) (fun j rs2 lv2 ps2 => cb.length - j) 0 rs _ _ ⟨Nat.zero_le _, hrl, h4, hps⟩ (saQ rfl) (pfQ rfl) ?_
  intro j rs2 lv2 ps2 hi4
  obtain ⟨hj, hrl2, h42, hps2⟩ := hi4
  have hrs2 := mul_small hrl2 (by omega) (by omega) (by omega)
  refine zaa (zaa (reQ 2 rfl (hvQ rfl (lnQ rfl rfl rfl (zac hb.row)) ?_)))
  refine zbr rfl rfl rfl rfl rfl rfl (fun h5 => ?_) (fun h5 => ?_)
  ·
   refine ntQ (zaq rfl (zcw (sbQ (zaa ?_))))
   have h4i := h4a _ (zbp (es := ca) (i := i) (d := crow0) (by omega))
   have h4j := h4b _ (zbp (es := cb) (i := j) (d := crow0) (by omega))
   refine zfq rfl 13 [0, 1, 2, 3, 4, 5, 6, 7, 8, 9, 10, 11, 12] (List.take 13 _) (List.drop 13 _) [[], [], [0, 1], [2], [], [], [4, 5], [6], [3, 7], [8], [8, 9], [8, 9], [8, 10]] [28, 29, 30, 31, 32, 33, 34, 35, 36, 27, 37, 38, 8] (fun i_ vs_ v_ p_ => match i_ with | 0 => v_ = u ∧ p_ = [] | 1 => v_ = .int .i64 (i : Int) ∧ p_ = [] | 2 => v_ = elP u (((i : Int)).toNat * 1) ∧ p_ = [] | 3 => v_ = (ca.getD i crow0).v ∧ p_ = [] | 4 => v_ = v ∧ p_ = [] | 5 => v_ = .int .i64 (j : Int) ∧ p_ = [] | 6 => v_ = elP v (((j : Int)).toNat * 1) ∧ p_ = [] | 7 => v_ = (cb.getD j crow0).v ∧ p_ = [] | 8 => (fun u_ p_ => ∃ (mv : Value) (us : List Int) (mb : Bool), u_ = .tuple #[mv, .bool mb] ∧ p_ = [rowE 3 1 mv us.length (us.map (Value.int .i64))] ∧ us.length ≤ 4 ∧ (mb = true → JoinU (ca.getD i crow0).xs (cb.getD j crow0).xs us)) v_ p_ | 9 => v_ = .tuple #[(tFstH (List.getD vs_ 0 undef)), .bool (tSndB (List.getD vs_ 0 undef))] ∧ p_ = [] | 10 => v_ = (tFstH (List.getD vs_ 0 undef)) ∧ p_ = [] | 11 => v_ = .bool (tSndB (List.getD vs_ 0 undef)) ∧ p_ = [] | 12 => v_ = (tFstH (List.getD vs_ 0 undef)) ∧ p_ = [] | _ => True) (List.take_append_drop 13 _).symm (by kernel_rfl) (by kernel_rfl) rfl rfl ?_ ?_
   ·
    refine ⟨?_, ?_, ?_, ?_, ?_, ?_, ?_, ?_, ?_, ?_, ?_, ?_, ?_, trivial⟩
    ·
     intro vf pf hR
     exact ovQ rfl (zau [0] rfl) (zbz (zae rfl))
    ·
     intro vf pf hR
     exact ovQ rfl (zau [6] rfl) (zbz (zae rfl))
    ·
     intro vf pf hR
     have e0 := hR 0 (by decide)
     have e1 := hR 1 (by decide)
     exact olQ rfl (sk 28 (congrArg some e0.1) (sk 29 (congrArg some e1.1) (zak _))) (zbz (riQ 1 rfl rfl rfl rfl (zac ha.row)))
    ·
     intro vf pf hR
     have e2 := hR 2 (by decide)
     exact olQ rfl (sk 30 (congrArg some e2.1) (zak _)) (zbz (zav (u := (ca.getD i crow0).v) rfl rfl rfl (zac ha.row) (zbm crowC (fun r => r.v) (fun _ => rfl) ca crow0 (show i < _ by omega))))
    ·
     intro vf pf hR
     exact ovQ rfl (zau [1] rfl) (zbz (zae rfl))
    ·
     intro vf pf hR
     exact ovQ rfl (zau [7] rfl) (zbz (zae rfl))
    ·
     intro vf pf hR
     have e4 := hR 4 (by decide)
     have e5 := hR 5 (by decide)
     exact olQ rfl (sk 32 (congrArg some e4.1) (sk 33 (congrArg some e5.1) (zak _))) (zbz (riQ 1 rfl rfl rfl rfl (zac hb.row)))
    ·
     intro vf pf hR
     have e6 := hR 6 (by decide)
     exact olQ rfl (sk 34 (congrArg some e6.1) (zak _)) (zbz (zav (u := (cb.getD j crow0).v) rfl rfl rfl (zac hb.row) (zbm crowC (fun r => r.v) (fun _ => rfl) cb crow0 (show j < _ by omega))))
    ·
     intro vf pf hR
     have e3 := hR 3 (by decide)
     have e7 := hR 7 (by decide)
     exact olQ rfl (sk 31 (congrArg some e3.1) (sk 35 (congrArg some e7.1) (zak _))) (zas rfl rfl (fun w hm => MergeU_ret (ca.getD i crow0).xs (cb.getD j crow0).xs _ _ w ((ha.at (k := i) (by omega)).below hm.bel) ((hb.at (k := j) (by omega)).below hm.bel) (by omega) (by omega)))
    ·
     intro vf pf hR
     have e8 : (fun u_ p_ => ∃ (mv : Value) (us : List Int) (mb : Bool), u_ = .tuple #[mv, .bool mb] ∧ p_ = [rowE 3 1 mv us.length (us.map (Value.int .i64))] ∧ us.length ≤ 4 ∧ (mb = true → JoinU (ca.getD i crow0).xs (cb.getD j crow0).xs us)) (vf 8) (pf 8) := hR 8 (by decide)
     obtain ⟨v6, vE8⟩ : ∃ x, vf 8 = x := ⟨_, rfl⟩
     obtain ⟨p7, pE8⟩ : ∃ x, pf 8 = x := ⟨_, rfl⟩
     have hR8 := e8
     rw [vE8, pE8] at hR8
     obtain ⟨mv, us, mb, rfl, rfl, hul, hju⟩ := hR8
     refine Or.inl ⟨rfl, ?_⟩
     exact zcm (sk 36 (congrArg some vE8) (zak _)) (by simp only [pE8, vE8, fS] <;> rfl) (zdd (zbz (zae rfl)) (fun _ _ h => ⟨h.1.trans (by show _ = (.tuple #[(tFstH (vf 8)), .bool (tSndB (vf 8))] : Value); first | (rw [vE8]; done) | (rw [vE8]; rfl)), h.2⟩))
    ·
     intro vf pf hR
     have e8 : (fun u_ p_ => ∃ (mv : Value) (us : List Int) (mb : Bool), u_ = .tuple #[mv, .bool mb] ∧ p_ = [rowE 3 1 mv us.length (us.map (Value.int .i64))] ∧ us.length ≤ 4 ∧ (mb = true → JoinU (ca.getD i crow0).xs (cb.getD j crow0).xs us)) (vf 8) (pf 8) := hR 8 (by decide)
     obtain ⟨v6, vE8⟩ : ∃ x, vf 8 = x := ⟨_, rfl⟩
     obtain ⟨p7, pE8⟩ : ∃ x, pf 8 = x := ⟨_, rfl⟩
     have hR8 := e8
     rw [vE8, pE8] at hR8
     obtain ⟨mv, us, mb, rfl, rfl, hul, hju⟩ := hR8
     have e9 : (vf 9) = .tuple #[(tFstH (vf 8)), .bool (tSndB (vf 8))] ∧ (pf 9) = [] := hR 9 (by decide)
     rw [vE8] at e9
     refine Or.inl ⟨rfl, ?_⟩
     exact zcm (sk 27 (congrArg some e9.1) (zak _)) (by simp only [pE8, vE8, e9.2, fS] <;> rfl) (zdd (zbz (zae rfl)) (fun _ _ h => ⟨h.1.trans (by show _ = ((tFstH (vf 8)) : Value); first | (rw [vE8]; done) | (rw [vE8]; rfl)), h.2⟩))
    ·
     intro vf pf hR
     have e8 : (fun u_ p_ => ∃ (mv : Value) (us : List Int) (mb : Bool), u_ = .tuple #[mv, .bool mb] ∧ p_ = [rowE 3 1 mv us.length (us.map (Value.int .i64))] ∧ us.length ≤ 4 ∧ (mb = true → JoinU (ca.getD i crow0).xs (cb.getD j crow0).xs us)) (vf 8) (pf 8) := hR 8 (by decide)
     obtain ⟨v6, vE8⟩ : ∃ x, vf 8 = x := ⟨_, rfl⟩
     obtain ⟨p7, pE8⟩ : ∃ x, pf 8 = x := ⟨_, rfl⟩
     have hR8 := e8
     rw [vE8, pE8] at hR8
     obtain ⟨mv, us, mb, rfl, rfl, hul, hju⟩ := hR8
     have e9 : (vf 9) = .tuple #[(tFstH (vf 8)), .bool (tSndB (vf 8))] ∧ (pf 9) = [] := hR 9 (by decide)
     rw [vE8] at e9
     refine Or.inl ⟨rfl, ?_⟩
     exact zcm (sk 27 (congrArg some e9.1) (zak _)) (by simp only [pE8, vE8, e9.2, fS] <;> rfl) (zdd (zbz (zae rfl)) (fun _ _ h => ⟨h.1.trans (by show _ = (.bool (tSndB (vf 8)) : Value); first | (rw [vE8]; done) | (rw [vE8]; rfl)), h.2⟩))
    intro vf pf hR
    have e8 : (fun u_ p_ => ∃ (mv : Value) (us : List Int) (mb : Bool), u_ = .tuple #[mv, .bool mb] ∧ p_ = [rowE 3 1 mv us.length (us.map (Value.int .i64))] ∧ us.length ≤ 4 ∧ (mb = true → JoinU (ca.getD i crow0).xs (cb.getD j crow0).xs us)) (vf 8) (pf 8) := hR 8 (by decide)
    obtain ⟨v6, vE8⟩ : ∃ x, vf 8 = x := ⟨_, rfl⟩
    obtain ⟨p7, pE8⟩ : ∃ x, pf 8 = x := ⟨_, rfl⟩
    have hR8 := e8
    rw [vE8, pE8] at hR8
    obtain ⟨mv, us, mb, rfl, rfl, hul, hju⟩ := hR8
    have e10 : (vf 10) = (tFstH (vf 8)) ∧ (pf 10) = [] := hR 10 (by decide)
    rw [vE8] at e10
    refine Or.inl ⟨rfl, ?_⟩
    exact zcm (sk 37 (congrArg some e10.1) (zak _)) (by simp only [pE8, vE8, e10.2, fS] <;> rfl) (zdd (zbz (zae rfl)) (fun _ _ h => ⟨h.1.trans (by show _ = ((tFstH (vf 8)) : Value); first | (rw [vE8]; done) | (rw [vE8]; rfl)), h.2⟩))
   intro vf pf hR
   have e8 : (fun u_ p_ => ∃ (mv : Value) (us : List Int) (mb : Bool), u_ = .tuple #[mv, .bool mb] ∧ p_ = [rowE 3 1 mv us.length (us.map (Value.int .i64))] ∧ us.length ≤ 4 ∧ (mb = true → JoinU (ca.getD i crow0).xs (cb.getD j crow0).xs us)) (vf 8) (pf 8) := hR 8 (by decide)
   obtain ⟨v6, vE8⟩ : ∃ x, vf 8 = x := ⟨_, rfl⟩
   obtain ⟨p7, pE8⟩ : ∃ x, pf 8 = x := ⟨_, rfl⟩
   have hR8 := e8
   rw [vE8, pE8] at hR8
   obtain ⟨mv, us, mb, rfl, rfl, hul, hju⟩ := hR8
   have e11 : (vf 11) = .bool (tSndB (vf 8)) ∧ (pf 11) = [] := hR 11 (by decide)
   rw [vE8] at e11
   have e12 : (vf 12) = (tFstH (vf 8)) ∧ (pf 12) = [] := hR 12 (by decide)
   rw [vE8] at e12
   have q0 := hR 0 (by decide)
   have q1 := hR 1 (by decide)
   have q2 := hR 2 (by decide)
   have q3 := hR 3 (by decide)
   have q4 := hR 4 (by decide)
   have q5 := hR 5 (by decide)
   have q6 := hR 6 (by decide)
   have q7 := hR 7 (by decide)
   have q9 := hR 9 (by decide)
   have q10 := hR 10 (by decide)
   have q11 := hR 11 (by decide)
   have q12 := hR 12 (by decide)
   refine zcx (zbx [7, 6, 5, 4, 1, 0] _ (sk 8 (congrArg some e12.1) (sk 18 rfl (sk 24 rfl (sk 38 (congrArg some e11.1) (zak _))))) rfl) (by simp only [pE8, vE8, q0.2, q1.2, q2.2, q3.2, q4.2, q5.2, q6.2, q7.2, q9.2, q10.2, q11.2, q12.2, fS] <;> rfl) ?_
   simp only [List.drop_succ_cons, List.drop_zero]
   refine zbb 1 rfl (zbh 1 rfl ?_)
   refine zgf rfl (fun h9 => ?_) (fun h9 => ?_)
   ·
    refine reQ 2 rfl ?_
    refine hl_q rfl rfl rfl (zas rfl rfl (fun w hm => l13Add_ret rs2 us _ _ w ⟨zad 2 rfl w hm, hps2 w (hm.holds _ (zbw (i := 1) rfl))⟩ (fun r hr => (h42 r hr).1) (by omega) (zad 0 rfl w hm) hul)) ?_
    intro v10 p11 hR12
    obtain ⟨zs, rfl, hzm, hzl⟩ := hR12
    refine enQ 1 rfl (zdk (reQ 1 rfl (hvQ rfl (vaQ rfl rfl rfl) (enQ 1 rfl ?_))))
    refine zcg 4 [0, 1, 2] rfl rfl (by decide) ?_
    refine hq_pool 2 rfl ?_
    exact zbe (j + 1) zs v10 [bigE ps2, rowE 3 1 mv us.length (us.map (Value.int .i64))] ⟨by omega, by omega, q_cons h42 ⟨hul, _, zbp (es := ca) (i := i) (d := crow0) (by omega), _, zbp (es := cb) (i := j) (d := crow0) (by omega), hju (by assumption)⟩ hzm, fun w hw => RdsAll.cons (u := CRow.mk mv us) (hps2 w (zcy hw List.mem_cons_self)) (zcz (zcy hw (List.mem_cons_of_mem _ List.mem_cons_self))) hzm⟩ (by omega) (saQ rfl) (pfQ rfl)
   refine zdg (zdk (reQ 1 rfl (hvQ rfl (vaQ rfl rfl rfl) (enQ 1 rfl ?_))))
   exact zbe (j + 1) rs2 lv2 ps2 ⟨by omega, by omega, h42, hps2⟩ (by omega) (saQ rfl) (slQ [1, 0] rfl)
  refine ntQ (zao rfl ?_)
  refine zbi (zep ?_)
  refine zal (zdk (reQ 1 rfl (hvQ rfl (vaQ rfl rfl rfl) (enQ 1 rfl ?_))))
  exact zbe (i + 1) rs2 lv2 ps2 ⟨by omega, by rw [Nat.add_mul]; omega, h42, hps2⟩ (by omega) (saQ rfl) (pfQ rfl)
 refine ntQ (zao rfl ?_)
 refine zbi (zep ?_)
 refine zal (zaj (srQ ?_))
 refine zea rfl (zcl (s := 1) rfl Try.underlying36 rfl) ?_
 intro g13
 refine zbb 1 rfl (zaa (zbh 1 rfl (zba ?_)))
 refine lkQ3 (α := Nat) (β := List CRow) (γ := Value) [0, 1, 4, 5, 18] rfl (fun i2 qs ov => [rowE 26 1 ov qs.length (qs.flatMap crowC), bigE ps, rowE 26 1 lv rs.length (rs.flatMap crowC)]) (fun i2 qs ov => [(10, ov), (11, .int .i64 (i2 : Int))]) (fun i2 qs ov => i2 ≤ rs.length ∧ qs.length ≤ 7 ∧ ∀ q ∈ qs, q ∈ rs) (fun i2 qs ov => rs.length - i2) 0 [] _ ⟨Nat.zero_le _, by simp, fun q hq => by cases hq⟩ (saQ rfl) (pfQ rfl) ?_
 intro i2 qs ov hi14
 obtain ⟨hi2, hql, hqm⟩ := hi14
 refine zaa (zaa (reQ 2 rfl (hvQ rfl (lnQ rfl rfl rfl (zad 2 rfl)) ?_)))
 refine zbr rfl rfl rfl rfl rfl rfl (fun h15 => ?_) (fun h15 => ?_)
 ·
  refine zab 2 rfl (hvQ rfl (lnQ rfl rfl rfl (zad 0 rfl)) ?_)
  refine zbr rfl rfl rfl rfl rfl rfl (fun h16 => ?_) (fun h16 => ?_)
  ·
   refine zbb 1 rfl (zaq rfl (zcw (sbQ (srQ (enQ 1 rfl ?_)))))
   refine zaj (zaa (zbh 1 rfl (zba ?_)))
   refine lkQ2 (α := Nat) (β := Bool) [0, 1, 4, 5, 10, 11, 18, 52] rfl (fun k2 wh => [rowE 26 1 ov qs.length (qs.flatMap crowC), bigE ps, rowE 26 1 lv rs.length (rs.flatMap crowC)]) (fun k2 wh => [(12, .bool wh), (13, .int .i64 (k2 : Int))]) (fun k2 wh => k2 ≤ i2) (fun k2 wh => i2 - k2) 0 true (Nat.zero_le _) (saQ rfl) (pfQ rfl) ?_
   intro k2 wh hi17
   have hk2 := hi17
   refine zaa (zaa (reQ 2 rfl ?_))
   refine zbr rfl rfl rfl rfl rfl rfl (fun h18 => ?_) (fun h18 => ?_)
   ·
    refine zab 2 rfl (zbc (fun h19 => ?_) (fun h19 => ?_))
    ·
     refine zbb 1 rfl (zaq rfl (zcw (sbQ ?_)))
     have h4i := (h4 _ (zbp (es := rs) (i := i2) (d := crow0) (by omega))).1
     have h4k := (h4 _ (zbp (es := rs) (i := k2) (d := crow0) (by omega))).1
     rcases Bool.eq_false_or_eq_true (decide ((((rs.getD k2 crow0).xs).length : Int) < (((rs.getD i2 crow0).xs).length : Int))) with hb20 | hb20
     ·
      have hb20p : (((rs.getD k2 crow0).xs).length : Int) < (((rs.getD i2 crow0).xs).length : Int) := of_decide_eq_true hb20
      have h4i := (h4 _ (zbp (es := rs) (i := i2) (d := crow0) (by omega))).1
      have h4k := (h4 _ (zbp (es := rs) (i := k2) (d := crow0) (by omega))).1
      rcases Bool.eq_false_or_eq_true (List.all ((rs.getD k2 crow0).xs) (hasB ((rs.getD i2 crow0).xs))) with hb21 | hb21
      ·
       have h4i := (h4 _ (zbp (es := rs) (i := i2) (d := crow0) (by omega))).1
       have h4k := (h4 _ (zbp (es := rs) (i := k2) (d := crow0) (by omega))).1
       refine zbl 23 [[], [], [0, 1], [2], [3], [], [], [5, 6], [7], [8], [4, 9], [10], [11], [11], [11, 12, 13], [11, 14], [11], [11], [11, 16, 17], [11, 18], [11, 15, 19], [11, 20], [21]] [63, 64, 65, 66, 67, 68, 69, 70, 71, 72, 73, 74, 75, 76, 77, 78, 79, 80, 81, 82, 83, 84, 85] [lv, .int .i64 (k2 : Int), elP lv (((k2 : Int)).toNat * 1), (rs.getD k2 crow0).v, .int .i64 (((rs.getD k2 crow0).xs).length : Int), lv, .int .i64 (i2 : Int), elP lv (((i2 : Int)).toNat * 1), (rs.getD i2 crow0).v, .int .i64 (((rs.getD i2 crow0).xs).length : Int), .bool true, .bool true, lv, .int .i64 (k2 : Int), elP lv (((k2 : Int)).toNat * 1), (rs.getD k2 crow0).v, lv, .int .i64 (i2 : Int), elP lv (((i2 : Int)).toNat * 1), (rs.getD i2 crow0).v, .bool true, .bool true, .bool false] (by kernel_rfl) rfl ?_ ?_
       ·
        exact ⟨iaQ rfl (zae rfl) rfl, iaQ rfl (zae rfl) rfl, iaQ rfl (riQ 1 rfl rfl rfl rfl (zad 2 rfl)) rfl, iaQ rfl (zav (u := (rs.getD k2 crow0).v) rfl rfl rfl (zad 2 rfl) (zbm crowC (fun r => r.v) (fun _ => rfl) rs crow0 (show k2 < _ by omega))) rfl, iaQ rfl (lnQ rfl rfl rfl (fun w hm => ((hps w (hm.holds _ (zbw (i := 1) rfl))).at (k := k2) (by omega)))) rfl, iaQ rfl (zae rfl) rfl, iaQ rfl (zae rfl) rfl, iaQ rfl (riQ 1 rfl rfl rfl rfl (zad 2 rfl)) rfl, iaQ rfl (zav (u := (rs.getD i2 crow0).v) rfl rfl rfl (zad 2 rfl) (zbm crowC (fun r => r.v) (fun _ => rfl) rs crow0 (show i2 < _ by omega))) rfl, iaQ rfl (lnQ rfl rfl rfl (fun w hm => ((hps w (hm.holds _ (zbw (i := 1) rfl))).at (k := i2) (by omega)))) rfl, .inl ⟨rfl, zcq (zbo rfl rfl rfl rfl) hb20⟩, iaQ rfl (zae rfl) rfl, iaQ rfl (zae rfl) rfl, iaQ rfl (zae rfl) rfl, iaQ rfl (riQ 1 rfl rfl rfl rfl (zad 2 rfl)) rfl, iaQ rfl (zav (u := (rs.getD k2 crow0).v) rfl rfl rfl (zad 2 rfl) (zbm crowC (fun r => r.v) (fun _ => rfl) rs crow0 (show k2 < _ by omega))) rfl, iaQ rfl (zae rfl) rfl, iaQ rfl (zae rfl) rfl, iaQ rfl (riQ 1 rfl rfl rfl rfl (zad 2 rfl)) rfl, iaQ rfl (zav (u := (rs.getD i2 crow0).v) rfl rfl rfl (zad 2 rfl) (zbm crowC (fun r => r.v) (fun _ => rfl) rs crow0 (show i2 < _ by omega))) rfl, .inl ⟨rfl, rq_cb (zas rfl rfl (fun w hm => zaz (l13Within_ans ((rs.getD k2 crow0).xs) ((rs.getD i2 crow0).xs) _ _ w ((fun w hm => ((hps w (hm.holds _ (zbw (i := 1) rfl))).at (k := k2) (by omega))) w hm) ((fun w hm => ((hps w (hm.holds _ (zbw (i := 1) rfl))).at (k := i2) (by omega))) w hm) (by omega)))) hb21⟩, iaQ rfl (zae rfl) rfl, iaQ rfl (zae rfl) rfl, trivial⟩
       simp only [List.drop_succ_cons, List.drop_zero]
       refine enQ 1 rfl (zdk (reQ 1 rfl (hvQ rfl (vaQ rfl rfl rfl) (enQ 1 rfl ?_))))
       exact zch (k2 + 1) false (by omega) (by omega) (saQ rfl) (pfQ rfl)
      have h4i := (h4 _ (zbp (es := rs) (i := i2) (d := crow0) (by omega))).1
      have h4k := (h4 _ (zbp (es := rs) (i := k2) (d := crow0) (by omega))).1
      refine zbl 23 [[], [], [0, 1], [2], [3], [], [], [5, 6], [7], [8], [4, 9], [10], [11], [11], [11, 12, 13], [11, 14], [11], [11], [11, 16, 17], [11, 18], [11, 15, 19], [11, 20], [21]] [63, 64, 65, 66, 67, 68, 69, 70, 71, 72, 73, 74, 75, 76, 77, 78, 79, 80, 81, 82, 83, 84, 85] [lv, .int .i64 (k2 : Int), elP lv (((k2 : Int)).toNat * 1), (rs.getD k2 crow0).v, .int .i64 (((rs.getD k2 crow0).xs).length : Int), lv, .int .i64 (i2 : Int), elP lv (((i2 : Int)).toNat * 1), (rs.getD i2 crow0).v, .int .i64 (((rs.getD i2 crow0).xs).length : Int), .bool true, .bool true, lv, .int .i64 (k2 : Int), elP lv (((k2 : Int)).toNat * 1), (rs.getD k2 crow0).v, lv, .int .i64 (i2 : Int), elP lv (((i2 : Int)).toNat * 1), (rs.getD i2 crow0).v, .bool false, .bool false, .bool true] (by kernel_rfl) rfl ?_ ?_
      ·
       exact ⟨iaQ rfl (zae rfl) rfl, iaQ rfl (zae rfl) rfl, iaQ rfl (riQ 1 rfl rfl rfl rfl (zad 2 rfl)) rfl, iaQ rfl (zav (u := (rs.getD k2 crow0).v) rfl rfl rfl (zad 2 rfl) (zbm crowC (fun r => r.v) (fun _ => rfl) rs crow0 (show k2 < _ by omega))) rfl, iaQ rfl (lnQ rfl rfl rfl (fun w hm => ((hps w (hm.holds _ (zbw (i := 1) rfl))).at (k := k2) (by omega)))) rfl, iaQ rfl (zae rfl) rfl, iaQ rfl (zae rfl) rfl, iaQ rfl (riQ 1 rfl rfl rfl rfl (zad 2 rfl)) rfl, iaQ rfl (zav (u := (rs.getD i2 crow0).v) rfl rfl rfl (zad 2 rfl) (zbm crowC (fun r => r.v) (fun _ => rfl) rs crow0 (show i2 < _ by omega))) rfl, iaQ rfl (lnQ rfl rfl rfl (fun w hm => ((hps w (hm.holds _ (zbw (i := 1) rfl))).at (k := i2) (by omega)))) rfl, .inl ⟨rfl, zcq (zbo rfl rfl rfl rfl) hb20⟩, iaQ rfl (zae rfl) rfl, iaQ rfl (zae rfl) rfl, iaQ rfl (zae rfl) rfl, iaQ rfl (riQ 1 rfl rfl rfl rfl (zad 2 rfl)) rfl, iaQ rfl (zav (u := (rs.getD k2 crow0).v) rfl rfl rfl (zad 2 rfl) (zbm crowC (fun r => r.v) (fun _ => rfl) rs crow0 (show k2 < _ by omega))) rfl, iaQ rfl (zae rfl) rfl, iaQ rfl (zae rfl) rfl, iaQ rfl (riQ 1 rfl rfl rfl rfl (zad 2 rfl)) rfl, iaQ rfl (zav (u := (rs.getD i2 crow0).v) rfl rfl rfl (zad 2 rfl) (zbm crowC (fun r => r.v) (fun _ => rfl) rs crow0 (show i2 < _ by omega))) rfl, .inl ⟨rfl, rq_cb (zas rfl rfl (fun w hm => zaz (l13Within_ans ((rs.getD k2 crow0).xs) ((rs.getD i2 crow0).xs) _ _ w ((fun w hm => ((hps w (hm.holds _ (zbw (i := 1) rfl))).at (k := k2) (by omega))) w hm) ((fun w hm => ((hps w (hm.holds _ (zbw (i := 1) rfl))).at (k := i2) (by omega))) w hm) (by omega)))) hb21⟩, iaQ rfl (zae rfl) rfl, iaQ rfl (zae rfl) rfl, trivial⟩
      simp only [List.drop_succ_cons, List.drop_zero]
      refine enQ 1 rfl (zdk (reQ 1 rfl (hvQ rfl (vaQ rfl rfl rfl) (enQ 1 rfl ?_))))
      exact zch (k2 + 1) true (by omega) (by omega) (saQ rfl) (pfQ rfl)
     have hb20p : ¬ ((((rs.getD k2 crow0).xs).length : Int) < (((rs.getD i2 crow0).xs).length : Int)) := of_decide_eq_false hb20
     have h4i := (h4 _ (zbp (es := rs) (i := i2) (d := crow0) (by omega))).1
     have h4k := (h4 _ (zbp (es := rs) (i := k2) (d := crow0) (by omega))).1
     refine zbl 23 [[], [], [0, 1], [2], [3], [], [], [5, 6], [7], [8], [4, 9], [10], [11], [11], [11], [11], [11], [11], [11], [11], [11], [11, 20], [21]] [63, 64, 65, 66, 67, 68, 69, 70, 71, 72, 73, 74, 75, 76, 77, 78, 79, 80, 81, 82, 83, 84, 85] [lv, .int .i64 (k2 : Int), elP lv (((k2 : Int)).toNat * 1), (rs.getD k2 crow0).v, .int .i64 (((rs.getD k2 crow0).xs).length : Int), lv, .int .i64 (i2 : Int), elP lv (((i2 : Int)).toNat * 1), (rs.getD i2 crow0).v, .int .i64 (((rs.getD i2 crow0).xs).length : Int), .bool false, .bool false, undef, undef, undef, undef, undef, undef, undef, undef, undef, .bool false, .bool true] (by kernel_rfl) rfl ?_ ?_
     ·
      exact ⟨iaQ rfl (zae rfl) rfl, iaQ rfl (zae rfl) rfl, iaQ rfl (riQ 1 rfl rfl rfl rfl (zad 2 rfl)) rfl, iaQ rfl (zav (u := (rs.getD k2 crow0).v) rfl rfl rfl (zad 2 rfl) (zbm crowC (fun r => r.v) (fun _ => rfl) rs crow0 (show k2 < _ by omega))) rfl, iaQ rfl (lnQ rfl rfl rfl (fun w hm => ((hps w (hm.holds _ (zbw (i := 1) rfl))).at (k := k2) (by omega)))) rfl, iaQ rfl (zae rfl) rfl, iaQ rfl (zae rfl) rfl, iaQ rfl (riQ 1 rfl rfl rfl rfl (zad 2 rfl)) rfl, iaQ rfl (zav (u := (rs.getD i2 crow0).v) rfl rfl rfl (zad 2 rfl) (zbm crowC (fun r => r.v) (fun _ => rfl) rs crow0 (show i2 < _ by omega))) rfl, iaQ rfl (lnQ rfl rfl rfl (fun w hm => ((hps w (hm.holds _ (zbw (i := 1) rfl))).at (k := i2) (by omega)))) rfl, .inl ⟨rfl, zcq (zbo rfl rfl rfl rfl) hb20⟩, iaQ rfl (zae rfl) rfl, .inr ⟨rfl, rfl⟩, .inr ⟨rfl, rfl⟩, .inr ⟨rfl, rfl⟩, .inr ⟨rfl, rfl⟩, .inr ⟨rfl, rfl⟩, .inr ⟨rfl, rfl⟩, .inr ⟨rfl, rfl⟩, .inr ⟨rfl, rfl⟩, .inr ⟨rfl, rfl⟩, iaQ rfl (zae rfl) rfl, iaQ rfl (zae rfl) rfl, trivial⟩
     simp only [List.drop_succ_cons, List.drop_zero]
     refine enQ 1 rfl (zdk (reQ 1 rfl (hvQ rfl (vaQ rfl rfl rfl) (enQ 1 rfl ?_))))
     exact zch (k2 + 1) true (by omega) (by omega) (saQ rfl) (pfQ rfl)
    refine zbb 1 rfl (zao rfl ?_)
    refine zbi (zep ?_)
    refine zal (zaj (zaa (reQ 1 rfl ?_)))
    refine zbc (fun h22 => absurd ((h19).symm.trans h22) (by decide)) (fun h22 => ?_)
    refine ntQ (fsQ rfl (zdk (reQ 1 rfl (hvQ rfl (vaQ rfl rfl rfl) (enQ 1 rfl ?_)))))
    exact zbv (i2 + 1) qs ov ⟨by omega, by omega, hqm⟩ (by omega) (saQ rfl) (pfQ rfl)
   refine zbb 3 rfl (zao rfl ?_)
   refine zbi (zep ?_)
   refine zal (zaj (zaa (reQ 1 rfl ?_)))
   refine zbc (fun h23 => ?_) (fun h23 => ?_)
   ·
    refine ntQ (zaq rfl (reQ 3 rfl (hvQ rfl (riQ 1 rfl rfl rfl rfl (zad 2 rfl)) ?_)))
    refine hvQ rfl (zav (u := (rs.getD i2 crow0).v) rfl rfl rfl (zad 2 rfl) (zbm crowC (fun r => r.v) (fun _ => rfl) rs crow0 (show i2 < _ by omega))) (hl_know (fun w hm => ((hps w (hm.holds _ (zbw (i := 1) rfl))).at (k := i2) (by omega)).one') (fun hov => ?_))
    refine zea rfl (zde rfl Try.underlying36 (by kernel_rfl) rfl hov) ?_
    intro g24
    refine zck (i := 1) (z := .slice none 0 0) (bytes := 24) rfl rfl rfl rfl Try.underlying36 (by kernel_rfl) rfl rfl rfl rfl (zad 0 rfl) (fun q hq => by rw [List.mem_singleton] at hq; subst hq; exact hov) (by first | omega | (simp only [List.length_append, List.length_cons, List.length_nil]; omega)) (zcc qs [(rs.getD i2 crow0)]) (zdt crowC qs (rs.getD i2 crow0) _ rfl) (fun _ => rfl) ?_
    intro v25
    refine enQ 1 rfl (zdk (reQ 1 rfl (hvQ rfl (vaQ rfl rfl rfl) (enQ 1 rfl ?_))))
    exact zbv (i2 + 1) (qs ++ [(rs.getD i2 crow0)]) v25 ⟨by omega, by rw [List.length_append, List.length_singleton]; omega, fun q hq => (List.mem_append.1 hq).elim (hqm q) (fun h => by rw [List.mem_singleton] at h; subst h; exact zbp (by omega))⟩ (by omega) (saQ rfl) (slQ [1, 0, 0] rfl)
   refine ntQ (fsQ rfl (zdk (reQ 1 rfl (hvQ rfl (vaQ rfl rfl rfl) (enQ 1 rfl ?_)))))
   exact zbv (i2 + 1) qs ov ⟨by omega, by omega, hqm⟩ (by omega) (saQ rfl) (pfQ rfl)
  refine zbb 1 rfl (zao rfl ?_)
  refine zbi (zep ?_)
  refine zal (zaj (zbh 2 rfl ?_))
  refine zax (zcg 3 [1, 0] rfl rfl (by decide) ?_)
  exact zct (post := [rowE 26 1 ov qs.length (qs.flatMap crowC), bigE ps]) rfl rfl (.refl _) ⟨_, qs, rfl, fun w hw => (hps w hw).sub hqm, hql, (fun r hr => (h4 r (hqm r hr)).1), fun r hr => (h4 r (hqm r hr)).2⟩
 refine zbb 5 rfl (zao rfl ?_)
 refine zbi (zep ?_)
 refine zal (zaj (zbh 2 rfl ?_))
 refine zax (zcg 3 [1, 0] rfl rfl (by decide) ?_)
 exact zct (post := [rowE 26 1 ov qs.length (qs.flatMap crowC), bigE ps]) rfl rfl (.refl _) ⟨_, qs, rfl, fun w hw => (hps w hw).sub hqm, hql, (fun r hr => (h4 r (hqm r hr)).1), fun r hr => (h4 r (hqm r hr)).2⟩
theorem rds_cl_of' {w : World} {v : Value} {rs : List CRow} (h1 : RdsW w v 1 rs.length (rs.flatMap crowC)) (h2 : RdsAll w rs) : RdsCl w v rs := ⟨h1, h2⟩
theorem l13AllU_ret (n : Nt) (node : Int) (w : World) (hr : RdsNt w n) (hn : NtOk n) (hnd : 0 ≤ node ∧ node < n.cnt) :
   Calls Try.prog 27 #[.agg #[.int .i64 n.ins, n.sv, n.av, n.ov], .int .i64 node] w (Ret w (fun u_ p_ => ∃ (ps : List HP) (cs : List CGrp), p_ = [bigE ps] ∧ (∀ w, (bigE ps).holds w → RdsW w u_ 1 cs.length (cs.flatMap cgC) ∧ RdsGrps w cs) ∧ (cs.length : Int) = node + 1 ∧ GrpsX n cs)) := by
 have hi0 := hn.i0
 have hi1 := hn.i1
 have hs1 := hn.s1
 have ha1 := hn.a1
 have ho1 := hn.o1
 have hcnt : n.cnt = 1 + n.ins + n.ss.length + n.gs.length := rfl
 have hfst : n.fst = 1 + n.ins + n.ss.length := rfl
 refine zbg (N := 52) (args := [.agg #[.int .i64 n.ins, n.sv, n.av, n.ov], .int .i64 node]) Try.func27 rfl rfl (srQ ?_)
 refine zei rfl (zco rfl rfl) ?_
 intro b1
 refine zbb 1 rfl (srQ ?_)
 refine zea rfl (zcl (s := 1) rfl Try.underlying26 rfl) ?_
 intro g2
 refine zea rfl (zaw (z := .slice none 0 0) (s := 1) (cs := [.slice (some ⟨g2, 0, none⟩) 0 0]) rfl Try.underlying36 rfl (by decide) rfl (by kernel_rfl) rfl) ?_
 intro g3
 refine zea rfl (zaw (z := .slice none 0 0) (s := 1) (cs := [.slice (some ⟨g3, 0, none⟩) 1 1]) rfl Try.underlying52 rfl (by decide) rfl (by kernel_rfl) rfl) ?_
 intro g4
 refine zbb 1 rfl (zaa (zbh 1 rfl (zba ?_)))
 refine zfp 4 [3, 0, 2, 1] rfl rfl (by decide) ?_
 refine hc_pool 2 rfl ?_
 refine lkQ4 (α := Nat) (β := List CGrp) (γ := Value) (δ := List HP) [0, 1, 2, 4] rfl (fun k cs gv ps => [bigE ps, rowE 36 1 gv cs.length (cs.flatMap cgC), boxE b1 #[.int .i64 n.ins, n.sv, n.av, n.ov] 28]) (fun k cs gv ps => [(5, gv), (6, .int .i64 (k : Int))]) (fun k cs gv ps => 1 ≤ k ∧ (k : Int) ≤ node + 1 ∧ cs.length = k ∧ GrpsX n cs ∧ ∀ w, (bigE ps).holds w → RdsGrps w cs) (fun k cs gv ps => node.toNat + 1 - k) 1 [CGrp.mk (.slice (some ⟨g3, 0, none⟩) 1 1) [CRow.mk (.slice (some ⟨g2, 0, none⟩) 0 0) []]] _ [rowE 26 1 (.slice (some ⟨g3, 0, none⟩) 1 1) 1 ([.slice (some ⟨g2, 0, none⟩) 0 0]), rowE 3 1 (.slice (some ⟨g2, 0, none⟩) 0 0) 0 ([])] ⟨by omega, by omega, rfl, (fun k9 hk9 => by have h8 : k9 = 0 := (by simpa using hk9); subst h8; exact GrpX.zero), fun w hw c hc => by rw [List.mem_singleton] at hc; subst hc; exact rds_cl_of' (zcz (zcy hw List.mem_cons_self)) (fun r hr => by rw [List.mem_singleton] at hr; subst hr; exact zcz (zcy hw (List.mem_cons_of_mem _ List.mem_cons_self)))⟩ (saQ rfl) (pfQ rfl) ?_
 intro k cs gv ps hi5
 obtain ⟨hk1, hk, hcl, hg, hs⟩ := hi5
 refine zaa (zaa (reQ 2 rfl ?_))
 refine hl_leq rfl rfl rfl rfl rfl rfl (fun h6 => ?_) (fun h6 => ?_)
 ·
  refine ntQ (zaq rfl (zcw (sbQ (srQ ?_))))
  refine zea rfl (zcl (s := 1) rfl Try.underlying36 rfl) ?_
  intro g7
  refine zbb 1 rfl (zaa (zaa (reQ 1 rfl (hvQ rfl (zaf (cs := [.int .i64 n.ins, n.sv, n.av, n.ov]) rfl rfl rfl rfl rfl (zag 3 rfl 0 rfl)) ?_))))
  refine zdw rfl (zas rfl rfl (fun w hm => zaz (zcs n w (hr.below hm.bel) hn))) (zeh rfl rfl rfl rfl rfl rfl (fun h8 => ?_) (fun h8 => ?_))
  ·
   refine ntQ (zaq rfl (zaa ?_))
   have hani := hn.an ((k : Int) - n.fst).toNat (by omega)
   unfold LtOk at hani
   have hA := hg.at (k := ((n.gs.getD (((k : Int) - n.fst).toNat) an0).a / 2).toNat) (by omega)
   have hB := hg.at (k := ((n.gs.getD (((k : Int) - n.fst).toNat) an0).b / 2).toNat) (by omega)
   have hA8 := hA.len
   have hB8 := hB.len
   refine zfq rfl 9 [0, 1, 2, 3, 4, 5, 6, 7, 8] (List.take 9 _) (List.drop 9 _) [[], [0], [], [], [3], [2, 4], [1, 5], [6], []] [22, 23, 24, 25, 26, 27, 28, 29, 8] (fun i_ vs_ v_ p_ => match i_ with | 0 => v_ = .pointer (some ⟨b1, 0 + 2, none⟩) ∧ p_ = [] | 1 => v_ = n.av ∧ p_ = [] | 2 => v_ = .int .i64 (k : Int) ∧ p_ = [] | 3 => v_ = .agg #[.int .i64 n.ins, n.sv, n.av, n.ov] ∧ p_ = [] | 4 => v_ = .int .i64 n.fst ∧ p_ = [] | 5 => v_ = .int .i64 ((k : Int) - n.fst) ∧ p_ = [] | 6 => v_ = elP n.av (((k : Int) - n.fst).toNat * 2) ∧ p_ = [] | 7 => v_ = .agg #[.int .i64 ((n.gs.getD (((k : Int) - n.fst).toNat) an0).a), .int .i64 ((n.gs.getD (((k : Int) - n.fst).toNat) an0).b)] ∧ p_ = [] | 8 => IsBox #[.int .i64 0, .int .i64 0] 47 v_ p_ | _ => True) (List.take_append_drop 9 _).symm (by kernel_rfl) (by kernel_rfl) rfl rfl ?_ ?_
   ·
    refine ⟨?_, ?_, ?_, ?_, ?_, ?_, ?_, ?_, ?_, trivial⟩
    ·
     intro vf pf hR
     exact ovQ rfl (zau [2] rfl) (zbz (fdQ 2 rfl rfl rfl))
    ·
     intro vf pf hR
     have e0 := hR 0 (by decide)
     exact olQ rfl (sk 22 (congrArg some e0.1) (zak _)) (zbz (zan rfl rfl rfl (zah 3 rfl rfl)))
    ·
     intro vf pf hR
     exact ovQ rfl (zau [6] rfl) (zbz (zae rfl))
    ·
     intro vf pf hR
     exact olQ rfl (zau [2] rfl) (zbz (zaf (cs := [.int .i64 n.ins, n.sv, n.av, n.ov]) rfl rfl rfl rfl rfl (zag 3 rfl 0 rfl)))
    ·
     intro vf pf hR
     have e3 := hR 3 (by decide)
     exact olQ rfl (sk 25 (congrArg some e3.1) (zak _)) (zas rfl rfl (fun w hm => zaz (zcs n w (hr.below hm.bel) hn)))
    ·
     intro vf pf hR
     have e2 := hR 2 (by decide)
     have e4 := hR 4 (by decide)
     exact ovQ rfl (sk 24 (congrArg some e2.1) (sk 26 (congrArg some e4.1) (zak _))) (zbz (vsQ rfl rfl rfl))
    ·
     intro vf pf hR
     have e1 := hR 1 (by decide)
     have e5 := hR 5 (by decide)
     exact olQ rfl (sk 23 (congrArg some e1.1) (sk 27 (congrArg some e5.1) (zak _))) (zbz (riQ 2 rfl rfl rfl rfl (zac hr.an)))
    ·
     intro vf pf hR
     have e6 := hR 6 (by decide)
     exact olQ rfl (sk 28 (congrArg some e6.1) (zak _)) (zbz (zdj (us := [.int .i64 ((n.gs.getD (((k : Int) - n.fst).toNat) an0).a), .int .i64 ((n.gs.getD (((k : Int) - n.fst).toNat) an0).b)]) rfl rfl rfl rfl (zac hr.an) (by omega) rfl (zeo anC 2 (fun _ => rfl) n.gs an0 (show ((k : Int) - n.fst).toNat < _ by omega) rfl)))
    intro vf pf hR
    exact olQ rfl (zak _) (zbq (z := .agg #[.int .i64 0, .int .i64 0]) rfl rfl)
   intro vf pf hR
   have e7 := hR 7 (by decide)
   have e8 : IsBox #[.int .i64 0, .int .i64 0] 47 (vf 8) (pf 8) := hR 8 (by decide)
   obtain ⟨b9, vE8, pE8⟩ := e8
   have q0 := hR 0 (by decide)
   have q1 := hR 1 (by decide)
   have q2 := hR 2 (by decide)
   have q3 := hR 3 (by decide)
   have q4 := hR 4 (by decide)
   have q5 := hR 5 (by decide)
   have q6 := hR 6 (by decide)
   have q7 := hR 7 (by decide)
   refine zcx (zbx [7, 6, 5, 4, 2, 1, 0] _ (sk 8 (congrArg some vE8) (sk 14 rfl (sk 21 rfl (sk 29 (congrArg some e7.1) (zak _))))) rfl) (by simp only [pE8, vE8, q0.2, q1.2, q2.2, q3.2, q4.2, q5.2, q6.2, q7.2, fS] <;> rfl) ?_
   simp only [List.drop_succ_cons, List.drop_zero]
   refine zbu (cs' := #[.int .i64 ((n.gs.getD (((k : Int) - n.fst).toNat) an0).a), .int .i64 ((n.gs.getD (((k : Int) - n.fst).toNat) an0).b)]) (i := 0) (off := 0) (us := [.int .i64 ((n.gs.getD (((k : Int) - n.fst).toNat) an0).a), .int .i64 ((n.gs.getD (((k : Int) - n.fst).toNat) an0).b)]) rfl rfl rfl rfl rfl rfl rfl (zar rfl (zar rfl zbs)) rfl rfl rfl (ntQ ?_)
   refine zfq rfl 13 [0, 1, 2, 3, 4, 5, 6, 7, 8, 9, 10, 11, 12] (List.take 13 _) (List.drop 13 _) [[], [], [1], [2], [0, 3], [4], [], [], [7], [8], [6, 9], [10], [5, 11]] [30, 31, 32, 33, 34, 35, 36, 37, 38, 39, 40, 41, 42] (fun i_ vs_ v_ p_ => match i_ with | 0 => v_ = gv ∧ p_ = [] | 1 => v_ = .pointer (some ⟨b9, 0 + 0, none⟩) ∧ p_ = [] | 2 => v_ = .int .i64 ((n.gs.getD (((k : Int) - n.fst).toNat) an0).a) ∧ p_ = [] | 3 => v_ = .int .i64 (((n.gs.getD (((k : Int) - n.fst).toNat) an0).a) / 2) ∧ p_ = [] | 4 => v_ = elP gv ((((n.gs.getD (((k : Int) - n.fst).toNat) an0).a) / 2).toNat * 1) ∧ p_ = [] | 5 => v_ = (cs.getD ((((n.gs.getD (((k : Int) - n.fst).toNat) an0).a) / 2).toNat) cgrp0).v ∧ p_ = [] | 6 => v_ = gv ∧ p_ = [] | 7 => v_ = .pointer (some ⟨b9, 0 + 1, none⟩) ∧ p_ = [] | 8 => v_ = .int .i64 ((n.gs.getD (((k : Int) - n.fst).toNat) an0).b) ∧ p_ = [] | 9 => v_ = .int .i64 (((n.gs.getD (((k : Int) - n.fst).toNat) an0).b) / 2) ∧ p_ = [] | 10 => v_ = elP gv ((((n.gs.getD (((k : Int) - n.fst).toNat) an0).b) / 2).toNat * 1) ∧ p_ = [] | 11 => v_ = (cs.getD ((((n.gs.getD (((k : Int) - n.fst).toNat) an0).b) / 2).toNat) cgrp0).v ∧ p_ = [] | 12 => (fun u_ p_ => ∃ (ps : List HP) (us : List CRow), p_ = [rowE 26 1 u_ us.length (us.flatMap crowC), bigE ps] ∧ (∀ w, (bigE ps).holds w → RdsAll w us) ∧ us.length ≤ 7 ∧ (∀ r ∈ us, r.xs.length ≤ 4) ∧ ∀ r ∈ us, JnX (cs.getD ((((n.gs.getD (((k : Int) - n.fst).toNat) an0).a) / 2).toNat) cgrp0).rs (cs.getD ((((n.gs.getD (((k : Int) - n.fst).toNat) an0).b) / 2).toNat) cgrp0).rs r) v_ p_ | _ => True) (List.take_append_drop 13 _).symm (by kernel_rfl) (by kernel_rfl) rfl rfl ?_ ?_
   ·
    refine ⟨?_, ?_, ?_, ?_, ?_, ?_, ?_, ?_, ?_, ?_, ?_, ?_, ?_, trivial⟩
    ·
     intro vf pf hR
     exact ovQ rfl (zau [5] rfl) (zbz (zae rfl))
    ·
     intro vf pf hR
     exact ovQ rfl (zau [8] rfl) (zbz (fdQ 0 rfl rfl rfl))
    ·
     intro vf pf hR
     have e1 := hR 1 (by decide)
     exact olQ rfl (sk 31 (congrArg some e1.1) (zak _)) (zbz (zan rfl rfl rfl (zah 0 rfl rfl)))
    ·
     intro vf pf hR
     have e2 := hR 2 (by decide)
     exact ovQ rfl (sk 32 (congrArg some e2.1) (zak _)) (zbz (zdy rfl rfl rfl (by refine ⟨?_, ?_, ?_⟩ <;> omega)))
    ·
     intro vf pf hR
     have e0 := hR 0 (by decide)
     have e3 := hR 3 (by decide)
     exact olQ rfl (sk 30 (congrArg some e0.1) (sk 33 (congrArg some e3.1) (zak _))) (zbz (riQ 1 rfl rfl rfl rfl (zad 3 rfl)))
    ·
     intro vf pf hR
     have e4 := hR 4 (by decide)
     exact olQ rfl (sk 34 (congrArg some e4.1) (zak _)) (zbz (zav (u := (cs.getD ((((n.gs.getD (((k : Int) - n.fst).toNat) an0).a) / 2).toNat) cgrp0).v) rfl rfl rfl (zad 3 rfl) (zbm cgC (fun r => r.v) (fun _ => rfl) cs cgrp0 (show (((n.gs.getD (((k : Int) - n.fst).toNat) an0).a) / 2).toNat < _ by omega))))
    ·
     intro vf pf hR
     exact ovQ rfl (zau [5] rfl) (zbz (zae rfl))
    ·
     intro vf pf hR
     exact ovQ rfl (zau [8] rfl) (zbz (fdQ 1 rfl rfl rfl))
    ·
     intro vf pf hR
     have e7 := hR 7 (by decide)
     exact olQ rfl (sk 37 (congrArg some e7.1) (zak _)) (zbz (zan rfl rfl rfl (zah 0 rfl rfl)))
    ·
     intro vf pf hR
     have e8 := hR 8 (by decide)
     exact ovQ rfl (sk 38 (congrArg some e8.1) (zak _)) (zbz (zdy rfl rfl rfl (by refine ⟨?_, ?_, ?_⟩ <;> omega)))
    ·
     intro vf pf hR
     have e6 := hR 6 (by decide)
     have e9 := hR 9 (by decide)
     exact olQ rfl (sk 36 (congrArg some e6.1) (sk 39 (congrArg some e9.1) (zak _))) (zbz (riQ 1 rfl rfl rfl rfl (zad 3 rfl)))
    ·
     intro vf pf hR
     have e10 := hR 10 (by decide)
     exact olQ rfl (sk 40 (congrArg some e10.1) (zak _)) (zbz (zav (u := (cs.getD ((((n.gs.getD (((k : Int) - n.fst).toNat) an0).b) / 2).toNat) cgrp0).v) rfl rfl rfl (zad 3 rfl) (zbm cgC (fun r => r.v) (fun _ => rfl) cs cgrp0 (show (((n.gs.getD (((k : Int) - n.fst).toNat) an0).b) / 2).toNat < _ by omega))))
    intro vf pf hR
    have e5 := hR 5 (by decide)
    have e11 := hR 11 (by decide)
    exact olQ rfl (sk 35 (congrArg some e5.1) (sk 41 (congrArg some e11.1) (zak _))) (zas rfl rfl (fun w hm => l13JoinU_ret (cs.getD ((((n.gs.getD (((k : Int) - n.fst).toNat) an0).a) / 2).toNat) cgrp0).rs (cs.getD ((((n.gs.getD (((k : Int) - n.fst).toNat) an0).b) / 2).toNat) cgrp0).rs _ _ w ((hs w (hm.holds _ (zbw (i := 2) rfl))).at (k := ((((n.gs.getD (((k : Int) - n.fst).toNat) an0).a) / 2).toNat)) (by omega)) ((hs w (hm.holds _ (zbw (i := 2) rfl))).at (k := ((((n.gs.getD (((k : Int) - n.fst).toNat) an0).b) / 2).toNat)) (by omega)) hA.four hB.four hA8 hB8))
   intro vf pf hR
   have e12 : (fun u_ p_ => ∃ (ps : List HP) (us : List CRow), p_ = [rowE 26 1 u_ us.length (us.flatMap crowC), bigE ps] ∧ (∀ w, (bigE ps).holds w → RdsAll w us) ∧ us.length ≤ 7 ∧ (∀ r ∈ us, r.xs.length ≤ 4) ∧ ∀ r ∈ us, JnX (cs.getD ((((n.gs.getD (((k : Int) - n.fst).toNat) an0).a) / 2).toNat) cgrp0).rs (cs.getD ((((n.gs.getD (((k : Int) - n.fst).toNat) an0).b) / 2).toNat) cgrp0).rs r) (vf 12) (pf 12) := hR 12 (by decide)
   obtain ⟨v10, vE12⟩ : ∃ x, vf 12 = x := ⟨_, rfl⟩
   obtain ⟨p11, pE12⟩ : ∃ x, pf 12 = x := ⟨_, rfl⟩
   have hR12 := e12
   rw [vE12, pE12] at hR12
   obtain ⟨qs, us, rfl, hq, hul, hu4, huj⟩ := hR12
   have q0 := hR 0 (by decide)
   have q1 := hR 1 (by decide)
   have q2 := hR 2 (by decide)
   have q3 := hR 3 (by decide)
   have q4 := hR 4 (by decide)
   have q5 := hR 5 (by decide)
   have q6 := hR 6 (by decide)
   have q7 := hR 7 (by decide)
   have q8 := hR 8 (by decide)
   have q9 := hR 9 (by decide)
   have q10 := hR 10 (by decide)
   have q11 := hR 11 (by decide)
   refine zcx (zbx [21, 14, 8, 7, 6, 5, 4, 2, 1, 0] _ (sk 42 (congrArg some vE12) (zak _)) rfl) (by simp only [pE12, vE12, q0.2, q1.2, q2.2, q3.2, q4.2, q5.2, q6.2, q7.2, q8.2, q9.2, q10.2, q11.2, fS] <;> rfl) ?_
   simp only [List.drop_succ_cons, List.drop_zero]
   refine zbb 1 rfl (reQ 3 rfl ?_)
   refine zea rfl (zaw (z := .int .i64 0) (s := 1) (cs := ([(k : Int)].map (Value.int .i64))) rfl Try.underlying26 rfl (by decide) rfl (by kernel_rfl) rfl) ?_
   intro g13
   refine zea rfl (zaw (z := .slice none 0 0) (s := 1) (cs := [.slice (some ⟨g13, 0, none⟩) 1 1]) rfl Try.underlying36 rfl (by decide) rfl (by kernel_rfl) rfl) ?_
   intro g14
   refine zck (i := 2) (z := .slice none 0 0) (bytes := 24) (n' := (us ++ [CRow.mk (.slice (some ⟨g13, 0, none⟩) 1 1) [(k : Int)]]).length) (xs' := ((us ++ [CRow.mk (.slice (some ⟨g13, 0, none⟩) 1 1) [(k : Int)]]).flatMap crowC)) rfl rfl rfl rfl Try.underlying36 (by kernel_rfl) rfl rfl rfl rfl (zad 0 rfl) (by simp [Value.oneCell']) (by first | omega | (simp; omega)) (zcc us [CRow.mk (.slice (some ⟨g13, 0, none⟩) 1 1) [(k : Int)]]) (by rw [List.flatMap_append]; rfl) (fun _ => rfl) ?_
   intro v15
   refine zea rfl (zfg rfl Try.underlying52 (by kernel_rfl) rfl (fun w hm => (zad 2 rfl w hm).one)) ?_
   intro g16
   refine hl_one (i := 3) rfl (fun ho17 => ?_)
   refine zck (i := 8) (z := .slice none 0 0) (bytes := 24) (n' := (cs ++ [(CGrp.mk v15 (us ++ [CRow.mk (.slice (some ⟨g13, 0, none⟩) 1 1) [(k : Int)]]))]).length) (xs' := ((cs ++ [(CGrp.mk v15 (us ++ [CRow.mk (.slice (some ⟨g13, 0, none⟩) 1 1) [(k : Int)]]))]).flatMap cgC)) rfl rfl rfl rfl Try.underlying52 (by kernel_rfl) rfl rfl rfl rfl (zad 0 rfl) (fun q hq => by rw [List.mem_singleton] at hq; subst hq; exact ho17) (by omega) (zcc cs [(CGrp.mk v15 (us ++ [CRow.mk (.slice (some ⟨g13, 0, none⟩) 1 1) [(k : Int)]]))]) (by rw [List.flatMap_append]; rfl) (fun _ => rfl) ?_
   intro v18
   refine enQ 1 rfl (zdk (reQ 1 rfl (hvQ rfl (vaQ rfl rfl rfl) (enQ 1 rfl ?_))))
   refine zcg 10 [9, 8, 4, 2, 3, 7] rfl rfl (by decide) ?_
   refine hq_pool 4 rfl ?_
   exact zbe (k + 1) (cs ++ [(CGrp.mk v15 (us ++ [CRow.mk (.slice (some ⟨g13, 0, none⟩) 1 1) [(k : Int)]]))]) v18 [bigE ps, rowE 26 1 v15 ((us ++ [CRow.mk (.slice (some ⟨g13, 0, none⟩) 1 1) [(k : Int)]]).length) ((us ++ [CRow.mk (.slice (some ⟨g13, 0, none⟩) 1 1) [(k : Int)]]).flatMap crowC), rowE 3 1 (.slice (some ⟨g13, 0, none⟩) 1 1) 1 ([(k : Int)].map (Value.int .i64)), bigE qs] ⟨by omega, by omega, by rw [List.length_append, List.length_singleton]; omega, hg.app hcl (GrpX.more hn (by omega) (by omega) hA hB (Int.toNat_of_nonneg (by omega)) (Int.toNat_of_nonneg (by omega)) hul hu4 huj), fun w hw => (hs w (zcy hw List.mem_cons_self)).app (rds_cl_of' (zcz (zcy hw (List.mem_cons_of_mem _ List.mem_cons_self))) (fun r hr => (List.mem_append.1 hr).elim (fun h => hq w (zcy hw (List.mem_cons_of_mem _ (List.mem_cons_of_mem _ (List.mem_cons_of_mem _ List.mem_cons_self)))) r h) (fun h => by rw [List.mem_singleton] at h; subst h; exact zcz (zcy hw (List.mem_cons_of_mem _ (List.mem_cons_of_mem _ List.mem_cons_self))))))⟩ (by omega) (saQ rfl) (pfQ rfl)
  refine ntQ (zao rfl (zcw (reQ 3 rfl ?_)))
  refine zea rfl (zaw (z := .int .i64 0) (s := 1) (cs := ([(k : Int)].map (Value.int .i64))) rfl Try.underlying26 rfl (by decide) rfl (by kernel_rfl) rfl) ?_
  intro g19
  refine zea rfl (zaw (z := .slice none 0 0) (s := 1) (cs := [.slice (some ⟨g19, 0, none⟩) 1 1]) rfl Try.underlying36 rfl (by decide) rfl (by kernel_rfl) rfl) ?_
  intro g20
  refine zck (i := 2) (z := .slice none 0 0) (bytes := 24) (n' := ([CRow.mk (.slice (some ⟨g19, 0, none⟩) 1 1) [(k : Int)]]).length) (xs' := (([CRow.mk (.slice (some ⟨g19, 0, none⟩) 1 1) [(k : Int)]]).flatMap crowC)) rfl rfl rfl rfl Try.underlying36 (by kernel_rfl) rfl rfl rfl rfl (zad 0 rfl) (by simp [Value.oneCell']) (by first | omega | (simp; omega)) (Nat.zero_add _) (List.nil_append _) (fun _ => rfl) ?_
  intro v21
  refine zea rfl (zfg rfl Try.underlying52 (by kernel_rfl) rfl (fun w hm => (zad 2 rfl w hm).one)) ?_
  intro g22
  refine hl_one (i := 3) rfl (fun ho23 => ?_)
  refine zck (i := 5) (z := .slice none 0 0) (bytes := 24) (n' := (cs ++ [(CGrp.mk v21 ([CRow.mk (.slice (some ⟨g19, 0, none⟩) 1 1) [(k : Int)]]))]).length) (xs' := ((cs ++ [(CGrp.mk v21 ([CRow.mk (.slice (some ⟨g19, 0, none⟩) 1 1) [(k : Int)]]))]).flatMap cgC)) rfl rfl rfl rfl Try.underlying52 (by kernel_rfl) rfl rfl rfl rfl (zad 0 rfl) (fun q hq => by rw [List.mem_singleton] at hq; subst hq; exact ho23) (by omega) (zcc cs [(CGrp.mk v21 ([CRow.mk (.slice (some ⟨g19, 0, none⟩) 1 1) [(k : Int)]]))]) (by rw [List.flatMap_append]; rfl) (fun _ => rfl) ?_
  intro v24
  refine enQ 1 rfl (zdk (reQ 1 rfl (hvQ rfl (vaQ rfl rfl rfl) (enQ 1 rfl ?_))))
  refine zcg 7 [6, 5, 2, 3, 4] rfl rfl (by decide) ?_
  refine hq_pool 3 rfl ?_
  exact zbe (k + 1) (cs ++ [(CGrp.mk v21 ([CRow.mk (.slice (some ⟨g19, 0, none⟩) 1 1) [(k : Int)]]))]) v24 [bigE ps, rowE 26 1 v21 (([CRow.mk (.slice (some ⟨g19, 0, none⟩) 1 1) [(k : Int)]]).length) (([CRow.mk (.slice (some ⟨g19, 0, none⟩) 1 1) [(k : Int)]]).flatMap crowC), rowE 3 1 (.slice (some ⟨g19, 0, none⟩) 1 1) 1 ([(k : Int)].map (Value.int .i64))] ⟨by omega, by omega, by rw [List.length_append, List.length_singleton]; omega, hg.app hcl GrpX.one, fun w hw => (hs w (zcy hw List.mem_cons_self)).app (rds_cl_of' (zcz (zcy hw (List.mem_cons_of_mem _ List.mem_cons_self))) (fun r hr => by rw [List.mem_singleton] at hr; subst hr; exact zcz (zcy hw (List.mem_cons_of_mem _ (List.mem_cons_of_mem _ List.mem_cons_self)))))⟩ (by omega) (saQ rfl) (pfQ rfl)
 refine ntQ (zao rfl ?_)
 refine zbi (zep ?_)
 refine zal (zaj (zbh 2 rfl ?_))
 refine zax (zcg 3 [1, 0] rfl rfl (by decide) ?_)
 refine hq_pool 2 rfl ?_
 exact zct (post := [bigE [bigE ps, rowE 36 1 gv cs.length (cs.flatMap cgC)]]) rfl rfl (.refl _) ⟨_, cs, rfl, fun w hw => ⟨zcz (zcy hw (List.mem_cons_of_mem _ List.mem_cons_self)), hs w (zcy hw List.mem_cons_self)⟩, by omega, hg⟩
theorem EnumU_ret (n : Nt) (node : Int) (w : World) (hr : RdsNt w n) (hn : NtOk n) (hnd : 0 ≤ node ∧ node < n.cnt) :
   Calls Try.prog 11 #[.agg #[.int .i64 n.ins, n.sv, n.av, n.ov], .int .i64 node] w (Ret w (fun u_ p_ => ∃ (ps : List HP) (us : List CRow), p_ = [bigE ps] ∧ (∀ w, (bigE ps).holds w → RdsCl w u_ us) ∧ GrpX n node us)) := by
 have hi0 := hn.i0
 have hi1 := hn.i1
 have hs1 := hn.s1
 have ha1 := hn.a1
 have ho1 := hn.o1
 have hcnt : n.cnt = 1 + n.ins + n.ss.length + n.gs.length := rfl
 have hfst : n.fst = 1 + n.ins + n.ss.length := rfl
 refine zbg (N := 48) (args := [.agg #[.int .i64 n.ins, n.sv, n.av, n.ov], .int .i64 node]) Try.func11 rfl rfl (srQ ?_)
 refine zei rfl (zco rfl rfl) ?_
 intro b1
 refine zbb 1 rfl (srQ ?_)
 refine zea rfl (zcl (s := 1) rfl Try.underlying36 rfl) ?_
 intro g2
 refine zbb 1 rfl (ssrQ (hvQ rfl (zaf (cs := [.int .i64 n.ins, n.sv, n.av, n.ov]) rfl rfl rfl rfl rfl (zag 1 rfl 0 rfl)) ?_))
 refine zdw rfl (zas rfl rfl (fun w hm => zaz (zey n w (hr.below hm.bel) hn))) (zab 3 rfl ?_)
 refine zbr rfl rfl rfl rfl rfl rfl (fun h3 => absurd h3 (by omega)) (fun h3 => ?_)
 refine zab 3 rfl (hvQ rfl (zaf (cs := [.int .i64 n.ins, n.sv, n.av, n.ov]) rfl rfl rfl rfl rfl (zag 1 rfl 0 rfl)) ?_)
 refine zdw rfl (zas rfl rfl (fun w hm => zaz (zbk n w (hr.below hm.bel) hn))) (zeh rfl rfl rfl rfl rfl rfl (fun h4 => absurd h4 (by omega)) (fun h4 => ?_))
 refine zbb 1 rfl (zao rfl (zcw (srQ (hvQ rfl (zaf (cs := [.int .i64 n.ins, n.sv, n.av, n.ov]) rfl rfl rfl rfl rfl (zag 1 rfl 0 rfl)) (zab 1 rfl ?_)))))
 refine hl_q rfl rfl rfl (zas rfl rfl (fun w hm => l13AllU_ret n node w (hr.below hm.bel) hn hnd)) ?_
 intro v5 p6 hR7
 obtain ⟨as_, cs, rfl, hs, hcl, hg⟩ := hR7
 have hgn := hg.at (k := node.toNat) (by omega)
 have hgl := hgn.len
 refine zbb 1 rfl (zaa (zbh 1 rfl (zba ?_)))
 refine zev _ conv_bg0 ?_
 refine lkQ4 (α := Nat) (β := List CRow) (γ := Value) (δ := List HP) [0, 1, 2, 4, 6, 21] rfl (fun i qs ov ps => [bigE ps, bigE as_, rowE 26 1 ov qs.length (qs.flatMap crowC), boxE b1 #[.int .i64 n.ins, n.sv, n.av, n.ov] 28]) (fun i qs ov ps => [(5, ov), (7, .int .i64 (i : Int))]) (fun i qs ov ps => i ≤ (cs.getD ((node).toNat) cgrp0).rs.length ∧ qs.length = i ∧ (∀ j, j < i → (qs.getD j crow0).xs = ((cs.getD ((node).toNat) cgrp0).rs.getD j crow0).xs) ∧ ∀ w, (bigE ps).holds w → RdsAll w qs) (fun i qs ov ps => (cs.getD ((node).toNat) cgrp0).rs.length - i) 0 [] _ [] ⟨Nat.zero_le _, rfl, (fun j hj => absurd hj (by omega)), fun w _ => RdsAll.nil w⟩ (saQ rfl) (pfQ rfl) ?_
 intro i qs ov ps hi8
 obtain ⟨hi, hql, hq4, hps⟩ := hi8
 refine zaa (zaa (reQ 3 rfl ?_))
 refine hvQ rfl (riQ 1 rfl rfl rfl rfl (fun w hm => (hs w (hm.holds _ (zbw (i := 1) rfl))).1)) (hvQ rfl (zav (u := (cs.getD ((node).toNat) cgrp0).v) rfl rfl rfl (fun w hm => (hs w (hm.holds _ (zbw (i := 1) rfl))).1) (zbm cgC (fun r => r.v) (fun _ => rfl) cs cgrp0 (show (node).toNat < _ by omega))) ?_)
 refine hvQ rfl (lnQ rfl rfl rfl (fun w hm => ((hs w (hm.holds _ (zbw (i := 1) rfl))).2.at (k := node.toNat) (by omega)).row)) (zbr rfl rfl rfl rfl rfl rfl (fun h9 => ?_) (fun h9 => ?_))
 ·
  refine ntQ (zaq rfl (zcw (sbQ (reQ 1 rfl ?_))))
  refine zea rfl (zcl (s := 1) rfl Try.underlying26 rfl) ?_
  intro g10
  refine zab 2 rfl (hvQ rfl (riQ 1 rfl rfl rfl rfl (fun w hm => (hs w (hm.holds _ (zbw (i := 2) rfl))).1)) ?_)
  refine hvQ rfl (zav (u := (cs.getD ((node).toNat) cgrp0).v) rfl rfl rfl (fun w hm => (hs w (hm.holds _ (zbw (i := 2) rfl))).1) (zbm cgC (fun r => r.v) (fun _ => rfl) cs cgrp0 (show (node).toNat < _ by omega))) (zab 1 rfl ?_)
  refine hvQ rfl (riQ 1 rfl rfl rfl rfl (fun w hm => ((hs w (hm.holds _ (zbw (i := 2) rfl))).2.at (k := node.toNat) (by omega)).row)) (hvQ rfl (zav (u := (((cs.getD ((node).toNat) cgrp0).rs).getD i crow0).v) rfl rfl rfl (fun w hm => ((hs w (hm.holds _ (zbw (i := 2) rfl))).2.at (k := node.toNat) (by omega)).row) (zbm crowC (fun r => r.v) (fun _ => rfl) ((cs.getD ((node).toNat) cgrp0).rs) crow0 (show i < _ by omega))) ?_)
  have h4i := hgn.four _ (zbp (es := (cs.getD ((node).toNat) cgrp0).rs) (i := i) (d := crow0) (by omega))
  refine zck (i := 0) (z := .int .i64 0) (bytes := 8) (n' := ((((cs.getD ((node).toNat) cgrp0).rs).getD i crow0).xs).length) (xs' := (((((cs.getD ((node).toNat) cgrp0).rs).getD i crow0).xs).map (Value.int .i64))) rfl rfl rfl rfl Try.underlying26 (by kernel_rfl) rfl rfl rfl rfl (fun w hm => ((hs w (hm.holds _ (zbw (i := 2) rfl))).2.at (k := node.toNat) (by omega)).at (k := i) (by omega)) (zca _) (by first | omega | (simp; done) | (simp; omega)) (Nat.zero_add _) (List.nil_append _) (fun _ => rfl) ?_
  intro v11
  refine zea rfl (zfg rfl Try.underlying36 (by kernel_rfl) rfl (fun w hm => (zad 0 rfl w hm).one)) ?_
  intro g12
  refine hl_one (i := 1) rfl (fun ho13 => ?_)
  refine zck (i := 4) (z := .slice none 0 0) (bytes := 24) rfl rfl rfl rfl Try.underlying36 (by kernel_rfl) rfl rfl rfl rfl (zad 0 rfl) (zar ho13 zbs) (by first | omega | (simp only [List.length_append, List.length_cons, List.length_nil]; omega)) (zcc qs [(CRow.mk v11 (((cs.getD ((node).toNat) cgrp0).rs).getD i crow0).xs)]) (zdt crowC qs (CRow.mk v11 (((cs.getD ((node).toNat) cgrp0).rs).getD i crow0).xs) _ rfl) (fun _ => rfl) ?_
  intro v14
  refine enQ 1 rfl (zdk (reQ 1 rfl (hvQ rfl (vaQ rfl rfl rfl) (enQ 1 rfl ?_))))
  refine zcg 6 [5, 4, 3, 1, 2] rfl rfl (by decide) ?_
  refine hq_pool 2 rfl ?_
  exact zbe (i + 1) (qs ++ [(CRow.mk v11 (((cs.getD ((node).toNat) cgrp0).rs).getD i crow0).xs)]) v14 [bigE ps, rowE 3 1 v11 (((((cs.getD ((node).toNat) cgrp0).rs).getD i crow0).xs).length) (((((cs.getD ((node).toNat) cgrp0).rs).getD i crow0).xs).map (Value.int .i64))] ⟨by omega, by rw [List.length_append, List.length_singleton]; omega, (fun j9 hj9 => by by_cases c9 : j9 < qs.length; (rw [zfx c9]; exact hq4 j9 (by omega)); (have e9 : j9 = qs.length := by omega); rw [e9, List.getD_eq_getElem?_getD, List.getElem?_concat_length, Option.getD_some, hql]), fun w hw => RdsAll.cons (u := CRow.mk v11 ((((cs.getD ((node).toNat) cgrp0).rs).getD i crow0).xs)) (hps w (zcy hw List.mem_cons_self)) (zcz (zcy hw (List.mem_cons_of_mem _ List.mem_cons_self))) (fun q hq => (List.mem_append.1 hq).elim .inr (fun h => .inl (List.mem_singleton.1 h)))⟩ (by omega) (saQ rfl) (pfQ rfl)
 refine ntQ (zao rfl ?_)
 refine zbi (zep ?_)
 refine zal (zaj (zbh 2 rfl ?_))
 refine zax (zcg 4 [2, 0] rfl rfl (by decide) ?_)
 refine hq_pool 2 rfl ?_
 exact zct (post := [bigE [bigE ps, rowE 26 1 ov qs.length (qs.flatMap crowC)]]) rfl rfl (.refl _) ⟨_, qs, rfl, fun w hw => rds_cl_of' (zcz (zcy hw (List.mem_cons_of_mem _ List.mem_cons_self))) (hps w (zcy hw List.mem_cons_self)), (by have h8 : GrpX n node _ := (by have h7 := hgn; rwa [Int.toNat_of_nonneg hnd.1] at h7); exact h8.like (by omega) (fun j hj => hq4 j (by omega)))⟩
open Go.RowKit
theorem sep_enum {n : Nt} {node hh : Int} {ls : List Int} {us : List CRow} {i : Nat} (hX : GrpX n node us) (hi : i + 1 < us.length) (hc : hgS ls (us.getD i crow0).xs + 1 ≤ hh) : SepC n ls node hh (us.getD i crow0).xs := by
  have hm := zbp (es := us) (i := i) (d := crow0) (by omega)
  obtain ⟨c1, c2⟩ := hX.cov _ hm
  refine ⟨fun c hc2 => ⟨⟨(c2 c hc2).1, hX.low i hi c hc2⟩, ?_⟩, c1⟩
  have := (hgS_ht ls (us.getD i crow0).xs).2 c hc2; omega
theorem CutH.is {n : Nt} {ls : List Int} {node h : Int} {xs : List Int} (hc : CutH n ls node h xs) : IsCut n node xs := ⟨hc.asc, hc.len, hc.rch, hc.sep.cov⟩
theorem CutH.not {n : Nt} {ls : List Int} {node h : Int} {xs : List Int} (hc : CutH n ls node h xs) : hasB xs node = false := by
  cases hb : hasB xs node with
  | false => rfl
  | true => have := (hc.sep.lo node (hasBE_mem.1 hb)).1.2; omega
theorem lawsHas_ans (xs : List Int) (x : Int) (v : Value) (w : World) (hv : RdsW w v 1 xs.length (xs.map (Value.int .i64))) (hlen : xs.length ≤ 1000000000) :
   Calls Try.prog 15 #[v, .int .i64 x] w (Ans w (.bool (hasB xs x))) := by
 refine zbg (N := 18) (args := [v, .int .i64 x]) Try.func15 rfl rfl (zbh 1 rfl (zaa (zbh 1 rfl ?_)))
 refine zba ?_
 refine lkQ1 (α := Nat) [0, 1, 4] rfl (fun j => []) (fun j => [(5, .int .i64 (j : Int))]) (fun j => j ≤ xs.length ∧ ∀ i, i < j → xs.getD i 0 ≠ x) (fun j => xs.length - j) 0 ⟨by omega, fun i hi => absurd hi (by omega)⟩ (saQ rfl) (.slnil) ?_
 intro j hi1
 obtain ⟨hk1, hk2⟩ := hi1
 refine zaa (zaa (reQ 2 rfl (hvQ rfl (lnQ rfl rfl rfl (zac hv)) ?_)))
 refine zbr rfl rfl rfl rfl rfl rfl (fun h2 => ?_) (fun h2 => ?_)
 ·
  refine ntQ (zaq rfl (zcw (sbQ (zaa (reQ 2 rfl (hvQ rfl (riQ 1 rfl rfl rfl rfl (zac hv)) (hvQ rfl (liQ rfl rfl rfl (zac hv)) (zab 1 rfl ?_))))))))
  refine zcj rfl rfl rfl rfl rfl rfl (fun h3 => ?_) (fun h3 => ?_)
  ·
   refine ntQ (zaq rfl (zbh 1 rfl ?_))
   refine zax (zat ?_)
   refine rt2Q ?_
   refine zat (zam ?_)
   exact zce rfl rfl (congrArg _ (hasBE_at (j := j) (by omega) (by assumption)).symm)
  refine ntQ (fsQ rfl (zdk (reQ 1 rfl (hvQ rfl (vaQ rfl rfl rfl) (enQ 1 rfl ?_)))))
  exact zci (j + 1) ⟨by omega, fun i hi => by by_cases hij : i = j; (subst hij; assumption); exact hk2 i (by omega)⟩ (by omega) (saQ rfl) (.slnil)
 refine ntQ (zao rfl ?_)
 refine zbi (zep ?_)
 refine zal (zaj (zbh 1 rfl ?_))
 exact zax (zce rfl rfl (congrArg _ (hasBE_no (fun i hi => hk2 i (by omega))).symm))
theorem walk_FnHeightCut (a0 : Option Addr) (len0 cap0 : Nat) (z0 : List Int) (w : World) (hbr : BRow .u8 w a0 len0 cap0 z0) :
   Calls Try.prog 3 #[.slice a0 len0 cap0] w (Ans w (.bool true)) := by
 have hcd0 := cod_le hbr 0
 refine zbg (N := 112) (args := [.slice a0 len0 cap0]) Try.func3 rfl rfl (zbh 1 rfl (zaa (zaa (reQ 1 rfl ?_))))
 refine zdw rfl (zas rfl rfl (fun w hm => zaz (ans_of (big_any a0 len0 cap0 w (hbr.len_le))))) (zbc (fun h1 => ?_) (fun h1 => ?_))
 ·
  have h1p := of_decide_eq_true h1
  refine ntQ (zaq rfl (zbh 1 rfl ?_))
  refine zax (zam ?_)
  exact zce rfl rfl rfl
 have h1p := of_decide_eq_false h1
 refine ntQ (zao rfl (zcw (zaa (reQ 1 rfl ?_))))
 refine hl_q rfl rfl rfl (zas rfl rfl (fun w hm => DrawNode_ret _ _ _ z0 w (hbr.below hm.bel) (by omega))) ?_
 intro v2 p3 hR4
 obtain ⟨n, node, rfl, rfl, ⟨o1n, o2n, o3n⟩, hn, ⟨hnq1, hnq2, hnq3⟩, hnd0, hnd1⟩ := hR4
 have hi0 := hn.i0
 have hi1 := hn.i1
 have hs1 := hn.s1
 have ha1 := hn.a1
 have ho1 := hn.o1
 have hcnt : n.cnt = 1 + n.ins + n.ss.length + n.gs.length := rfl
 have hfst : n.fst = 1 + n.ins + n.ss.length := rfl
 refine zab 3 rfl (zei rfl (zbq (z := .agg #[.int .i64 0, .slice none 0 0, .slice none 0 0, .slice none 0 0]) rfl rfl) ?_)
 intro b5
 refine zbu (cs' := #[.int .i64 n.ins, n.sv, n.av, n.ov]) (i := 0) (off := 0) (us := [.int .i64 n.ins, n.sv, n.av, n.ov]) rfl rfl rfl rfl rfl rfl rfl (zar rfl (zar o1n (zar o2n (zar o3n zbs)))) rfl rfl rfl (zbb 1 rfl (srQ (hvQ rfl (zaf (cs := [.int .i64 n.ins, n.sv, n.av, n.ov]) rfl rfl rfl rfl rfl (zag 0 rfl 0 rfl)) ?_)))
 refine hl_q rfl rfl rfl (zas rfl rfl (fun w hm => LabelsS_ret n w (zfu 1 rfl w hm) hn)) ?_
 intro v6 p7 hR8
 obtain ⟨ls, rfl, hll, hL⟩ := hR8
 refine zbb 1 rfl (zaa ?_)
 refine zbl 6 [[], [0], [], [2], [3], [1, 4]] [21, 22, 23, 24, 25, 26] [.agg #[.int .i64 n.ins, n.sv, n.av, n.ov], .int .i64 n.cnt, .pointer (some ⟨b5, 0 + 2, none⟩), n.av, .int .i64 (n.gs.length : Int), .int .i64 (n.cnt - (n.gs.length : Int))] (by kernel_rfl) rfl ?_ ?_
 ·
  exact ⟨iaQ rfl (zaf (cs := [.int .i64 n.ins, n.sv, n.av, n.ov]) rfl rfl rfl rfl rfl (zag 1 rfl 0 rfl)) rfl, .inl ⟨rfl, zas rfl rfl (fun w hm => zaz (zbk n w (zfu 2 rfl w hm) hn))⟩, iaQ rfl (fdQ 2 rfl rfl rfl) rfl, iaQ rfl (zan rfl rfl rfl (zah 1 rfl rfl)) rfl, iaQ rfl (lnQ rfl rfl rfl (fun w hm => (zfu 2 rfl w hm).an)) rfl, iaQ rfl (vsQ rfl rfl rfl) rfl, trivial⟩
 simp only [List.drop_succ_cons, List.drop_zero]
 refine zbb 1 rfl (zaa (reQ 1 rfl ?_))
 refine zdw rfl (zas rfl rfl (fun w hm => zaz (at_ans hbr 0 (by omega) w hm))) (hvQ rfl (rv_rem rfl rfl rfl (by constructor <;> omega)) (zab 1 rfl ?_))
 obtain ⟨hh, hhe⟩ : ∃ x, (cod z0 len0 0 : Int) % 5 = x := ⟨_, rfl⟩
 rw [hhe]
 have hh5 : 0 ≤ hh ∧ hh ≤ 4 := by omega
 refine ntQ (srQ (hvQ rfl (zaf (cs := [.int .i64 n.ins, n.sv, n.av, n.ov]) rfl rfl rfl rfl rfl (zag 1 rfl 0 rfl)) (zab 2 rfl ?_)))
 refine hl_q rfl rfl rfl (zas rfl rfl (fun w hm => HeightCut_ret n node hh w (zfu 2 rfl w hm) hn ⟨hnd0, hnd1⟩)) ?_
 intro v9 p10 hR11
 obtain ⟨xs, cv, okb, rfl, rfl, hnil, hcq⟩ := hR11
 have hcl := hcq ls hll hL
 refine zab 3 rfl (zbc (fun h12 => ?_) (fun h12 => ?_))
 ·
  refine zbb 2 rfl (zaa (zaa (reQ 3 rfl ?_)))
  refine zeh rfl rfl rfl rfl rfl rfl (fun h13 => ?_) (fun h13 => ?_)
  ·
   refine zab 2 rfl (zeh rfl rfl rfl rfl rfl rfl (fun h14 => ?_) (fun h14 => ?_))
   ·
    refine zab 5 rfl (hvQ rfl (riQ 1 rfl rfl rfl rfl (zad 1 rfl)) (hvQ rfl (lzQ rfl rfl rfl (zad 1 rfl)) ?_))
    refine zeh rfl rfl rfl rfl rfl rfl (fun h15 => ?_) (fun h15 => ?_)
    ·
     refine zab 1 rfl (hvQ rfl (rv_bneq (m := true) (n := true) rfl Try.underlying4 rfl rfl) (ntQ (zao rfl (zcw (ssrQ (enQ 2 rfl ?_))))))
     refine zaj (zao rfl (zcw (srQ ?_)))
     have hcu := hcl.2 (by assumption)
     have hxl4 := hcu.len
     refine hvQ rfl (zaf (cs := [.int .i64 n.ins, n.sv, n.av, n.ov]) rfl rfl rfl rfl rfl (zag 2 rfl 0 rfl)) (zab 1 rfl ?_)
     refine hl_q rfl rfl rfl (zas rfl rfl (fun w hm => EnumU_ret n node w (zfu 3 rfl w hm) hn ⟨hnd0, hnd1⟩)) ?_
     intro v16 p17 hR18
     obtain ⟨qs, us, rfl, hq, hX⟩ := hR18
     have hus0 := hX.pos
     have hus8 := hX.len
     refine zbb 1 rfl (zaa (zbh 1 rfl (zba ?_)))
     refine lkQ1 (α := Nat) [0, 2, 3, 4, 5, 6, 7, 8, 9, 10, 13, 53, 55] rfl (fun i => [bigE qs, rowE 3 1 cv xs.length (xs.map (Value.int .i64)), rowE 3 1 v6 ls.length (ls.map (Value.int .i64)), boxE b5 #[.int .i64 n.ins, n.sv, n.av, n.ov] 28, ntE n]) (fun i => [(11, .int .i64 (i : Int))]) (fun i => i ≤ us.length) (fun i => us.length - i) 0 (Nat.zero_le _) (saQ rfl) (pfQ rfl) ?_
     intro i hi19
     have hi := hi19
     refine zaa (zaa (reQ 1 rfl (hvQ rfl (vaQ rfl rfl rfl) (zab 1 rfl ?_))))
     refine hvQ rfl (lnQ rfl rfl rfl (fun w hm => (hq w (hm.holds _ (zbw (i := 0) rfl))).row)) (zbr rfl rfl rfl rfl rfl rfl (fun h20 => ?_) (fun h20 => ?_))
     ·
      refine ntQ (zaq rfl (zcw (sbQ (zaa ?_))))
      have hui := zbp (es := us) (i := i) (d := crow0) (by omega)
      have hu4 := hX.four _ hui
      have hci : ∀ c ∈ (us.getD i crow0).xs, 0 ≤ c ∧ c < n.cnt := fun c hc => by have := (hX.cov _ hui).2 c hc; omega
      rcases Bool.eq_false_or_eq_true (decide ((hgS ls (us.getD i crow0).xs + 1) ≤ hh)) with hb21 | hb21
      ·
       have hb21p : (hgS ls (us.getD i crow0).xs + 1) ≤ hh := of_decide_eq_true hb21
       have hui := zbp (es := us) (i := i) (d := crow0) (by omega)
       have hu4 := hX.four _ hui
       have hci : ∀ c ∈ (us.getD i crow0).xs, 0 ≤ c ∧ c < n.cnt := fun c hc => by have := (hX.cov _ hui).2 c hc; omega
       refine zbl 18 [[], [], [], [1, 2], [3], [0, 4], [], [5, 6], [7], [8], [8], [8, 9, 10], [8, 11], [8, 12], [8], [8, 14], [8, 13, 15], [8, 16]] [77, 78, 79, 80, 81, 82, 83, 84, 85, 86, 87, 88, 89, 90, 91, 92, 93, 94] [.agg #[.int .i64 n.ins, n.sv, n.av, n.ov], v16, .int .i64 (i : Int), elP v16 (((i : Int)).toNat * 1), (us.getD i crow0).v, .int .i64 (hgS ls (us.getD i crow0).xs + 1), .int .i64 hh, .bool true, .bool true, v16, .int .i64 (i : Int), elP v16 (((i : Int)).toNat * 1), (us.getD i crow0).v, .int .i64 (((us.getD i crow0).xs).length : Int), cv, .int .i64 (xs.length : Int), .bool (decide ((((us.getD i crow0).xs).length : Int) < (xs.length : Int))), .bool (decide ((((us.getD i crow0).xs).length : Int) < (xs.length : Int)))] (by kernel_rfl) rfl ?_ ?_
       ·
        exact ⟨iaQ rfl (zaf (cs := [.int .i64 n.ins, n.sv, n.av, n.ov]) rfl rfl rfl rfl rfl (zag 3 rfl 0 rfl)) rfl, iaQ rfl (zae rfl) rfl, iaQ rfl (zae rfl) rfl, iaQ rfl (riQ 1 rfl rfl rfl rfl (fun w hm => (hq w (hm.holds _ (zbw (i := 0) rfl))).row)) rfl, iaQ rfl (zav (u := (us.getD i crow0).v) rfl rfl rfl (fun w hm => (hq w (hm.holds _ (zbw (i := 0) rfl))).row) (zbm crowC (fun r => r.v) (fun _ => rfl) us crow0 (show i < _ by omega))) rfl, .inl ⟨rfl, zas rfl rfl (fun w hm => CutHeightS_at n ls (us.getD i crow0).xs _ w (zfu 4 rfl w hm) hn ((hq w (hm.holds _ (zbw (i := 0) rfl))).at (k := i) (by omega)) hci (by omega) hll hL)⟩, iaQ rfl (zae rfl) rfl, .inl ⟨rfl, zcq (zbo rfl rfl rfl rfl) hb21⟩, iaQ rfl (zae rfl) rfl, iaQ rfl (zae rfl) rfl, iaQ rfl (zae rfl) rfl, iaQ rfl (riQ 1 rfl rfl rfl rfl (fun w hm => (hq w (hm.holds _ (zbw (i := 0) rfl))).row)) rfl, iaQ rfl (zav (u := (us.getD i crow0).v) rfl rfl rfl (fun w hm => (hq w (hm.holds _ (zbw (i := 0) rfl))).row) (zbm crowC (fun r => r.v) (fun _ => rfl) us crow0 (show i < _ by omega))) rfl, iaQ rfl (lnQ rfl rfl rfl (fun w hm => (hq w (hm.holds _ (zbw (i := 0) rfl))).at (k := i) (by omega))) rfl, iaQ rfl (zae rfl) rfl, iaQ rfl (lnQ rfl rfl rfl (zad 1 rfl)) rfl, iaQ rfl (zbo rfl rfl rfl rfl) rfl, iaQ rfl (zae rfl) rfl, trivial⟩
       simp only [List.drop_succ_cons, List.drop_zero]
       refine ntQ ?_
       refine zgf rfl (fun h22 => ?_) (fun h22 => ?_)
       ·
        have h22p : (((us.getD i crow0).xs).length : Int) < (xs.length : Int) := of_decide_eq_true h22
        refine zbh 1 rfl ?_
        refine zax (zat ?_)
        refine rt2Q ?_
        refine zat (zam ?_)
        exact absurd ((hcl.2 (by assumption)).least _ (sep_enum (i := i) hX (by omega) (by omega))) (by omega)
       have h22p : ¬ ((((us.getD i crow0).xs).length : Int) < (xs.length : Int)) := of_decide_eq_false h22
       refine zdg (zdk (reQ 1 rfl (hvQ rfl (vaQ rfl rfl rfl) (enQ 1 rfl ?_))))
       exact zci (i + 1) (by omega) (by omega) (saQ rfl) (pfQ rfl)
      have hb21p : ¬ ((hgS ls (us.getD i crow0).xs + 1) ≤ hh) := of_decide_eq_false hb21
      have hui := zbp (es := us) (i := i) (d := crow0) (by omega)
      have hu4 := hX.four _ hui
      have hci : ∀ c ∈ (us.getD i crow0).xs, 0 ≤ c ∧ c < n.cnt := fun c hc => by have := (hX.cov _ hui).2 c hc; omega
      refine zbl 18 [[], [], [], [1, 2], [3], [0, 4], [], [5, 6], [7], [8], [8], [8], [8], [8], [8], [8], [8], [8, 16]] [77, 78, 79, 80, 81, 82, 83, 84, 85, 86, 87, 88, 89, 90, 91, 92, 93, 94] [.agg #[.int .i64 n.ins, n.sv, n.av, n.ov], v16, .int .i64 (i : Int), elP v16 (((i : Int)).toNat * 1), (us.getD i crow0).v, .int .i64 (hgS ls (us.getD i crow0).xs + 1), .int .i64 hh, .bool false, .bool false, undef, undef, undef, undef, undef, undef, undef, undef, .bool false] (by kernel_rfl) rfl ?_ ?_
      ·
       exact ⟨iaQ rfl (zaf (cs := [.int .i64 n.ins, n.sv, n.av, n.ov]) rfl rfl rfl rfl rfl (zag 3 rfl 0 rfl)) rfl, iaQ rfl (zae rfl) rfl, iaQ rfl (zae rfl) rfl, iaQ rfl (riQ 1 rfl rfl rfl rfl (fun w hm => (hq w (hm.holds _ (zbw (i := 0) rfl))).row)) rfl, iaQ rfl (zav (u := (us.getD i crow0).v) rfl rfl rfl (fun w hm => (hq w (hm.holds _ (zbw (i := 0) rfl))).row) (zbm crowC (fun r => r.v) (fun _ => rfl) us crow0 (show i < _ by omega))) rfl, .inl ⟨rfl, zas rfl rfl (fun w hm => CutHeightS_at n ls (us.getD i crow0).xs _ w (zfu 4 rfl w hm) hn ((hq w (hm.holds _ (zbw (i := 0) rfl))).at (k := i) (by omega)) hci (by omega) hll hL)⟩, iaQ rfl (zae rfl) rfl, .inl ⟨rfl, zcq (zbo rfl rfl rfl rfl) hb21⟩, iaQ rfl (zae rfl) rfl, .inr ⟨rfl, rfl⟩, .inr ⟨rfl, rfl⟩, .inr ⟨rfl, rfl⟩, .inr ⟨rfl, rfl⟩, .inr ⟨rfl, rfl⟩, .inr ⟨rfl, rfl⟩, .inr ⟨rfl, rfl⟩, .inr ⟨rfl, rfl⟩, iaQ rfl (zae rfl) rfl, trivial⟩
      simp only [List.drop_succ_cons, List.drop_zero]
      refine ntQ (fsQ rfl (zdk (reQ 1 rfl (hvQ rfl (vaQ rfl rfl rfl) (enQ 1 rfl ?_)))))
      exact zci (i + 1) (by omega) (by omega) (saQ rfl) (pfQ rfl)
     refine ntQ (zao rfl ?_)
     refine zbi (zep ?_)
     refine zal (zaj (srQ (hvQ rfl (zaf (cs := [.int .i64 n.ins, n.sv, n.av, n.ov]) rfl rfl rfl rfl rfl (zag 3 rfl 0 rfl)) (zab 2 rfl ?_))))
     refine zdw rfl (zas rfl rfl (fun w hm => zaz (implCutOk_yes n node xs _ w (zfu 4 rfl w hm) hn ((zad 1 rfl) w hm) hcu.is ⟨hnd0, hnd1⟩))) (zab 1 rfl (hvQ rfl (zaf (cs := [.int .i64 n.ins, n.sv, n.av, n.ov]) rfl rfl rfl rfl rfl (zag 3 rfl 0 rfl)) (zab 1 rfl ?_)))
     refine hl_q rfl rfl rfl (zas rfl rfl (fun w hm => CutHeightI_ret n xs _ w (zfu 4 rfl w hm) hn ((zad 1 rfl) w hm) (fun c hc => by have := (hcu.sep.lo c hc).1; omega) (by omega))) ?_
     intro v23 p24 hR25
     obtain ⟨mI, rfl, rfl, hmI⟩ := hR25
     have hmi := hmI ls hll hL hh (by omega) (fun c hc => (hcu.sep.lo c hc).2)
     refine zab 1 rfl (hl_leq rfl rfl rfl rfl rfl rfl (fun h26 => ?_) (fun h26 => ?_))
     ·
      refine zab 4 rfl (zdw rfl (zas rfl rfl (fun w hm => zaz (lawsHas_ans xs node _ w ((zad 1 rfl) w hm) (by omega)))) ?_)
      refine zbc (fun h27 => absurd ((hcu.not).symm.trans h27) (by decide)) (fun h27 => ?_)
      refine zbb 3 rfl ?_
      exact zax (zce rfl rfl rfl)
     refine zbb 8 rfl ?_
     exact zax (absurd ((hcl.2 (by assumption)).least _ (sep_enum (i := i) hX (by omega) (by omega))) (by omega))
    refine zab 1 rfl (hvQ rfl (rv_bneq (m := true) (n := false) rfl Try.underlying4 rfl rfl) (ntQ (zaq rfl (zbh 1 rfl ?_))))
    refine zax (zam ?_)
    exfalso
    first | omega | (have hq9 := hcl.1.1 (by assumption); unfold lbI at hq9; omega) | exact absurd (hcl.1.2 ⟨by omega, by omega, by unfold lbI; omega⟩) (Bool.eq_false_iff.1 (by assumption)) | (have hq8 := hnil (by assumption); subst hq8; have hq7 := zdx hn hll hll2 hL hL2; subst hq7; simp_all)
   refine zab 9 rfl (hvQ rfl (rv_bneq (m := true) (n := false) rfl Try.underlying4 rfl rfl) (ntQ (zaq rfl (zaa (reQ 1 rfl (?_))))))
   refine ntQ ?_
   refine zax (zam ?_)
   exfalso
   first | omega | (have hq9 := hcl.1.1 (by assumption); unfold lbI at hq9; omega) | exact absurd (hcl.1.2 ⟨by omega, by omega, by unfold lbI; omega⟩) (Bool.eq_false_iff.1 (by assumption)) | (have hq8 := hnil (by assumption); subst hq8; have hq7 := zdx hn hll hll2 hL hL2; subst hq7; simp_all)
  refine zab 12 rfl (hvQ rfl (rv_bneq (m := true) (n := false) rfl Try.underlying4 rfl rfl) (ntQ (zaq rfl (srQ ?_))))
  refine zbb 1 rfl ?_
  refine zax (zam ?_)
  exfalso
  first | omega | (have hq9 := hcl.1.1 (by assumption); unfold lbI at hq9; omega) | exact absurd (hcl.1.2 ⟨by omega, by omega, by unfold lbI; omega⟩) (Bool.eq_false_iff.1 (by assumption)) | (have hq8 := hnil (by assumption); subst hq8; have hq7 := zdx hn hll hll2 hL hL2; subst hq7; simp_all)
 refine zbb 2 rfl (zaa (zaa (reQ 3 rfl ?_)))
 refine zeh rfl rfl rfl rfl rfl rfl (fun h28 => ?_) (fun h28 => ?_)
 ·
  refine zab 2 rfl (zeh rfl rfl rfl rfl rfl rfl (fun h29 => ?_) (fun h29 => ?_))
  ·
   refine zab 5 rfl (hvQ rfl (riQ 1 rfl rfl rfl rfl (zad 1 rfl)) (hvQ rfl (lzQ rfl rfl rfl (zad 1 rfl)) ?_))
   refine zeh rfl rfl rfl rfl rfl rfl (fun h30 => ?_) (fun h30 => ?_)
   ·
    refine zab 1 rfl (hvQ rfl (rv_bneq (m := false) (n := true) rfl Try.underlying4 rfl rfl) (ntQ (zaq rfl (zbh 1 rfl ?_))))
    refine zax (zam ?_)
    exfalso
    first | omega | (have hq9 := hcl.1.1 (by assumption); unfold lbI at hq9; omega) | exact absurd (hcl.1.2 ⟨by omega, by omega, by unfold lbI; omega⟩) (Bool.eq_false_iff.1 (by assumption)) | (have hq8 := hnil (by assumption); subst hq8; have hq7 := zdx hn hll hll2 hL hL2; subst hq7; simp_all)
   refine zab 1 rfl (hvQ rfl (rv_bneq (m := false) (n := false) rfl Try.underlying4 rfl rfl) (ntQ (zao rfl (zcw (ssrQ (enQ 2 rfl ?_))))))
   refine zaj (zaq rfl (srQ ?_))
   have hnx := hnil (by assumption)
   have hnl : xs.length = 0 := by rw [hnx]; rfl
   refine zab 1 rfl (hvQ rfl (lnQ rfl rfl rfl (zad 0 rfl)) ?_)
   refine zcj rfl rfl rfl rfl rfl rfl (fun h31 => ?_) (fun h31 => ?_)
   ·
    refine zab 1 rfl (hvQ rfl (zaf (cs := [.int .i64 n.ins, n.sv, n.av, n.ov]) rfl rfl rfl rfl rfl (zag 2 rfl 0 rfl)) ?_)
    refine hl_q rfl rfl rfl (zas rfl rfl (fun w hm => LabelsI_ret n w (zfu 3 rfl w hm) hn)) ?_
    intro v32 p33 hR34
    obtain ⟨ls2, rfl, hll2, hL2⟩ := hR34
    refine hvQ rfl (lnQ rfl rfl rfl (zad 0 rfl)) (zab 1 rfl (hvQ rfl (lnQ rfl rfl rfl (zad 2 rfl)) ?_))
    refine zcj rfl rfl rfl rfl rfl rfl (fun h35 => ?_) (fun h35 => ?_)
    ·
     refine zbb 2 rfl ?_
     refine zax (zam ?_)
     exact zce rfl rfl rfl
    refine zbb 2 rfl ?_
    refine zax (zam ?_)
    exfalso
    first | omega | (have hq9 := hcl.1.1 (by assumption); unfold lbI at hq9; omega) | exact absurd (hcl.1.2 ⟨by omega, by omega, by unfold lbI; omega⟩) (Bool.eq_false_iff.1 (by assumption)) | (have hq8 := hnil (by assumption); subst hq8; have hq7 := zdx hn hll hll2 hL hL2; subst hq7; simp_all)
   refine zbb 9 rfl ?_
   refine zax (zam ?_)
   exfalso
   first | omega | (have hq9 := hcl.1.1 (by assumption); unfold lbI at hq9; omega) | exact absurd (hcl.1.2 ⟨by omega, by omega, by unfold lbI; omega⟩) (Bool.eq_false_iff.1 (by assumption)) | (have hq8 := hnil (by assumption); subst hq8; have hq7 := zdx hn hll hll2 hL hL2; subst hq7; simp_all)
  refine zab 9 rfl (hvQ rfl (rv_bneq (m := false) (n := false) rfl Try.underlying4 rfl rfl) (ntQ (zao rfl (zcw (zaa (zaa ?_))))))
  refine zai (zbb 2 rfl (zaq rfl (srQ ?_)))
  have hnx := hnil (by assumption)
  have hnl : xs.length = 0 := by rw [hnx]; rfl
  refine zab 1 rfl (hvQ rfl (lnQ rfl rfl rfl (zad 0 rfl)) ?_)
  refine zcj rfl rfl rfl rfl rfl rfl (fun h36 => ?_) (fun h36 => ?_)
  ·
   refine zab 1 rfl (hvQ rfl (zaf (cs := [.int .i64 n.ins, n.sv, n.av, n.ov]) rfl rfl rfl rfl rfl (zag 2 rfl 0 rfl)) ?_)
   refine hl_q rfl rfl rfl (zas rfl rfl (fun w hm => LabelsI_ret n w (zfu 3 rfl w hm) hn)) ?_
   intro v37 p38 hR39
   obtain ⟨ls2, rfl, hll2, hL2⟩ := hR39
   refine hvQ rfl (lnQ rfl rfl rfl (zad 0 rfl)) (zab 1 rfl (hvQ rfl (lnQ rfl rfl rfl (zad 2 rfl)) ?_))
   refine zcj rfl rfl rfl rfl rfl rfl (fun h40 => ?_) (fun h40 => ?_)
   ·
    refine zbb 2 rfl ?_
    refine zax (zam ?_)
    exact zce rfl rfl rfl
   refine zbb 2 rfl ?_
   refine zax (zam ?_)
   exfalso
   first | omega | (have hq9 := hcl.1.1 (by assumption); unfold lbI at hq9; omega) | exact absurd (hcl.1.2 ⟨by omega, by omega, by unfold lbI; omega⟩) (Bool.eq_false_iff.1 (by assumption)) | (have hq8 := hnil (by assumption); subst hq8; have hq7 := zdx hn hll hll2 hL hL2; subst hq7; simp_all)
  refine zbb 9 rfl ?_
  refine zax (zam ?_)
  exfalso
  first | omega | (have hq9 := hcl.1.1 (by assumption); unfold lbI at hq9; omega) | exact absurd (hcl.1.2 ⟨by omega, by omega, by unfold lbI; omega⟩) (Bool.eq_false_iff.1 (by assumption)) | (have hq8 := hnil (by assumption); subst hq8; have hq7 := zdx hn hll hll2 hL hL2; subst hq7; simp_all)
 refine zab 12 rfl (hvQ rfl (rv_bneq (m := false) (n := false) rfl Try.underlying4 rfl rfl) (ntQ (zao rfl (zcw ?_))))
 refine zaa (zbh 2 rfl (zaq rfl (srQ ?_)))
 have hnx := hnil (by assumption)
 have hnl : xs.length = 0 := by rw [hnx]; rfl
 refine zab 1 rfl (hvQ rfl (lnQ rfl rfl rfl (zad 0 rfl)) ?_)
 refine zcj rfl rfl rfl rfl rfl rfl (fun h41 => ?_) (fun h41 => ?_)
 ·
  refine zab 1 rfl (hvQ rfl (zaf (cs := [.int .i64 n.ins, n.sv, n.av, n.ov]) rfl rfl rfl rfl rfl (zag 2 rfl 0 rfl)) ?_)
  refine hl_q rfl rfl rfl (zas rfl rfl (fun w hm => LabelsI_ret n w (zfu 3 rfl w hm) hn)) ?_
  intro v42 p43 hR44
  obtain ⟨ls2, rfl, hll2, hL2⟩ := hR44
  refine hvQ rfl (lnQ rfl rfl rfl (zad 0 rfl)) (zab 1 rfl (hvQ rfl (lnQ rfl rfl rfl (zad 2 rfl)) ?_))
  refine zcj rfl rfl rfl rfl rfl rfl (fun h45 => ?_) (fun h45 => ?_)
  ·
   refine zbb 2 rfl ?_
   refine zax (zam ?_)
   exact zce rfl rfl rfl
  refine zbb 2 rfl ?_
  refine zax (zam ?_)
  exfalso
  first | omega | (have hq9 := hcl.1.1 (by assumption); unfold lbI at hq9; omega) | exact absurd (hcl.1.2 ⟨by omega, by omega, by unfold lbI; omega⟩) (Bool.eq_false_iff.1 (by assumption)) | (have hq8 := hnil (by assumption); subst hq8; have hq7 := zdx hn hll hll2 hL hL2; subst hq7; simp_all)
 refine zbb 9 rfl ?_
 refine zax (zam ?_)
 exfalso
 first | omega | (have hq9 := hcl.1.1 (by assumption); unfold lbI at hq9; omega) | exact absurd (hcl.1.2 ⟨by omega, by omega, by unfold lbI; omega⟩) (Bool.eq_false_iff.1 (by assumption)) | (have hq8 := hnil (by assumption); subst hq8; have hq7 := zdx hn hll hll2 hL hL2; subst hq7; simp_all)
end Go.Proofs.Ytdagfahfgpjglaa
