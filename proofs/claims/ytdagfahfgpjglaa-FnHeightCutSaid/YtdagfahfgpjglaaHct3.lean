/- Texts of the law FnHeightCut, part 3: what it uses. -/
import Derived.Test.YtdagfahfgpjglaaHct2
set_option linter.unusedVariables false
set_option linter.unusedSimpArgs false
set_option maxHeartbeats 4000000
set_option maxRecDepth 100000
namespace Go.Proofs.Ytdagfahfgpjglaa
open Go.RowKit Go.ChangeShapes
open Go.RowKit
open Go.Maps
open Go.ChangeMaps (setBlock heap_setBlock_same heap_setBlock_other)
theorem implCutOk_yes (n : Nt) (node : Int) (cut : List Int) (cv : Value) (w : World) (hr : RdsNt w n) (hn : NtOk n) (hcr : RdsW w cv 1 cut.length (cut.map (Value.int .i64))) (hcut : IsCut n node cut) (hnd : 0 ≤ node ∧ node < n.cnt) :
   Calls Try.prog 13 #[.agg #[.int .i64 n.ins, n.sv, n.av, n.ov], .int .i64 node, cv] w (Ans w (.bool true)) := by
 have hi0 := hn.i0
 have hi1 := hn.i1
 have hs1 := hn.s1
 have ha1 := hn.a1
 have ho1 := hn.o1
 have hcnt : n.cnt = 1 + n.ins + n.ss.length + n.gs.length := rfl
 have hfst : n.fst = 1 + n.ins + n.ss.length := rfl
 have hcl4 := hcut.len
 refine zbg (N := 22) (args := [.agg #[.int .i64 n.ins, n.sv, n.av, n.ov], .int .i64 node, cv]) Try.func13 rfl rfl (srQ ?_)
 refine zei rfl (zco rfl rfl) ?_
 intro b1
 refine zbb 1 rfl (srQ (hvQ rfl (zaf (cs := [.int .i64 n.ins, n.sv, n.av, n.ov]) rfl rfl rfl rfl rfl (zag 0 rfl 0 rfl)) ?_))
 refine zdw rfl (zas rfl rfl (fun w hm => zaz (zfc n w (hr.below hm.bel) hn))) (zab 2 rfl (hvQ rfl (zaf (cs := [.int .i64 n.ins, n.sv, n.av, n.ov]) rfl rfl rfl rfl rfl (zag 0 rfl 0 rfl)) ?_))
 refine zdw rfl (zas rfl rfl (fun w hm => zaz (zbt n w (hr.below hm.bel) hn))) (hvQ rfl (vsQ rfl rfl rfl) ?_)
 refine zdw rfl (zas rfl rfl (fun w hm => zaz (ans_of (zdr _ _ _ w)))) (zbc (fun h2 => ?_) (fun h2 => absurd ((((zeb _ _ _).2 (by omega))).symm.trans h2) (by decide)))
 refine zab 2 rfl (hvQ rfl (zaf (cs := [.int .i64 n.ins, n.sv, n.av, n.ov]) rfl rfl rfl rfl rfl (zag 0 rfl 0 rfl)) (zab 2 rfl ?_))
 refine zdw rfl (zas rfl rfl (fun w hm => zaz (cutOk_yes n node cut cv w (hr.below hm.bel) hn (hcr.below hm.bel) hcut hnd))) (zbb 2 rfl ?_)
 exact zax (zce rfl rfl rfl)
open Go.RowKit
def kidL (n : Nt) (k : Int) : List Int := if n.fst ≤ k ∧ k < n.cnt then (if kdA n k = kdB n k then [kdA n k] else [kdA n k, kdB n k]) else []
theorem kidL_mem {n : Nt} {k c : Int} (hk : k < n.cnt) : c ∈ kidL n k ↔ FanI n k c := by
  unfold kidL FanI
  by_cases h : n.fst ≤ k
  · rw [if_pos ⟨h, hk⟩]
    by_cases e : kdA n k = kdB n k
    · rw [if_pos e, List.mem_singleton]; exact ⟨fun q => ⟨h, .inl q⟩, fun q => q.2.elim (fun x => x) (fun x => x.trans e.symm)⟩
    · rw [if_neg e]; simp [h]
  · rw [if_neg (fun q => h q.1)]; exact ⟨fun q => (by cases q), fun q => absurd q.1 h⟩
theorem kidL_len (n : Nt) (k : Int) : (kidL n k).length ≤ 2 := by unfold kidL; split <;> (try split) <;> simp
theorem kidL_no {n : Nt} {k : Int} (h : ¬ (n.fst ≤ k ∧ k < n.cnt)) : [] = kidL n k := by unfold kidL; rw [if_neg h]
theorem kidL_1 {n : Nt} {k a : Int} (h : n.fst ≤ k ∧ k < n.cnt) (ha : a = kdA n k) (e : kdA n k = kdB n k) : [a] = kidL n k := by unfold kidL; rw [if_pos h, if_pos e, ha]
theorem kidL_2 {n : Nt} {k a b : Int} (h : n.fst ≤ k ∧ k < n.cnt) (ha : a = kdA n k) (hb : b = kdB n k) (e : kdA n k ≠ kdB n k) : [a, b] = kidL n k := by unfold kidL; rw [if_pos h, if_neg e, ha, hb]
theorem row_toK {e : TypeId} {v : Value} {xs ys : List Int} (h : xs = ys) : [rowE e 1 v xs.length (xs.map (Value.int .i64))] = [rowE e 1 v ys.length (ys.map (Value.int .i64))] := by rw [h]
def visE (bF bT bM : Nat) (tv : Value) (n : Nat) (F : Vx → Option Vx) (ts : List Vx) : HP := bigE [boxE bF #[.map (some bM)] 71, boxE bT #[tv] 86, rowQ2 76 tv ts.length (ts.flatMap vxC), frE bM n F]
theorem mpV_st (o : Option Vx) : mpV stV (stV vx0) o = .agg #[.int .i64 ((o.getD vx0).1 : Int), .bool (o.getD vx0).2] := by cases o <;> rfl
theorem hl_unvis {P : Program} {N : Nat} {w0 : World} {l : List HP} {env : List (Nat × Value)} {Q : Post} {ops : Array Oper} {rest : List Oper} {bF bT bM : Nat} {tv : Value} {n : Nat} {F : Vx → Option Vx} {ts : List Vx}
    (k : HL P N ops w0 (boxE bF #[.map (some bM)] 71 :: boxE bT #[tv] 86 :: rowQ2 76 tv ts.length (ts.flatMap vxC) :: frE bM n F :: l) env rest Q) : HL P N ops w0 (visE bF bT bM tv n F ts :: l) env rest Q := hl_conv _ zfy k
theorem zgi {w0 : World} {l : List HP} {bF bT bM : Nat} {tv : Value} {n : Nat} {F : Vx → Option Vx} {ts : List Vx} : Conv w0 (boxE bF #[.map (some bM)] 71 :: boxE bT #[tv] 86 :: rowQ2 76 tv ts.length (ts.flatMap vxC) :: frE bM n F :: l) (visE bF bT bM tv n F ts :: l) :=
  conv_big (ps := [boxE bF #[.map (some bM)] 71, boxE bT #[tv] 86, rowQ2 76 tv ts.length (ts.flatMap vxC), frE bM n F])
theorem isLeaf_yes (n : Nt) (k : Int) (w : World) (hr : RdsNt w n) (hn : NtOk n) :
   Calls Try.prog 55 #[.agg #[.int .i64 n.ins, n.sv, n.av, n.ov], .int .i64 k] w (Ans w (.bool (decide (0 < k ∧ k < n.fst)))) := by
 have hi0 := hn.i0
 have hi1 := hn.i1
 have hs1 := hn.s1
 have ha1 := hn.a1
 have ho1 := hn.o1
 have hcnt : n.cnt = 1 + n.ins + n.ss.length + n.gs.length := rfl
 have hfst : n.fst = 1 + n.ins + n.ss.length := rfl
 refine zbg (N := 13) (args := [.agg #[.int .i64 n.ins, n.sv, n.av, n.ov], .int .i64 k]) Try.func55 rfl rfl (srQ ?_)
 refine zei rfl (zco rfl rfl) ?_
 intro b1
 refine zbb 1 rfl (zaa (reQ 1 rfl ?_))
 refine zes rfl rfl rfl rfl rfl rfl (fun h2 => ?_) (fun h2 => ?_)
 ·
  refine zab 2 rfl (hvQ rfl (zaf (cs := [.int .i64 n.ins, n.sv, n.av, n.ov]) rfl rfl rfl rfl rfl (zag 0 rfl 0 rfl)) ?_)
  refine zdw rfl (zas rfl rfl (fun w hm => zaz (zdu n w (hr.below hm.bel) hn))) (zbr rfl rfl rfl rfl rfl rfl (fun h3 => ?_) (fun h3 => ?_))
  ·
   refine zbb 2 rfl ?_
   exact zax (zce rfl rfl (congrArg _ (by first | exact (decide_eq_true (by omega)).symm | exact (decide_eq_false (by omega)).symm)))
  refine zbb 2 rfl ?_
  exact zax (zce rfl rfl (congrArg _ (by first | exact (decide_eq_true (by omega)).symm | exact (decide_eq_false (by omega)).symm)))
 refine zbb 7 rfl ?_
 exact zax (zce rfl rfl (congrArg _ (by first | exact (decide_eq_true (by omega)).symm | exact (decide_eq_false (by omega)).symm)))
theorem kidsOf_ret (n : Nt) (k : Int) (w : World) (hr : RdsNt w n) (hn : NtOk n) :
   Calls Try.prog 44 #[.agg #[.int .i64 n.ins, n.sv, n.av, n.ov], .int .i64 k] w (Ret w (fun u_ p_ => p_ = [rowE 3 1 u_ (kidL n k).length ((kidL n k).map (Value.int .i64))])) := by
 have hi0 := hn.i0
 have hi1 := hn.i1
 have hs1 := hn.s1
 have ha1 := hn.a1
 have ho1 := hn.o1
 have hcnt : n.cnt = 1 + n.ins + n.ss.length + n.gs.length := rfl
 have hfst : n.fst = 1 + n.ins + n.ss.length := rfl
 refine zbg (N := 36) (args := [.agg #[.int .i64 n.ins, n.sv, n.av, n.ov], .int .i64 k]) Try.func44 rfl rfl (srQ ?_)
 refine zei rfl (zco rfl rfl) ?_
 intro b1
 refine zds 3 1 (zbb 1 rfl (ssrQ (hvQ rfl (zaf (cs := [.int .i64 n.ins, n.sv, n.av, n.ov]) rfl rfl rfl rfl rfl (zag 1 rfl 0 rfl)) (zab 1 rfl ?_))))
 refine zdw rfl (zas rfl rfl (fun w hm => zaz (isAnd_yes n k w (hr.below hm.bel) hn))) (zbc (fun h3 => ?_) (fun h3 => ?_))
 ·
  have h3p := zfw.1 h3
  refine zbb 1 rfl (zao rfl (zcw (zaa ?_)))
  obtain ⟨o1, o2, o3, o4, o5, o6⟩ := nd_ok hn (k := k) (by omega) (by omega)
  unfold ndA at o3 o4
  unfold ndB at o5 o6
  refine zfq rfl 9 [0, 1, 2, 3, 4, 5, 6, 7, 8] (List.take 9 _) (List.drop 9 _) [[], [0], [], [], [3], [2, 4], [1, 5], [6], []] [10, 11, 12, 13, 14, 15, 16, 17, 5] (fun i_ vs_ v_ p_ => match i_ with | 0 => v_ = .pointer (some ⟨b1, 0 + 2, none⟩) ∧ p_ = [] | 1 => v_ = n.av ∧ p_ = [] | 2 => v_ = .int .i64 k ∧ p_ = [] | 3 => v_ = .agg #[.int .i64 n.ins, n.sv, n.av, n.ov] ∧ p_ = [] | 4 => v_ = .int .i64 n.fst ∧ p_ = [] | 5 => v_ = .int .i64 (k - n.fst) ∧ p_ = [] | 6 => v_ = elP n.av ((k - n.fst).toNat * 2) ∧ p_ = [] | 7 => v_ = .agg #[.int .i64 ((n.gs.getD ((k - n.fst).toNat) an0).a), .int .i64 ((n.gs.getD ((k - n.fst).toNat) an0).b)] ∧ p_ = [] | 8 => IsBox #[.int .i64 0, .int .i64 0] 47 v_ p_ | _ => True) (List.take_append_drop 9 _).symm (by kernel_rfl) (by kernel_rfl) rfl rfl ?_ ?_
  ·
   refine ⟨?_, ?_, ?_, ?_, ?_, ?_, ?_, ?_, ?_, trivial⟩
   ·
    intro vf pf hR
    exact ovQ rfl (zau [2] rfl) (zbz (fdQ 2 rfl rfl rfl))
   ·
    intro vf pf hR
    have e0 := hR 0 (by decide)
    exact olQ rfl (sk 10 (congrArg some e0.1) (zak _)) (zbz (zan rfl rfl rfl (zah 1 rfl rfl)))
   ·
    intro vf pf hR
    exact ovQ rfl (zau [1] rfl) (zbz (zae rfl))
   ·
    intro vf pf hR
    exact olQ rfl (zau [2] rfl) (zbz (zaf (cs := [.int .i64 n.ins, n.sv, n.av, n.ov]) rfl rfl rfl rfl rfl (zag 1 rfl 0 rfl)))
   ·
    intro vf pf hR
    have e3 := hR 3 (by decide)
    exact olQ rfl (sk 13 (congrArg some e3.1) (zak _)) (zas rfl rfl (fun w hm => zaz (zdu n w (hr.below hm.bel) hn)))
   ·
    intro vf pf hR
    have e2 := hR 2 (by decide)
    have e4 := hR 4 (by decide)
    exact ovQ rfl (sk 12 (congrArg some e2.1) (sk 14 (congrArg some e4.1) (zak _))) (zbz (vsQ rfl rfl rfl))
   ·
    intro vf pf hR
    have e1 := hR 1 (by decide)
    have e5 := hR 5 (by decide)
    exact olQ rfl (sk 11 (congrArg some e1.1) (sk 15 (congrArg some e5.1) (zak _))) (zbz (riQ 2 rfl rfl rfl rfl (zac hr.an)))
   ·
    intro vf pf hR
    have e6 := hR 6 (by decide)
    exact olQ rfl (sk 16 (congrArg some e6.1) (zak _)) (zbz (zdj (us := [.int .i64 ((n.gs.getD ((k - n.fst).toNat) an0).a), .int .i64 ((n.gs.getD ((k - n.fst).toNat) an0).b)]) rfl rfl rfl rfl (zac hr.an) (by omega) rfl (zeo anC 2 (fun _ => rfl) n.gs an0 (show (k - n.fst).toNat < _ by omega) rfl)))
   intro vf pf hR
   exact olQ rfl (zak _) (zbq (z := .agg #[.int .i64 0, .int .i64 0]) rfl rfl)
  intro vf pf hR
  have e7 := hR 7 (by decide)
  have e8 : IsBox #[.int .i64 0, .int .i64 0] 47 (vf 8) (pf 8) := hR 8 (by decide)
  obtain ⟨b4, vE8, pE8⟩ := e8
  have q0 := hR 0 (by decide)
  have q1 := hR 1 (by decide)
  have q2 := hR 2 (by decide)
  have q3 := hR 3 (by decide)
  have q4 := hR 4 (by decide)
  have q5 := hR 5 (by decide)
  have q6 := hR 6 (by decide)
  have q7 := hR 7 (by decide)
  refine zcx (zbx [4, 2, 1, 0] _ (sk 5 (congrArg some vE8) (sk 9 rfl (sk 17 (congrArg some e7.1) (zak _)))) rfl) (by simp only [pE8, vE8, q0.2, q1.2, q2.2, q3.2, q4.2, q5.2, q6.2, q7.2, fS] <;> rfl) ?_
  simp only [List.drop_succ_cons, List.drop_zero]
  refine zbu (cs' := #[.int .i64 ((n.gs.getD ((k - n.fst).toNat) an0).a), .int .i64 ((n.gs.getD ((k - n.fst).toNat) an0).b)]) (i := 0) (off := 0) (us := [.int .i64 ((n.gs.getD ((k - n.fst).toNat) an0).a), .int .i64 ((n.gs.getD ((k - n.fst).toNat) an0).b)]) rfl rfl rfl rfl rfl rfl rfl (zar rfl (zar rfl zbs)) rfl rfl rfl (ntQ (ssrQ (hvQ rfl (fdQ 0 rfl rfl rfl) (hvQ rfl (zan rfl rfl rfl (zah 0 rfl rfl)) ?_))))
  refine hvQ rfl (zdy rfl rfl rfl (by refine ⟨?_, ?_, ?_⟩ <;> omega)) ?_
  refine hvQ rfl (fdQ 1 rfl rfl rfl) (hvQ rfl (zan rfl rfl rfl (zah 0 rfl rfl)) ?_)
  refine hvQ rfl (zdy rfl rfl rfl (by refine ⟨?_, ?_, ?_⟩ <;> omega)) ?_
  refine zcj rfl rfl rfl rfl rfl rfl (fun h5 => ?_) (fun h5 => ?_)
  ·
   refine ntQ (zaq rfl (srQ (hvQ rfl (fdQ 0 rfl rfl rfl) (hvQ rfl (zan rfl rfl rfl (zah 0 rfl rfl)) ?_))))
   refine hvQ rfl (zdy rfl rfl rfl (by refine ⟨?_, ?_, ?_⟩ <;> omega)) ?_
   refine zea rfl (zaw (z := .int .i64 0) (s := 1) (cs := ([((n.gs.getD ((k - n.fst).toNat) an0).a) / 2].map (Value.int .i64))) rfl Try.underlying26 rfl (by decide) rfl (by kernel_rfl) rfl) ?_
   intro g6
   refine zbb 1 rfl ?_
   refine zax (zam ?_)
   exact zct (post := [rowE 3 1 (.slice (some ⟨g6, 0, none⟩) 1 1) 1 ([((n.gs.getD ((k - n.fst).toNat) an0).a) / 2].map (Value.int .i64))]) rfl rfl (slQ [0] rfl) (row_toK (by first | exact kidL_no (by omega) | exact kidL_1 ⟨by omega, by omega⟩ rfl (by unfold kdA kdB ndA ndB; omega) | exact kidL_2 ⟨by omega, by omega⟩ rfl rfl (by unfold kdA kdB ndA ndB; omega)))
  refine ntQ (zao rfl (zcw (srQ (hvQ rfl (fdQ 0 rfl rfl rfl) (hvQ rfl (zan rfl rfl rfl (zah 0 rfl rfl)) ?_)))))
  refine hvQ rfl (zdy rfl rfl rfl (by refine ⟨?_, ?_, ?_⟩ <;> omega)) ?_
  refine hvQ rfl (fdQ 1 rfl rfl rfl) (hvQ rfl (zan rfl rfl rfl (zah 0 rfl rfl)) ?_)
  refine hvQ rfl (zdy rfl rfl rfl (by refine ⟨?_, ?_, ?_⟩ <;> omega)) ?_
  refine zea rfl (zaw (z := .int .i64 0) (s := 1) (cs := ([((n.gs.getD ((k - n.fst).toNat) an0).a) / 2, ((n.gs.getD ((k - n.fst).toNat) an0).b) / 2].map (Value.int .i64))) rfl Try.underlying26 rfl (by decide) rfl (by kernel_rfl) rfl) ?_
  intro g7
  refine zbb 1 rfl ?_
  exact zax (zct (post := [rowE 3 1 (.slice (some ⟨g7, 0, none⟩) 2 2) 2 ([((n.gs.getD ((k - n.fst).toNat) an0).a) / 2, ((n.gs.getD ((k - n.fst).toNat) an0).b) / 2].map (Value.int .i64))]) rfl rfl (slQ [0] rfl) (row_toK (by first | exact kidL_no (by omega) | exact kidL_1 ⟨by omega, by omega⟩ rfl (by unfold kdA kdB ndA ndB; omega) | exact kidL_2 ⟨by omega, by omega⟩ rfl rfl (by unfold kdA kdB ndA ndB; omega))))
 have h3p := isAnd_not h3
 refine zbb 1 rfl (zaq rfl (srQ ?_))
 refine zds 3 1 (zbb 1 rfl ?_)
 refine zax (zam ?_)
 exact zct (post := [rowE 3 1 (.slice none 0 0) 0 ([])]) rfl rfl (slQ [0] rfl) (row_toK (by first | exact kidL_no (by omega) | exact kidL_1 ⟨by omega, by omega⟩ rfl (by unfold kdA kdB ndA ndB; omega) | exact kidL_2 ⟨by omega, by omega⟩ rfl rfl (by unfold kdA kdB ndA ndB; omega)))
theorem visit_mut (x y : Vx) (bF bT bM : Nat) (tv : Value) (n : Nat) (F : Vx → Option Vx) (ts : List Vx) (w0 : World) (l : List HP) (w : World) (hm0 : Mem w0 (visE bF bT bM tv n F ts :: l) w) (hx : x.1 ≤ 1000000) (hn : n ≤ 100000) (ht : ts.length ≤ 100000) :
   Calls Try.prog 54 #[.agg #[.int .i64 (x.1 : Int), .bool x.2], .agg #[.int .i64 (y.1 : Int), .bool y.2], .pointer (some ⟨bF, 0, none⟩), .pointer (some ⟨bT, 0, none⟩)] w (fun e_ w_ => ∃ v_ p_, e_ = .returned v_ ∧ (fun v_ p_ => ∃ (tv' : Value) (n' : Nat) (F' : Vx → Option Vx) (ts' : List Vx), p_ = visE bF bT bM tv' n' F' ts' ∧ (((F x).isSome = true ∧ n' = n ∧ F' = F ∧ ts' = ts) ∨ ((F x).isSome = false ∧ n' = n + 1 ∧ F' = mpU F x y ∧ ts' = ts ++ [x]))) v_ p_ ∧ Mem w0 (p_ :: l) w_) := by
 refine zfj (N := 23) (args := [.agg #[.int .i64 (x.1 : Int), .bool x.2], .agg #[.int .i64 (y.1 : Int), .bool y.2], .pointer (some ⟨bF, 0, none⟩), .pointer (some ⟨bT, 0, none⟩)]) Try.func54 rfl rfl hm0 (srQ ?_)
 refine hl_unvis (zei rfl (zco rfl rfl) ?_)
 intro b1
 refine zei rfl (zco rfl rfl) ?_
 intro b2
 refine (zay (zaj (zaa (zai (hvQ rfl (zan rfl rfl rfl (zah 2 rfl rfl)) (hvQ rfl (zaf (cs := [.int .i64 (x.1 : Int), .bool x.2]) rfl rfl rfl rfl rfl (zag 1 rfl 0 rfl)) ?_))))))
 refine hvQ rfl (zgd (b := bM) (y := x) rfl Try.underlying71 kSt zSt rfl rfl (keySt x (by omega)) (fun w hm => mpE_own 5 rfl w hm) (mpV_st _) rfl) (zab 3 rfl ?_)
 refine zbc (fun h3 => ?_) (fun h3 => ?_)
 ·
  refine zei rfl (zbq (z := .agg #[.int .i64 0, .bool false]) rfl rfl) ?_
  intro b4
  refine zbu (cs' := #[.int .i64 (((F x).getD vx0).1 : Int), .bool (((F x).getD vx0).2)]) (i := 0) (off := 0) (us := [.int .i64 (((F x).getD vx0).1 : Int), .bool (((F x).getD vx0).2)]) rfl rfl rfl rfl rfl rfl rfl (zar rfl (zar rfl zbs)) rfl rfl rfl (zbb 1 rfl (zbh 2 rfl (fsQ rfl ?_)))
  refine hq_normal (zcg 7 [6, 5, 4, 3] rfl rfl (by decide) ?_)
  refine zfi (visE bF bT bM tv n F ts :: l) zgi ?_
  exact zex (rs := []) (vs := []) rfl trivial rfl (fun w hm => ⟨_, visE bF bT bM tv n F ts, rfl, ⟨_, _, _, _, rfl, .inl ⟨by assumption, rfl, rfl, rfl⟩⟩, hm⟩)
 refine zei rfl (zbq (z := .agg #[.int .i64 0, .bool false]) rfl rfl) ?_
 intro b5
 refine zbu (cs' := #[.int .i64 (((F x).getD vx0).1 : Int), .bool (((F x).getD vx0).2)]) (i := 0) (off := 0) (us := [.int .i64 (((F x).getD vx0).1 : Int), .bool (((F x).getD vx0).2)]) rfl rfl rfl rfl rfl rfl rfl (zar rfl (zar rfl zbs)) rfl rfl rfl (zbb 1 rfl (zbh 2 rfl (zaq rfl (srQ (hvQ rfl (zan rfl rfl rfl (zah 3 rfl rfl)) ?_)))))
 refine hvQ rfl (zaf (cs := [.int .i64 (x.1 : Int), .bool x.2]) rfl rfl rfl rfl rfl (zag 2 rfl 0 rfl)) (hvQ rfl (zaf (cs := [.int .i64 (y.1 : Int), .bool y.2]) rfl rfl rfl rfl rfl (zag 1 rfl 0 rfl)) ?_)
 refine hl_updMp (i := 6) (kx := x) (vy := y) (l' := (boxE b5 #[.int .i64 (((F x).getD vx0).1 : Int), .bool (((F x).getD vx0).2)] 76 :: boxE b2 #[.int .i64 (y.1 : Int), .bool y.2] 76 :: boxE b1 #[.int .i64 (x.1 : Int), .bool x.2] 76 :: boxE bF #[.map (some bM)] 71 :: boxE bT #[tv] 86 :: rowQ2 76 tv ts.length (ts.flatMap vxC) :: frE bM (n + 1) (mpU F x y) :: l)) rfl rfl rfl Try.underlying71 kSt stV_inj rfl rfl rfl (keySt x (by omega)) rfl (by omega) rfl (zay (zaj (zai (hvQ rfl (zan rfl rfl rfl (zah 4 rfl rfl)) (hvQ rfl (zaf (cs := [.int .i64 (x.1 : Int), .bool x.2]) rfl rfl rfl rfl rfl (zag 2 rfl 0 rfl)) ?_)))))
 refine zea rfl (zaw (z := .agg #[.int .i64 0, .bool false]) (s := 2) (cs := [.int .i64 (x.1 : Int), .bool x.2]) rfl Try.underlying86 rfl (by decide) rfl (by kernel_rfl) rfl) ?_
 intro g6
 refine hl_appendQ2 (i := 6) (z := .agg #[.int .i64 0, .bool false]) (bytes := 16) (q := .int .i64 (x.1 : Int)) (r := .bool x.2) (n' := (ts ++ [x]).length) (xs' := ((ts ++ [x]).flatMap vxC)) (L := fun v7 => (rowE 76 2 (.slice (some ⟨g6, 0, none⟩) 1 1) 1 ([.int .i64 (x.1 : Int), .bool x.2]) :: boxE b5 #[.int .i64 (((F x).getD vx0).1 : Int), .bool (((F x).getD vx0).2)] 76 :: boxE b2 #[.int .i64 (y.1 : Int), .bool y.2] 76 :: boxE b1 #[.int .i64 (x.1 : Int), .bool x.2] 76 :: boxE bF #[.map (some bM)] 71 :: boxE bT #[tv] 86 :: rowQ2 76 v7 ((ts ++ [x]).length) ((ts ++ [x]).flatMap vxC) :: frE bM (n + 1) (mpU F x y) :: l)) rfl rfl rfl rfl Try.underlying86 rfl rfl rfl rfl rfl (zad 0 rfl) rfl rfl (by omega) (zcc ts [x]) (zdt vxC ts x _ rfl) (fun _ => rfl) ?_
 intro v7
 refine hl_know (fun w hm => (rd_Q2 6 rfl w hm).one) (fun ho8 => ?_)
 refine hl_stB (i := 5) (cs' := #[v7]) rfl rfl rfl rfl rfl rfl ho8 rfl rfl rfl rfl (zay ?_)
 refine hq_normal (zcg 8 [7, 6, 5, 4] rfl rfl (by decide) ?_)
 refine zfi (visE bF bT bM v7 (n + 1) (mpU F x y) (ts ++ [x]) :: l) zgi ?_
 exact zex (rs := []) (vs := []) rfl trivial rfl (fun w hm => ⟨_, visE bF bT bM v7 (n + 1) (mpU F x y) (ts ++ [x]), rfl, ⟨_, _, _, _, rfl, .inr ⟨by assumption, rfl, rfl, rfl⟩⟩, hm⟩)
open Go.RowKit
structure FbW (w : World) (fb : Nat) (n : Nt) (node : Int) (cv frv iv : Value) (eb : Nat) : Prop where
  c : ∀ j u, ([.int .i64 n.ins, n.sv, n.av, n.ov, .int .i64 node, cv, frv, iv, .map (some eb)] : List Value)[j]? = some u → w.cell? ⟨fb, j, none⟩ = some u
  lt : fb < w.heap.size
theorem FbW.net {w : World} {fb : Nat} {n : Nt} {node : Int} {cv frv iv : Value} {eb : Nat} (h : FbW w fb n node cv frv iv eb) : ∀ j u, ([.int .i64 n.ins, n.sv, n.av, n.ov] : List Value)[j]? = some u → w.cell? ⟨fb, 0 + j, none⟩ = some u := fun j u hj => by
  rw [Nat.zero_add]
  refine h.c j u ?_
  have hlt : j < 4 := (List.getElem?_eq_some_iff.1 hj).1
  match j, hlt, hj with
  | 0, _, hj => exact hj
  | 1, _, hj => exact hj
  | 2, _, hj => exact hj
  | 3, _, hj => exact hj
def BxW (w : World) (bx : Nat) (x : Vx) : Prop := ∀ j u, (vxC x)[j]? = some u → w.cell? ⟨bx, j, none⟩ = some u
def endP (fd : Bool) (bx : Nat) : Value := if fd then .pointer (some ⟨bx, 0, none⟩) else .pointer none
theorem mpV_in (o : Option Int) : mpV inV (inV 0) o = .int .i64 (o.getD 0) := by cases o <;> rfl
section
variable {n : Nt} {node h : Int} {ls : List Int} {fr : List Bl} {ins : List Int} {E : Nat → Nat → Int} {v : Int} {vs vs1 : List Vx} {q : Nat} {F F1 : Vx → Option Vx} {k : Nat}
theorem old_at {t : List Vx} (h : vs1 = vs ++ t) (hq : q < vs.length) {y : Vx} (hy : vs.getD q vx0 = y) : vs1.getD q vx0 = y := by rw [h, getD_app hq]; exact hy
theorem drop_at (hq : q < vs.length) : (vs.drop q).getD 0 vx0 = vs.getD q vx0 := by
  rw [List.getD_eq_getElem?_getD, List.getElem?_drop, Nat.add_zero, ← List.getD_eq_getElem?_getD]
theorem SrI.out_next (cx : FiCtx n node h ls fr ins E v) (hs : SrI n node fr ins E vs q F) (hy : vs.getD q vx0 = (k, true)) (h1 : frB fr k ∨ ins.getD k 0 = 0 → (k, false) ∈ vs) (h2 : ∀ p, p < n.cnt.toNat → 1 ≤ E k p → (p, false) ∈ vs) : SrI n node fr ins E vs (q + 1) F := by
  refine hs.next (fun z ha hz => ?_) (fun e => by rw [hy] at e; cases e.1)
  rw [hy] at ha
  rcases av_out cx.ok ha with ⟨rfl, hc⟩ | ⟨h3, h4⟩
  · exact h1 hc
  · obtain ⟨z1, z2⟩ := z
    simp only at h3; subst h3
    exact h2 z1 hz h4
theorem SrI.in_next (cx : FiCtx n node h ls fr ins E v) (hs : SrI n node fr ins E vs q F) (hq : q < vs.length) (hy : vs.getD q vx0 = (k, false)) (h1 : ∀ j, j < (kidL n k).length → (((kidL n k).getD j 0).toNat, true) ∈ vs) (h2 : 1 ≤ ins.getD k 0 → (k, true) ∈ vs) (hl : ¬ (0 < (k : Int) ∧ (k : Int) < n.fst)) : SrI n node fr ins E vs (q + 1) F := by
  have hkm : (k, false) ∈ vs := by rw [← hy]; exact zbj hq
  have hrg := hs.rng cx hkm
  have hrg1 : k < n.cnt.toNat := hrg.1
  refine hs.next (fun z ha hz => ?_) (fun e => by rw [hy] at e; exact hl ⟨by have := e.2.1; have h9 : 1 ≤ k := this; omega, e.2.2⟩)
  rw [hy] at ha
  rcases av_in ha with ⟨rfl, hc⟩ | ⟨h3, h4⟩
  · exact h2 hc
  · obtain ⟨z1, z2⟩ := z
    simp only at h3 h4; subst h3
    obtain ⟨j, hj, e⟩ := List.mem_iff_getElem.1 ((kidL_mem (by omega)).2 h4)
    have := h1 j hj
    rw [List.getD_eq_getElem?_getD, List.getElem?_eq_getElem hj, Option.getD_some, e, Int.toNat_natCast] at this
    exact this
theorem kid_at (cx : FiCtx n node h ls fr ins E v) (hs : SrI n node fr ins E vs q F) (hq : q < vs.length) (hy : vs.getD q vx0 = (k, false)) {i : Nat} (hi : i < (kidL n k).length) : 0 ≤ (kidL n k).getD i 0 ∧ (kidL n k).getD i 0 < n.cnt ∧ FanI n k ((kidL n k).getD i 0) ∧ Rch n node k := by
  have hkm : (k, false) ∈ vs := by rw [← hy]; exact zbj hq
  have hrg := hs.rng cx hkm
  have hrg1 : k < n.cnt.toNat := hrg.1
  have hf := (kidL_mem (n := n) (k := (k : Int)) (by omega)).1 (zbj (d := (0 : Int)) hi)
  have := hf.lt cx.ok (by omega)
  exact ⟨this.1, by omega, hf, hs.rch _ hkm⟩
theorem SrI.top_mem (hs : SrI n node fr ins E vs q F) : (node.toNat, true) ∈ vs := by rw [← hs.top.1]; exact zbj hs.top.2.1
theorem Vis.len_le {z : Vx} (hv : Vis n node fr ins E vs q z vs1 F1) : vs.length ≤ vs1.length := by
  obtain ⟨t, ht⟩ := hv.old; rw [ht, List.length_append]; omega
theorem SrI.mem_at (hs : SrI n node fr ins E vs q F) (hq : q < vs.length) {y : Vx} (hy : vs.getD q vx0 = y) : y ∈ vs := by rw [← hy]; exact zbj hq
end
theorem zfe {n : Nt} {node h : Int} {ls : List Int} {fr : List Bl} {ins : List Int} {E : Nat → Nat → Int} {v : Int} (cx : FiCtx n node h ls fr ins E v) {vs : List Vx} {q : Nat} {F : Vx → Option Vx} (hs : SrI n node fr ins E vs q F) (hq : q < vs.length) {y z : Vx} (hy : vs.getD q vx0 = y) (ha : z ∈ vs ∨ (Av (gI n node fr) E (insF ins) y z ∧ Rch n node z.1)) (bF bT bM : Nat) (tv : Value) (w0 : World) (l : List HP) (w : World) (hm : Mem w0 (visE bF bT bM tv vs.length F (vs.drop (q + 1)) :: l) w) :
    Calls Try.prog 54 #[.agg #[.int .i64 (z.1 : Int), .bool z.2], .agg #[.int .i64 (y.1 : Int), .bool y.2], .pointer (some ⟨bF, 0, none⟩), .pointer (some ⟨bT, 0, none⟩)] w (fun e_ w_ => ∃ v_ p_, e_ = .returned v_ ∧ (∃ (tv' : Value) (vs' : List Vx) (F' : Vx → Option Vx), p_ = visE bF bT bM tv' vs'.length F' (vs'.drop (q + 1)) ∧ Vis n node fr ins E vs q z vs' F') ∧ Mem w0 (p_ :: l) w_) := by
  have hf1 : 1 ≤ n.fst := by have := cx.ok.i0; unfold Nt.fst; omega
  have hcnt : n.cnt ≤ 333 := by have := cx.ok.i1; have := cx.ok.s1; have := cx.ok.a1; unfold Nt.cnt; omega
  have hl := hs.len cx
  have hym := hs.mem_at hq hy
  have hr : Rch n node z.1 := by
    rcases ha with h1 | h1
    · exact hs.rch z h1
    · exact h1.2
  have hnd := cx.nd
  have hrg := hr.rng cx.ok (by omega) cx.nd.2
  have h9 := visit_mut z y bF bT bM tv vs.length F (vs.drop (q + 1)) w0 l w hm (by omega) (by omega) (by rw [List.length_drop]; omega)
  refine h9.mono fun e_ w_ h => ?_
  obtain ⟨v_, p_, rfl, ⟨tv', n', F', ts', rfl, hc⟩, hm'⟩ := h
  rcases hc with ⟨c1, rfl, rfl, rfl⟩ | ⟨c1, rfl, rfl, rfl⟩
  · exact ⟨v_, _, rfl, ⟨tv', vs, F', rfl, hs.vis_old ((hs.dom z).1 c1)⟩, hm'⟩
  · have hnz : ¬ z ∈ vs := fun hz => by rw [(hs.dom z).2 hz] at c1; cases c1
    refine ⟨v_, _, rfl, ⟨tv', vs ++ [z], mpU F z y, ?_, hs.vis_new hq hym hnz (ha.resolve_left hnz).1 hr⟩, hm'⟩
    rw [List.length_append, List.drop_append_of_le_length (by omega)]; rfl
theorem Mem.popV {w0 w : World} {l : List HP} {e : TypeId} {v : Value} {vs : List Vx} {q : Nat} (hq : q < vs.length) (h : Mem w0 (rowQ2 e v (vs.drop q).length ((vs.drop q).flatMap vxC) :: l) w) : Mem w0 (rowQ2 e (slV v 1 (vs.drop q).length 2) (vs.drop (q + 1)).length ((vs.drop (q + 1)).flatMap vxC) :: l) w := by
  have h1 := Mem.tailQ2 (n := (vs.drop (q + 1)).length) (by rw [List.length_drop, List.length_drop]; omega) h
  have e1 : ((vs.drop q).flatMap vxC).drop 2 = (vs.drop (q + 1)).flatMap vxC := by
    rw [List.drop_eq_getElem_cons hq, List.flatMap_cons]; rfl
  rw [e1] at h1; exact h1
theorem toQ1 {w0 w : World} {l : List HP} {e : TypeId} {v : Value} {x : Vx} (h : Mem w0 (rowE e 2 v 1 [.int .i64 (x.1 : Int), .bool x.2] :: l) w) : Mem w0 (rowQ2 e v ([x].drop 0).length (([x].drop 0).flatMap vxC) :: l) w := Mem.toQ2 (n := 1) (by omega) h
theorem search_ret (n : Nt) (nd : Nat) (hh : Int) (ls : List Int) (fr : List Bl) (ins : List Int) (E : Nat → Nat → Int) (fv : Int) (fb eb ne : Nat) (cv frv iv : Value) (cb_o : List Bl) (G : Nat × Nat → Option Int) (w : World) (hr : RdsNt w n) (hn : NtOk n) (cx : FiCtx n (nd : Int) hh ls fr ins E fv) (hfb : FbW w fb n (nd : Int) cv frv iv eb) (hcv : RdsW w cv 1 cb_o.length (cb_o.flatMap blC)) (hcl : cb_o.length = n.cnt.toNat) (hfr : RdsW w frv 1 fr.length (fr.flatMap blC)) (hiv : RdsW w iv 1 ins.length (ins.map (Value.int .i64))) (heg : EgW w eb ne G) (hge : EgOk G E) :
   Calls Try.prog 42 #[.pointer (some ⟨fb, 0, none⟩)] w (Ret w (fun u_ p_ => ∃ (bM bx q : Nat) (vs : List Vx) (F : Vx → Option Vx) (fd : Bool) (x : Vx) (ps : List HP), u_ = .tuple #[.map (some bM), endP fd bx] ∧ p_ = [frE bM vs.length F, bigE ps] ∧ SrI n (nd : Int) fr ins E vs q F ∧ (fd = false → vs.length ≤ q) ∧ (fd = true → (x ∈ vs ∧ x.2 = false ∧ 1 ≤ x.1 ∧ (x.1 : Int) < n.fst) ∧ ∀ w, (bigE ps).holds w → BxW w bx x))) := by
 have hi0 := hn.i0
 have hi1 := hn.i1
 have hs1 := hn.s1
 have ha1 := hn.a1
 have ho1 := hn.o1
 have hcnt : n.cnt = 1 + n.ins + n.ss.length + n.gs.length := rfl
 have hfst : n.fst = 1 + n.ins + n.ss.length := rfl
 have hnd := cx.nd
 have hfl := cx.fl_
 have hil := cx.il
 refine zbg (N := 139) (args := [.pointer (some ⟨fb, 0, none⟩)]) Try.func42 rfl rfl (zbh 2 rfl (srQ ?_))
 refine hl_q rfl rfl rfl (rq_makeMp (k := 76) (kf := stV) (vf := stV) rfl) ?_
 intro v1 p2 hR3
 obtain ⟨mhR3, rfl, rfl⟩ := hR3
 refine zei rfl (zbq (z := .map none) rfl rfl) ?_
 intro b4
 refine hl_stB (i := 0) (cs' := #[.map (some mhR3)]) rfl rfl rfl rfl rfl rfl rfl rfl rfl rfl rfl (ntQ (zaa (reQ 1 rfl (hvQ rfl (zbf rfl rfl) (hvQ rfl (fdQ 4 rfl rfl rfl) ?_)))))
 refine hvQ rfl (zan rfl rfl rfl (fun w hm => (hm.bel.cell (p := ⟨fb, 0 + 4, none⟩) hfb.lt).trans (hfb.c 4 _ rfl))) (hvQ rfl (zcp (cs := #[.int .i64 (nd : Int), .bool true]) rfl rfl rfl) ?_)
 refine zei rfl (zbq (z := .agg #[.int .i64 0, .bool false]) rfl rfl) ?_
 intro b5
 refine zbu (cs' := #[.int .i64 (nd : Int), .bool true]) (i := 0) (off := 0) (us := [.int .i64 (nd : Int), .bool true]) rfl rfl rfl rfl rfl rfl rfl (zar rfl (zar rfl zbs)) rfl rfl rfl (zay (zaj (zaa (zai (hvQ rfl (zan rfl rfl rfl (zah 1 rfl rfl)) (hvQ rfl (zaf (cs := [.int .i64 (nd : Int), .bool true]) rfl rfl rfl rfl rfl (zag 0 rfl 0 rfl)) (hvQ rfl (zaf (cs := [.int .i64 (nd : Int), .bool true]) rfl rfl rfl rfl rfl (zag 0 rfl 0 rfl)) ?_)))))))
 refine hl_updMp (i := 2) (kx := (nd, true)) (vy := (nd, true)) (l' := [boxE b5 #[.int .i64 (nd : Int), .bool true] 76, boxE b4 #[.map (some mhR3)] 71, frE mhR3 (0 + 1) (mpU (fun _ => none) (nd, true) (nd, true))]) rfl rfl rfl Try.underlying71 kSt stV_inj rfl rfl rfl (keySt (nd, true) (by show nd ≤ _; omega)) rfl (by omega) rfl (zay (zaj (zaa (zai (hvQ rfl (zaf (cs := [.int .i64 (nd : Int), .bool true]) rfl rfl rfl rfl rfl (zag 0 rfl 0 rfl)) ?_)))))
 refine zea rfl (zaw (z := .agg #[.int .i64 0, .bool false]) (s := 2) (cs := [.int .i64 (nd : Int), .bool true]) rfl Try.underlying86 rfl (by decide) rfl (by kernel_rfl) rfl) ?_
 intro g6
 refine zei rfl (zbq (z := .slice none 0 0) rfl rfl) ?_
 intro b7
 refine hl_stB (i := 0) (cs' := #[.slice (some ⟨g6, 0, none⟩) 1 1]) rfl rfl rfl rfl rfl rfl rfl rfl rfl rfl rfl (ntQ (srQ (hvQ rfl (rv_makeFunc (us := []) (vs := [.pointer (some ⟨b4, 0, none⟩), .pointer (some ⟨b7, 0, none⟩)]) rfl rfl rfl) (zbb 1 rfl (sbQ ?_)))))
 refine zfp 5 [4, 3, 2, 0, 1] rfl rfl (by decide) ?_
 refine zev [rowQ2 76 (.slice (some ⟨g6, 0, none⟩) 1 1) (([(nd, true)].drop 0).length) (([(nd, true)].drop 0).flatMap vxC), boxE b7 #[.slice (some ⟨g6, 0, none⟩) 1 1] 86, boxE b5 #[.int .i64 (nd : Int), .bool true] 76, boxE b4 #[.map (some mhR3)] 71, frE mhR3 (0 + 1) (mpU (fun _ => none) (nd, true) (nd, true))] (fun w hm => toQ1 (x := (nd, true)) hm) ?_
 refine zfp 5 [2, 4, 0, 1, 3] rfl rfl (by decide) ?_
 refine zev [visE b4 b7 mhR3 (.slice (some ⟨g6, 0, none⟩) 1 1) ([(nd, true)]).length (mpU (fun _ => none) (nd, true) (nd, true)) (([(nd, true)]).drop 0), boxE b5 #[.int .i64 (nd : Int), .bool true] 76] zgi ?_
 refine lkQ4 (α := List Vx) (β := Nat) (γ := Vx → Option Vx) (δ := Value) [0, 2, 3, 4, 5, 6, 7] rfl (fun vs q F tv => [visE b4 b7 mhR3 tv vs.length F (vs.drop q)]) (fun vs q F tv => []) (fun vs q F tv => q ≤ vs.length ∧ SrI n (nd : Int) fr ins E vs q F) (fun vs q F tv => 2 * n.cnt.toNat - q) [(nd, true)] 0 (mpU (fun _ => none) (nd, true) (nd, true)) (.slice (some ⟨g6, 0, none⟩) 1 1) ⟨Nat.zero_le _, SrI.start (by omega)⟩ (saQ rfl) (slQ [0] rfl) ?_
 intro vs q F tv hi8
 obtain ⟨hq, hs⟩ := hi8
 have hvl := hs.len cx
 refine ssrQ ?_
 refine hl_conv [boxE b4 #[.map (some mhR3)] 71, boxE b7 #[tv] 86, rowQ2 76 tv ((vs.drop q).length) ((vs.drop q).flatMap vxC), frE mhR3 vs.length F] zfy ?_
 refine hvQ rfl (zan rfl rfl rfl (zah 1 rfl rfl)) (hvQ rfl (lnQ rfl rfl rfl (rd_Q2 (n := (vs.drop q).length) 2 rfl)) ?_)
 refine zes rfl rfl rfl rfl rfl rfl (fun h9 => ?_) (fun h9 => ?_)
 ·
  refine ntQ (zaq rfl (zcw (zba (srQ (hvQ rfl (zan rfl rfl rfl (zah 1 rfl rfl)) (hvQ rfl (riQ 2 rfl rfl rfl rfl (rd_Q2 (n := (vs.drop q).length) 2 rfl)) ?_))))))
  refine hvQ rfl (zdj (us := [.int .i64 (((vs.drop q).getD 0 vx0).1 : Int), .bool (((vs.drop q).getD 0 vx0).2)]) rfl rfl rfl rfl (rd_Q2 (n := (vs.drop q).length) 2 rfl) (by omega) rfl (zeo vxC 2 (fun _ => rfl) (vs.drop q) vx0 (show 0 < _ by omega) rfl)) (zei rfl (zbq (z := .agg #[.int .i64 0, .bool false]) rfl rfl) ?_)
  intro b10
  refine zbu (cs' := #[.int .i64 (((vs.drop q).getD 0 vx0).1 : Int), .bool (((vs.drop q).getD 0 vx0).2)]) (i := 0) (off := 0) (us := [.int .i64 (((vs.drop q).getD 0 vx0).1 : Int), .bool (((vs.drop q).getD 0 vx0).2)]) rfl rfl rfl rfl rfl rfl rfl (zar rfl (zar rfl zbs)) rfl rfl rfl (ntQ (srQ ?_))
  have hdl9 : (vs.drop q).length = vs.length - q := List.length_drop
  have hqlt : q < vs.length := by omega
  obtain ⟨k, hk9⟩ : ∃ x : Nat, ((vs.drop q).getD 0 vx0).1 = x := ⟨_, rfl⟩
  obtain ⟨ob, hob9⟩ : ∃ x : Bool, ((vs.drop q).getD 0 vx0).2 = x := ⟨_, rfl⟩
  rw [hk9, hob9]
  have hyq : vs.getD q vx0 = (k, ob) := by rw [← drop_at hqlt]; exact Prod.ext hk9 hob9
  have hkm := hs.mem_at hqlt hyq
  have hkr := hs.rng cx hkm
  have hkr1 : k < n.cnt.toNat := hkr.1
  have hrk : Rch n (nd : Int) (k : Int) := hs.rch _ hkm
  refine hvQ rfl (zan rfl rfl rfl (zah 2 rfl rfl)) (hvQ rfl (rv_slL rfl Try.underlying86 rfl rfl rfl (rd_Q2 (n := (vs.drop q).length) 3 rfl) (by omega) (by omega)) ?_)
  refine hl_know (fun w hm => (rdW_sl (lo := (1 : Int).toNat) (hi := (vs.drop q).length) ((rd_Q2 (n := (vs.drop q).length) 3 rfl) w hm) (by show 1 ≤ _; omega) (Nat.le_refl _)).one) (fun hsl9 => ?_)
  refine hl_pick 5 [4, 2, 1, 0, 3] rfl rfl (by decide) ?_
  refine hl_conv [rowQ2 76 (slV tv (1 : Int).toNat ((vs.drop q).length) 2) ((vs.drop (q + 1)).length) ((vs.drop (q + 1)).flatMap vxC), boxE b10 #[.int .i64 (k : Int), .bool (ob)] 76, boxE b4 #[.map (some mhR3)] 71, boxE b7 #[tv] 86, frE mhR3 vs.length F] (fun w hm => hm.popV hqlt) ?_
  refine hl_stB (i := 3) (cs' := #[slV tv (1 : Int).toNat ((vs.drop q).length) 2]) rfl rfl rfl rfl rfl rfl hsl9 rfl rfl rfl rfl (ntQ (srQ (hvQ rfl (fdQ 0 rfl rfl rfl) (hvQ rfl (zan rfl rfl rfl (zah 1 rfl rfl)) (zbb 1 rfl (ssrQ ?_))))))
  refine hvQ rfl (fdQ 1 rfl rfl rfl) (hvQ rfl (zan rfl rfl rfl (zah 1 rfl rfl)) ?_)
  refine zbc (fun h11 => ?_) (fun h11 => ?_)
  ·
   refine ntQ (zaq rfl ?_)
   refine hc_meet3 (α := List Vx) (β := Vx → Option Vx) (γ := Value) (fun vs1 F1 tv1 => [visE b4 b7 mhR3 tv1 vs1.length F1 (vs1.drop (q + 1)), boxE b10 #[.int .i64 (k : Int), .bool (ob)] 76]) (fun vs1 F1 tv1 => [(0, .pointer (some ⟨fb, 0, none⟩)), (2, .map none), (3, .pointer none), (4, .pointer (some ⟨b4, 0, none⟩)), (5, .pointer (some ⟨b5, 0, none⟩)), (6, .pointer (some ⟨b7, 0, none⟩)), (7, .func (.func 54) #[] #[.pointer (some ⟨b4, 0, none⟩), .pointer (some ⟨b7, 0, none⟩)]), (8, .pointer (some ⟨b10, 0, none⟩)), (9, .int .i64 (k : Int)), (27, .bool true), (36, .bool true)]) (fun vs1 F1 tv1 => SrI n (nd : Int) fr ins E vs1 q F1 ∧ (∃ t, vs1 = vs ++ t) ∧ (frB fr k ∨ ins.getD k 0 = 0 → (k, false) ∈ vs1)) ?_ ?_
   ·
    refine srQ ?_
    have hyt : vs.getD q vx0 = (k, true) := by rw [hyq, show ob = true by assumption]
    have hkr2 : k < fr.length := by rw [cx.fl_]; exact hkr1
    have hkr3 : k < ins.length := by rw [cx.il]; exact hkr1
    refine zab 1 rfl (hvQ rfl (zbf rfl rfl) (hvQ rfl (fdQ 6 rfl rfl rfl) ?_))
    refine hvQ rfl (zan rfl rfl rfl (fun w hm => (hm.bel.cell (p := ⟨fb, 0 + 6, none⟩) hfb.lt).trans (hfb.c 6 _ rfl))) (zab 1 rfl (hvQ rfl (riQ 1 rfl rfl rfl rfl (zac hfr)) ?_))
    refine hvQ rfl (zav (u := .bool ((fr.getD k bl0).b)) rfl rfl rfl (zac hfr) (zbm blC (fun r => .bool r.b) (fun _ => rfl) fr bl0 (show k < _ by omega))) (zbc (fun h12 => ?_) (fun h12 => ?_))
    ·
     refine zbb 10 rfl (zaq rfl (zai ?_))
     refine zab 2 rfl (hvQ rfl (zcp (cs := #[.int .i64 (k : Int), .bool false]) rfl rfl rfl) (hvQ rfl (zaf (cs := [.int .i64 (k : Int), .bool (ob)]) rfl rfl rfl rfl rfl (zag 1 rfl 0 rfl)) ?_))
     refine hl_pick 5 [1, 4, 0, 3, 2] rfl rfl (by decide) ?_
     refine hl_conv [visE b4 b7 mhR3 (slV tv (1 : Int).toNat ((vs.drop q).length) 2) vs.length F (vs.drop (q + 1)), boxE b10 #[.int .i64 (k : Int), .bool (ob)] 76] zgi ?_
     refine zec (R := (fun u_ p_ => ∃ (tv' : Value) (vs' : List Vx) (F' : Vx → Option Vx), p_ = visE b4 b7 mhR3 tv' vs'.length F' (vs'.drop (q + 1)) ∧ Vis n (nd : Int) fr ins E vs q (k, false) vs' F')) 0 rfl rfl rfl rfl rfl rfl (fun L w hX hm => zfe (z := (k, false)) (y := (k, ob)) cx hs (by omega) hyq (.inr ⟨.inl ⟨(by show ob = true; assumption), rfl, by show k < n.cnt.toNat; omega, by first | exact .inl (by assumption) | exact .inr (by assumption)⟩, hrk⟩) _ _ _ _ _ _ _ hm) ?_
     intro v13 p14 hR15
     obtain ⟨tva, vsa, Fa, rfl, hva⟩ := hR15
     have hsa := hva.s
     have hla := hsa.len cx
     have hvla := hva.len_le
     refine zdo (l' := [visE b4 b7 mhR3 tva vsa.length Fa (vsa.drop (q + 1)), boxE b10 #[.int .i64 (k : Int), .bool (ob)] 76]) rfl ?_
     exact zay (hq_meet3 vsa Fa tva ⟨hsa, hva.old, fun _ => hva.mem⟩ (saQ rfl) (pfQ rfl))
    refine zab 2 rfl (hvQ rfl (zbf rfl rfl) (hvQ rfl (fdQ 7 rfl rfl rfl) ?_))
    refine hvQ rfl (zan rfl rfl rfl (fun w hm => (hm.bel.cell (p := ⟨fb, 0 + 7, none⟩) hfb.lt).trans (hfb.c 7 _ rfl))) (zab 1 rfl (hvQ rfl (riQ 1 rfl rfl rfl rfl (zac hiv)) (hvQ rfl (liQ rfl rfl rfl (zac hiv)) ?_)))
    refine zcj rfl rfl rfl rfl rfl rfl (fun h16 => ?_) (fun h16 => ?_)
    ·
     refine zab 1 rfl (zay (zaj (zaq rfl (zai (zab 2 rfl (hvQ rfl (zcp (cs := #[.int .i64 (k : Int), .bool false]) rfl rfl rfl) (hvQ rfl (zaf (cs := [.int .i64 (k : Int), .bool (ob)]) rfl rfl rfl rfl rfl (zag 1 rfl 0 rfl)) ?_)))))))
     refine hl_pick 5 [1, 4, 0, 3, 2] rfl rfl (by decide) ?_
     refine hl_conv [visE b4 b7 mhR3 (slV tv (1 : Int).toNat ((vs.drop q).length) 2) vs.length F (vs.drop (q + 1)), boxE b10 #[.int .i64 (k : Int), .bool (ob)] 76] zgi ?_
     refine zec (R := (fun u_ p_ => ∃ (tv' : Value) (vs' : List Vx) (F' : Vx → Option Vx), p_ = visE b4 b7 mhR3 tv' vs'.length F' (vs'.drop (q + 1)) ∧ Vis n (nd : Int) fr ins E vs q (k, false) vs' F')) 0 rfl rfl rfl rfl rfl rfl (fun L w hX hm => zfe (z := (k, false)) (y := (k, ob)) cx hs (by omega) hyq (.inr ⟨.inl ⟨(by show ob = true; assumption), rfl, by show k < n.cnt.toNat; omega, by first | exact .inl (by assumption) | exact .inr (by assumption)⟩, hrk⟩) _ _ _ _ _ _ _ hm) ?_
     intro v17 p18 hR19
     obtain ⟨tva, vsa, Fa, rfl, hva⟩ := hR19
     have hsa := hva.s
     have hla := hsa.len cx
     have hvla := hva.len_le
     refine zdo (l' := [visE b4 b7 mhR3 tva vsa.length Fa (vsa.drop (q + 1)), boxE b10 #[.int .i64 (k : Int), .bool (ob)] 76]) rfl ?_
     exact zay (hq_meet3 vsa Fa tva ⟨hsa, hva.old, fun _ => hva.mem⟩ (saQ rfl) (pfQ rfl))
    refine zbb 1 rfl (fsQ rfl ?_)
    refine zcg 5 [1, 4, 0, 3, 2] rfl rfl (by decide) ?_
    refine zfi [visE b4 b7 mhR3 (slV tv (1 : Int).toNat ((vs.drop q).length) 2) vs.length F (vs.drop (q + 1)), boxE b10 #[.int .i64 (k : Int), .bool (ob)] 76] zgi ?_
    exact hq_meet3 vs F (slV tv (1 : Int).toNat ((vs.drop q).length) 2) ⟨hs, ⟨[], (List.append_nil _).symm⟩, fun hc => absurd hc (by rintro (q1 | q1); (exact Bool.false_ne_true ((show (fr.getD k bl0).b = false by assumption).symm.trans q1)); omega)⟩ (saQ rfl) (pfQ rfl)
   intro vs1 F1 tv1 hm20
   obtain ⟨hs0, ⟨t0, ht0⟩, hfree0⟩ := hm20
   have hl1 := hs0.len cx
   have hle0 : vs.length ≤ vs1.length := by rw [ht0, List.length_append]; omega
   have hyt : vs.getD q vx0 = (k, true) := by rw [hyq, show ob = true by assumption]
   refine zaa (zaa (reQ 1 rfl (hvQ rfl (zbf rfl rfl) (hvQ rfl (fdQ 5 rfl rfl rfl) ?_))))
   refine hvQ rfl (zan rfl rfl rfl (fun w hm => (hm.bel.cell (p := ⟨fb, 0 + 5, none⟩) hfb.lt).trans (hfb.c 5 _ rfl))) (hvQ rfl (lnQ rfl rfl rfl (zac hcv)) (zbb 1 rfl (zba ?_)))
   refine lkQ4 (α := Nat) (β := List Vx) (γ := Vx → Option Vx) (δ := Value) [0, 2, 3, 4, 5, 6, 7, 8, 9, 27, 36, 63] rfl (fun p vs1 F1 tv1 => [visE b4 b7 mhR3 tv1 vs1.length F1 (vs1.drop (q + 1)), boxE b10 #[.int .i64 (k : Int), .bool (ob)] 76]) (fun p vs1 F1 tv1 => [(64, .int .i64 (p : Int))]) (fun p vs1 F1 tv1 => p ≤ cb_o.length ∧ SrI n (nd : Int) fr ins E vs1 q F1 ∧ (∃ t, vs1 = vs ++ t) ∧ (frB fr k ∨ ins.getD k 0 = 0 → (k, false) ∈ vs1) ∧ ∀ p9, p9 < p → 1 ≤ E k p9 → (p9, false) ∈ vs1) (fun p vs1 F1 tv1 => cb_o.length - p) 0 vs1 F1 tv1 ⟨Nat.zero_le _, hs0, ⟨t0, ht0⟩, hfree0, fun p9 hp9 => absurd hp9 (by omega)⟩ (saQ rfl) (pfQ rfl) ?_
   intro p vs1 F1 tv1 hi21
   obtain ⟨hp, hs1, ⟨t1, ht1⟩, hfree1, hE1⟩ := hi21
   have hl1 := hs1.len cx
   have hle1 : vs.length ≤ vs1.length := by rw [ht1, List.length_append]; omega
   have hy1 : vs1.getD q vx0 = (k, true) := old_at ht1 hqlt hyt
   have hyo1 : vs1.getD q vx0 = (k, ob) := old_at ht1 hqlt hyq
   refine srQ ?_
   refine zbr rfl rfl rfl rfl rfl rfl (fun h22 => ?_) (fun h22 => ?_)
   ·
    refine ntQ (tcQ rfl (zcw (sbQ (srQ (enQ 2 rfl ?_)))))
    refine zaj (zaa (reQ 1 rfl (hvQ rfl (zbf rfl rfl) (hvQ rfl (fdQ 8 rfl rfl rfl) ?_))))
    refine hvQ rfl (zan rfl rfl rfl (fun w hm => (hm.bel.cell (p := ⟨fb, 0 + 8, none⟩) hfb.lt).trans (hfb.c 8 _ rfl))) (zab 2 rfl (hvQ rfl (zcp (cs := #[.int .i64 (k : Int), .int .i64 (p : Int)]) rfl rfl rfl) ?_))
    refine hvQ rfl (rv_lookMp (b := eb) (y := (k, p)) rfl Try.underlying67 kEd zIn rfl rfl (keyEd (k, p) (by show k ≤ _; omega) (by show p ≤ _; omega)) (fun w hm => heg.below hm.bel) (u := .int .i64 (E k p)) (by rw [mpV_in, hge k p])) (zes rfl rfl rfl rfl rfl rfl (fun h23 => ?_) (fun h23 => ?_))
    ·
     refine (zay (zaj (zaq rfl (zai (zab 2 rfl (hvQ rfl (zcp (cs := #[.int .i64 (p : Int), .bool false]) rfl rfl rfl) (hvQ rfl (zaf (cs := [.int .i64 (k : Int), .bool (ob)]) rfl rfl rfl rfl rfl (zag 1 rfl 0 rfl)) ?_)))))))
     refine zec (R := (fun u_ p_ => ∃ (tv' : Value) (vs' : List Vx) (F' : Vx → Option Vx), p_ = visE b4 b7 mhR3 tv' vs'.length F' (vs'.drop (q + 1)) ∧ Vis n (nd : Int) fr ins E vs1 q (p, false) vs' F')) 0 rfl rfl rfl rfl rfl rfl (fun L w hX hm => zfe (z := (p, false)) (y := (k, ob)) cx hs1 (by omega) hyo1 (.inr ⟨.inr (.inr (.inr ⟨(by show ob = true; assumption), rfl, by show 1 ≤ E k p; omega⟩)), (cx.fl.ef k p (by omega)).1⟩) _ _ _ _ _ _ _ hm) ?_
     intro v24 p25 hR26
     obtain ⟨tvb, vsb, Fb, rfl, hvb⟩ := hR26
     have hsb := hvb.s
     have hlb := hsb.len cx
     have hvlb := hvb.len_le
     refine zdo (l' := [visE b4 b7 mhR3 tvb vsb.length Fb (vsb.drop (q + 1)), boxE b10 #[.int .i64 (k : Int), .bool (ob)] 76]) rfl ?_
     refine zay (zdk (zai (hvQ rfl (vaQ rfl rfl rfl) (enQ 1 rfl ?_))))
     exact zbe (p + 1) vsb Fb tvb (by obtain ⟨tb, htb⟩ := hvb.old; exact ⟨by omega, hsb, ⟨t1 ++ tb, by rw [htb, ht1, List.append_assoc]⟩, fun hc => by rw [htb]; exact List.mem_append_left _ (hfree1 hc), fun p9 hp9 he9 => by by_cases hpe : p9 = p; (subst hpe; exact hvb.mem); (rw [htb]; exact List.mem_append_left _ (hE1 p9 (by omega) he9))⟩) (by omega) (saQ rfl) (pfQ rfl)
    refine ntQ (fsQ rfl (zdk (zai (hvQ rfl (vaQ rfl rfl rfl) (enQ 1 rfl ?_)))))
    exact zbe (p + 1) vs1 F1 tv1 ⟨by omega, hs1, ⟨t1, ht1⟩, hfree1, fun p9 hp9 he9 => by by_cases hpe : p9 = p; (subst hpe; omega); exact hE1 p9 (by omega) he9⟩ (by omega) (saQ rfl) (pfQ rfl)
   refine ntQ (fcQ rfl ?_)
   refine zbi (zep ?_)
   refine zal (zaj ?_)
   refine zbi (zed ?_)
   exact zal (zbe vs1 (q + 1) F1 tv1 ⟨by omega, hs1.out_next cx hy1 hfree1 (fun p9 hp9 => hE1 p9 (by omega))⟩ (by omega) (saQ rfl) (slQ [0] rfl))
  refine ntQ (zao rfl (zcw (ssrQ ?_)))
  have hyt : vs.getD q vx0 = (k, false) := by rw [hyq, show ob = false by assumption]
  have hkr2 : k < fr.length := by rw [cx.fl_]; exact hkr1
  have hkr3 : k < ins.length := by rw [cx.il]; exact hkr1
  refine zab 1 rfl (hvQ rfl (zbf rfl rfl) (hvQ rfl (fdQ 0 rfl rfl rfl) ?_))
  refine hvQ rfl (zaf (cs := [.int .i64 n.ins, n.sv, n.av, n.ov]) rfl rfl rfl rfl rfl (fun w9 hm9 j u hj => (hm9.bel.cell (p := ⟨fb, 0 + j, none⟩) hfb.lt).trans (hfb.net j u hj))) (zab 1 rfl ?_)
  refine zdw rfl (zas rfl rfl (fun w hm => zaz (isLeaf_yes n (k : Int) w (hr.below hm.bel) hn))) (zbc (fun h27 => ?_) (fun h27 => ?_))
  ·
   have h27p := of_decide_eq_true h27
   refine ntQ (zaq rfl (srQ (hvQ rfl (zan rfl rfl rfl (zah 2 rfl rfl)) (zbb 2 rfl ?_))))
   refine zax (zam ?_)
   refine zat (zam ?_)
   refine zat (zam ?_)
   refine zcg 5 [4, 1] rfl rfl (by decide) ?_
   refine hq_pool 1 rfl ?_
   refine zcg 2 [0, 1] rfl rfl (by decide) ?_
   exact zdl (rs := [.tmp 2, .tmp 3]) (vs := [.map (some mhR3), .pointer (some ⟨b10, 0, none⟩)]) (post := [frE mhR3 vs.length F, bigE [boxE b10 #[.int .i64 (k : Int), .bool (ob)] 76]]) rfl ⟨rfl, rfl, trivial⟩ rfl (.refl _) ⟨mhR3, b10, q, vs, F, true, (k, ob), [boxE b10 #[.int .i64 (k : Int), .bool (ob)] 76], rfl, rfl, hs, fun h => absurd h (by decide), fun _ => ⟨⟨hkm, by show ob = false; assumption, by show 1 ≤ k; omega, by show (k : Int) < n.fst; omega⟩, fun w hw j u hj => by have h9 := zdc (o := j) (zcy hw List.mem_cons_self); rw [h9]; simpa [vxC] using hj⟩⟩
  have h27p := of_decide_eq_false h27
  refine ntQ (zao rfl (zcw (zaa (zaa (reQ 1 rfl (hvQ rfl (zbf rfl rfl) (hvQ rfl (fdQ 0 rfl rfl rfl) ?_)))))))
  refine hvQ rfl (zaf (cs := [.int .i64 n.ins, n.sv, n.av, n.ov]) rfl rfl rfl rfl rfl (fun w9 hm9 j u hj => (hm9.bel.cell (p := ⟨fb, 0 + j, none⟩) hfb.lt).trans (hfb.net j u hj))) (zab 1 rfl ?_)
  refine hl_q rfl rfl rfl (zas rfl rfl (fun w hm => kidsOf_ret n (k : Int) w (hr.below hm.bel) hn)) ?_
  intro v28 p29 hR30
  subst hR30
  have hkl := kidL_len n (k : Int)
  refine hvQ rfl (lnQ rfl rfl rfl (zad 0 rfl)) (zbb 1 rfl (zba ?_))
  refine zfp 6 [2, 0, 5, 1, 4, 3] rfl rfl (by decide) ?_
  refine zev [visE b4 b7 mhR3 (slV tv (1 : Int).toNat ((vs.drop q).length) 2) vs.length F (vs.drop (q + 1)), rowE 3 1 v28 ((kidL n (k : Int)).length) ((kidL n (k : Int)).map (Value.int .i64)), boxE b10 #[.int .i64 (k : Int), .bool (ob)] 76] zgi ?_
  refine lkQ4 (α := Nat) (β := List Vx) (γ := Vx → Option Vx) (δ := Value) [0, 2, 3, 4, 5, 6, 7, 8, 9, 27, 36, 87, 94, 95] rfl (fun i vs1 F1 tv1 => [visE b4 b7 mhR3 tv1 vs1.length F1 (vs1.drop (q + 1)), rowE 3 1 v28 ((kidL n (k : Int)).length) ((kidL n (k : Int)).map (Value.int .i64)), boxE b10 #[.int .i64 (k : Int), .bool (ob)] 76]) (fun i vs1 F1 tv1 => [(96, .int .i64 (i : Int))]) (fun i vs1 F1 tv1 => i ≤ (kidL n (k : Int)).length ∧ SrI n (nd : Int) fr ins E vs1 q F1 ∧ (∃ t, vs1 = vs ++ t) ∧ ∀ j, j < i → (((kidL n (k : Int)).getD j 0).toNat, true) ∈ vs1) (fun i vs1 F1 tv1 => (kidL n (k : Int)).length - i) 0 vs F (slV tv (1 : Int).toNat ((vs.drop q).length) 2) ⟨Nat.zero_le _, hs, ⟨[], (List.append_nil _).symm⟩, fun j hj => absurd hj (by omega)⟩ (saQ rfl) (pfQ rfl) ?_
  intro i vs1 F1 tv1 hi31
  obtain ⟨hi, hs1, ⟨t1, ht1⟩, hK1⟩ := hi31
  have hl1 := hs1.len cx
  have hle1 : vs.length ≤ vs1.length := by rw [ht1, List.length_append]; omega
  have hy1 : vs1.getD q vx0 = (k, false) := old_at ht1 hqlt hyt
  have hyo1 : vs1.getD q vx0 = (k, ob) := old_at ht1 hqlt hyq
  refine srQ ?_
  refine zbr rfl rfl rfl rfl rfl rfl (fun h32 => ?_) (fun h32 => ?_)
  ·
   refine (zay (zaj (zaa (zaq rfl (zdg (zaj (zaa (zba (zaa (zai (hvQ rfl (riQ 1 rfl rfl rfl rfl (zad 1 rfl)) (hvQ rfl (zav (u := .int .i64 ((kidL n (k : Int)).getD i 0)) rfl rfl rfl (zad 1 rfl) (zcr (show _ < (kidL n (k : Int)).length by omega))) ?_))))))))))))
   have hkd := kid_at cx hs1 (by omega) hy1 (i := i) (by omega)
   obtain ⟨cn, hcn⟩ : ∃ m : Nat, (kidL n (k : Int)).getD i 0 = (m : Int) := ⟨_, (Int.toNat_of_nonneg hkd.1).symm⟩
   rw [hcn] at hkd
   rw [hcn]
   refine zab 1 rfl (zay (zaj (zai (zab 2 rfl (hvQ rfl (zcp (cs := #[.int .i64 (cn : Int), .bool true]) rfl rfl rfl) (hvQ rfl (zaf (cs := [.int .i64 (k : Int), .bool (ob)]) rfl rfl rfl rfl rfl (zag 2 rfl 0 rfl)) ?_))))))
   refine zec (R := (fun u_ p_ => ∃ (tv' : Value) (vs' : List Vx) (F' : Vx → Option Vx), p_ = visE b4 b7 mhR3 tv' vs'.length F' (vs'.drop (q + 1)) ∧ Vis n (nd : Int) fr ins E vs1 q (cn, true) vs' F')) 0 rfl rfl rfl rfl rfl rfl (fun L w hX hm => zfe (z := (cn, true)) (y := (k, ob)) cx hs1 (by omega) hyo1 (.inr ⟨.inr (.inr (.inl ⟨(by show ob = false; assumption), rfl, hrk, hkd.2.2.1⟩)), hkd.2.2.1.rch hrk⟩) _ _ _ _ _ _ _ hm) ?_
   intro v33 p34 hR35
   obtain ⟨tvc, vsc, Fc, rfl, hvc⟩ := hR35
   have hsc := hvc.s
   have hlc := hsc.len cx
   have hvlc := hvc.len_le
   refine zdo (l' := [visE b4 b7 mhR3 tvc vsc.length Fc (vsc.drop (q + 1)), rowE 3 1 v28 ((kidL n (k : Int)).length) ((kidL n (k : Int)).map (Value.int .i64)), boxE b10 #[.int .i64 (k : Int), .bool (ob)] 76]) rfl ?_
   refine zay (zdk (zai (hvQ rfl (vaQ rfl rfl rfl) (enQ 1 rfl ?_))))
   exact zbe (i + 1) vsc Fc tvc (by obtain ⟨tb, htb⟩ := hvc.old; exact ⟨by omega, hsc, ⟨t1 ++ tb, by rw [htb, ht1, List.append_assoc]⟩, fun j hj => by by_cases hje : j = i; (subst hje; rw [hcn, Int.toNat_natCast]; exact hvc.mem); (rw [htb]; exact List.mem_append_left _ (hK1 j (by omega)))⟩) (by omega) (saQ rfl) (pfQ rfl)
  refine ntQ (fcQ rfl ?_)
  refine zbi (zep ?_)
  refine zal (zaj (zaa (reQ 1 rfl (hvQ rfl (zbf rfl rfl) (hvQ rfl (fdQ 6 rfl rfl rfl) ?_)))))
  refine hvQ rfl (zan rfl rfl rfl (fun w hm => (hm.bel.cell (p := ⟨fb, 0 + 6, none⟩) hfb.lt).trans (hfb.c 6 _ rfl))) (zab 1 rfl (hvQ rfl (riQ 1 rfl rfl rfl rfl (zac hfr)) ?_))
  refine hvQ rfl (zav (u := .bool ((fr.getD k bl0).b)) rfl rfl rfl (zac hfr) (zbm blC (fun r => .bool r.b) (fun _ => rfl) fr bl0 (show k < _ by omega))) (zbc (fun h36 => ?_) (fun h36 => ?_))
  ·
   refine zab 2 rfl (hvQ rfl (zbf rfl rfl) (hvQ rfl (fdQ 7 rfl rfl rfl) ?_))
   refine hvQ rfl (zan rfl rfl rfl (fun w hm => (hm.bel.cell (p := ⟨fb, 0 + 7, none⟩) hfb.lt).trans (hfb.c 7 _ rfl))) (zab 1 rfl (hvQ rfl (riQ 1 rfl rfl rfl rfl (zac hiv)) (hvQ rfl (liQ rfl rfl rfl (zac hiv)) ?_)))
   refine zes rfl rfl rfl rfl rfl rfl (fun h37 => ?_) (fun h37 => ?_)
   ·
    refine zbb 11 rfl (zaq rfl (zai ?_))
    refine zab 2 rfl (hvQ rfl (zcp (cs := #[.int .i64 (k : Int), .bool true]) rfl rfl rfl) (hvQ rfl (zaf (cs := [.int .i64 (k : Int), .bool (ob)]) rfl rfl rfl rfl rfl (zag 2 rfl 0 rfl)) ?_))
    refine zec (R := (fun u_ p_ => ∃ (tv' : Value) (vs' : List Vx) (F' : Vx → Option Vx), p_ = visE b4 b7 mhR3 tv' vs'.length F' (vs'.drop (q + 1)) ∧ Vis n (nd : Int) fr ins E vs1 q (k, true) vs' F')) 0 rfl rfl rfl rfl rfl rfl (fun L w hX hm => zfe (z := (k, true)) (y := (k, ob)) cx hs1 (by omega) hyo1 (by by_cases hkS : k = nd; (left; rw [hkS]; exact hs1.top_mem); exact .inr ⟨.inr (.inl ⟨(by show ob = false; assumption), rfl, hkS, by show 1 ≤ ins.getD k 0; omega⟩), hrk⟩) _ _ _ _ _ _ _ hm) ?_
    intro v38 p39 hR40
    obtain ⟨tvd, vsd, Fd, rfl, hvd⟩ := hR40
    have hsd := hvd.s
    have hld := hsd.len cx
    have hvld := hvd.len_le
    refine zdo (l' := [visE b4 b7 mhR3 tvd vsd.length Fd (vsd.drop (q + 1)), rowE 3 1 v28 ((kidL n (k : Int)).length) ((kidL n (k : Int)).map (Value.int .i64)), boxE b10 #[.int .i64 (k : Int), .bool (ob)] 76]) rfl ?_
    refine zay (zap ?_)
    exact zbe vsd (q + 1) Fd tvd ⟨by omega, SrI.in_next cx hsd (by omega) (by obtain ⟨t9, ht9⟩ := hvd.old; exact old_at ht9 (by omega) hy1) (fun j hj => by obtain ⟨t9, ht9⟩ := hvd.old; rw [ht9]; exact List.mem_append_left _ (hK1 j (by omega))) (fun _ => hvd.mem) (by assumption)⟩ (by omega) (saQ rfl) (slQ [0] rfl)
   refine zab 3 rfl (hvQ rfl (zbf rfl rfl) (hvQ rfl (fdQ 7 rfl rfl rfl) ?_))
   refine hvQ rfl (zan rfl rfl rfl (fun w hm => (hm.bel.cell (p := ⟨fb, 0 + 7, none⟩) hfb.lt).trans (hfb.c 7 _ rfl))) (zab 1 rfl (hvQ rfl (riQ 1 rfl rfl rfl rfl (zac hiv)) (hvQ rfl (liQ rfl rfl rfl (zac hiv)) ?_)))
   refine zes rfl rfl rfl rfl rfl rfl (fun h41 => ?_) (fun h41 => ?_)
   ·
    refine zab 1 rfl (zay (zaj (zaq rfl (zai (zab 2 rfl (hvQ rfl (zcp (cs := #[.int .i64 (k : Int), .bool true]) rfl rfl rfl) (hvQ rfl (zaf (cs := [.int .i64 (k : Int), .bool (ob)]) rfl rfl rfl rfl rfl (zag 2 rfl 0 rfl)) ?_)))))))
    refine zec (R := (fun u_ p_ => ∃ (tv' : Value) (vs' : List Vx) (F' : Vx → Option Vx), p_ = visE b4 b7 mhR3 tv' vs'.length F' (vs'.drop (q + 1)) ∧ Vis n (nd : Int) fr ins E vs1 q (k, true) vs' F')) 0 rfl rfl rfl rfl rfl rfl (fun L w hX hm => zfe (z := (k, true)) (y := (k, ob)) cx hs1 (by omega) hyo1 (by by_cases hkS : k = nd; (left; rw [hkS]; exact hs1.top_mem); exact .inr ⟨.inr (.inl ⟨(by show ob = false; assumption), rfl, hkS, by show 1 ≤ ins.getD k 0; omega⟩), hrk⟩) _ _ _ _ _ _ _ hm) ?_
    intro v42 p43 hR44
    obtain ⟨tvd, vsd, Fd, rfl, hvd⟩ := hR44
    have hsd := hvd.s
    have hld := hsd.len cx
    have hvld := hvd.len_le
    refine zdo (l' := [visE b4 b7 mhR3 tvd vsd.length Fd (vsd.drop (q + 1)), rowE 3 1 v28 ((kidL n (k : Int)).length) ((kidL n (k : Int)).map (Value.int .i64)), boxE b10 #[.int .i64 (k : Int), .bool (ob)] 76]) rfl ?_
    refine zay (zap ?_)
    exact zbe vsd (q + 1) Fd tvd ⟨by omega, SrI.in_next cx hsd (by omega) (by obtain ⟨t9, ht9⟩ := hvd.old; exact old_at ht9 (by omega) hy1) (fun j hj => by obtain ⟨t9, ht9⟩ := hvd.old; rw [ht9]; exact List.mem_append_left _ (hK1 j (by omega))) (fun _ => hvd.mem) (by assumption)⟩ (by omega) (saQ rfl) (slQ [0] rfl)
   refine zbb 1 rfl (fsQ rfl (zap ?_))
   exact zbe vs1 (q + 1) F1 tv1 ⟨by omega, SrI.in_next cx hs1 (by omega) hy1 (fun j hj => hK1 j (by omega)) (fun hc => absurd hc (by omega)) (by assumption)⟩ (by omega) (saQ rfl) (slQ [0] rfl)
  refine zab 12 rfl (hvQ rfl (zbf rfl rfl) (hvQ rfl (fdQ 7 rfl rfl rfl) ?_))
  refine hvQ rfl (zan rfl rfl rfl (fun w hm => (hm.bel.cell (p := ⟨fb, 0 + 7, none⟩) hfb.lt).trans (hfb.c 7 _ rfl))) (zab 1 rfl (hvQ rfl (riQ 1 rfl rfl rfl rfl (zac hiv)) (hvQ rfl (liQ rfl rfl rfl (zac hiv)) ?_)))
  refine zes rfl rfl rfl rfl rfl rfl (fun h45 => ?_) (fun h45 => ?_)
  ·
   refine zab 1 rfl (zay (zaj (zaq rfl (zai (zab 2 rfl (hvQ rfl (zcp (cs := #[.int .i64 (k : Int), .bool true]) rfl rfl rfl) (hvQ rfl (zaf (cs := [.int .i64 (k : Int), .bool (ob)]) rfl rfl rfl rfl rfl (zag 2 rfl 0 rfl)) ?_)))))))
   refine zec (R := (fun u_ p_ => ∃ (tv' : Value) (vs' : List Vx) (F' : Vx → Option Vx), p_ = visE b4 b7 mhR3 tv' vs'.length F' (vs'.drop (q + 1)) ∧ Vis n (nd : Int) fr ins E vs1 q (k, true) vs' F')) 0 rfl rfl rfl rfl rfl rfl (fun L w hX hm => zfe (z := (k, true)) (y := (k, ob)) cx hs1 (by omega) hyo1 (by by_cases hkS : k = nd; (left; rw [hkS]; exact hs1.top_mem); exact .inr ⟨.inr (.inl ⟨(by show ob = false; assumption), rfl, hkS, by show 1 ≤ ins.getD k 0; omega⟩), hrk⟩) _ _ _ _ _ _ _ hm) ?_
   intro v46 p47 hR48
   obtain ⟨tvd, vsd, Fd, rfl, hvd⟩ := hR48
   have hsd := hvd.s
   have hld := hsd.len cx
   have hvld := hvd.len_le
   refine zdo (l' := [visE b4 b7 mhR3 tvd vsd.length Fd (vsd.drop (q + 1)), rowE 3 1 v28 ((kidL n (k : Int)).length) ((kidL n (k : Int)).map (Value.int .i64)), boxE b10 #[.int .i64 (k : Int), .bool (ob)] 76]) rfl ?_
   refine zay (zap ?_)
   exact zbe vsd (q + 1) Fd tvd ⟨by omega, SrI.in_next cx hsd (by omega) (by obtain ⟨t9, ht9⟩ := hvd.old; exact old_at ht9 (by omega) hy1) (fun j hj => by obtain ⟨t9, ht9⟩ := hvd.old; rw [ht9]; exact List.mem_append_left _ (hK1 j (by omega))) (fun _ => hvd.mem) (by assumption)⟩ (by omega) (saQ rfl) (slQ [0] rfl)
  refine zbb 1 rfl (fsQ rfl (zap ?_))
  exact zbe vs1 (q + 1) F1 tv1 ⟨by omega, SrI.in_next cx hs1 (by omega) hy1 (fun j hj => hK1 j (by omega)) (fun hc => absurd hc (by omega)) (by assumption)⟩ (by omega) (saQ rfl) (slQ [0] rfl)
 refine ntQ (zao rfl ?_)
 refine zbi (zep ?_)
 refine zal (zaj (srQ (hvQ rfl (zan rfl rfl rfl (zah 0 rfl rfl)) (zbb 2 rfl ?_))))
 refine zax (zcg 4 [3] rfl rfl (by decide) ?_)
 refine zfi _ conv_bg0 ?_
 refine zcg 2 [0, 1] rfl rfl (by decide) ?_
 exact zdl (rs := [.tmp 2, .tmp 3]) (vs := [.map (some mhR3), .pointer none]) (post := [frE mhR3 vs.length F, bigE []]) rfl ⟨rfl, rfl, trivial⟩ rfl (.refl _) ⟨mhR3, 0, q, vs, F, false, vx0, [], rfl, rfl, hs, fun _ => by have h9 : (vs.drop q).length = vs.length - q := List.length_drop; omega, fun h => absurd h (by decide)⟩
def eqS (a : Int) (b : Bool) (c : Int) (d : Bool) : Bool := (a == c) && (b == d)
section
variable {N : Nat} {w0 : World} {l : List HP} {env : List (Nat × Value)} {o : Oper}
theorem rv_eqSt {x y : Operand} {a c : Int} {b d : Bool} (ho : o.op = .binOp .eql 76 x y 76) (hx : ev env x = some (.agg #[.int .i64 a, .bool b])) (hy : ev env y = some (.agg #[.int .i64 c, .bool d])) :
    RunV Try.prog N w0 l env o (.bool (eqS a b c d)) := fun a1 w st => by
  have hg : (eqGuard .eql 76 x y (.agg #[.int .i64 a, .bool b]) (.agg #[.int .i64 c, .bool d])).run Try.prog w = .ok () w := run_eqGuard_agg _ _ _ _ _ _ _ (by kernel_rfl)
  have h2 : (binOp .eql 76 (.agg #[.int .i64 a, .bool b]) (.agg #[.int .i64 c, .bool d])).run Try.prog w = .ok (.bool (eqS a b c d)) w := by
    rw [run_eql_struct, run_equalIn_struct _ _ _ _ _ (by kernel_rfl) (by kernel_rfl)]
    have e0 : (Try.prog.fieldsOf 76).toList = [(Try.prog.fieldsOf 76)[0]!, (Try.prog.fieldsOf 76)[1]!] := by kernel_rfl
    have n0 : ((Try.prog.fieldsOf 76)[0]!).name = "node" := by kernel_rfl
    have n1 : ((Try.prog.fieldsOf 76)[1]!).name = "out" := by kernel_rfl
    have t0 : ((Try.prog.fieldsOf 76)[0]!).type = 3 := by kernel_rfl
    have t1 : ((Try.prog.fieldsOf 76)[1]!).type = 4 := by kernel_rfl
    have o0 : ((Try.prog.fieldsOf 76)[0]!).offset = 0 := by kernel_rfl
    have o1 : ((Try.prog.fieldsOf 76)[1]!).offset = 1 := by kernel_rfl
    rw [e0]
    generalize (Try.prog.fieldsOf 76)[0]! = f0 at *
    generalize (Try.prog.fieldsOf 76)[1]! = f1 at *
    have m0 : f0.name ≠ "_" := by rw [n0]; decide
    have m1 : f1.name ≠ "_" := by rw [n1]; decide
    have hk : Try.prog.plainKey 3 = true := by kernel_rfl
    have hkb : Try.prog.plainKey 4 = true := by kernel_rfl
    have q : ∀ (u v : Int) (w : World), (Op.equalIn 9999 3 (.int .i64 u) (.int .i64 v)).run Try.prog w = .ok (u == v) w := fun u v w => run_equalIn_int w 9998 3 .i64 .i64 u v Try.underlying3
    have qb : ∀ (u v : Bool) (w : World), (Op.equalIn 9999 4 (.bool u) (.bool v)).run Try.prog w = .ok (u == v) w := fun u v w => run_equalIn_bool' w 9998 4 u v Try.underlying4
    have pa : ∀ w : World, (part f0.type #[Value.int .i64 a, .bool b] f0.offset).run Try.prog w = .ok (.int .i64 a) w := fun w => by rw [t0, o0]; exact run_part_plain w hk rfl
    have pb : ∀ w : World, (part f1.type #[Value.int .i64 a, .bool b] f1.offset).run Try.prog w = .ok (.bool b) w := fun w => by rw [t1, o1]; exact run_part_plain w hkb rfl
    have pc : ∀ w : World, (part f0.type #[Value.int .i64 c, .bool d] f0.offset).run Try.prog w = .ok (.int .i64 c) w := fun w => by rw [t0, o0]; exact run_part_plain w hk rfl
    have pd : ∀ w : World, (part f1.type #[Value.int .i64 c, .bool d] f1.offset).run Try.prog w = .ok (.bool d) w := fun w => by rw [t1, o1]; exact run_part_plain w hkb rfl
    have q0 : ∀ (u v : Int) (w : World), (Op.equalIn 9999 f0.type (.int .i64 u) (.int .i64 v)).run Try.prog w = .ok (u == v) w := by rw [t0]; exact q
    have q1 : ∀ (u v : Bool) (w : World), (Op.equalIn 9999 f1.type (.bool u) (.bool v)).run Try.prog w = .ok (u == v) w := by rw [t1]; exact qb
    simp only [Op.eqFields, m0, m1, ne_eq, not_false_eq_true, if_true, Sem.run_bind, pa, pb, pc, pd, q0, q1, Result.andThen_ok, Sem.run_ite, Sem.run_pure]
    unfold eqS
    cases (a == c) <;> cases (b == d) <;> simp
  simp [execOp, ho, st.eval hx, st.eval hy, hg, h2]
theorem rv_endNil {t t' : TypeId} {x y : Operand} {fd : Bool} {bx : Nat} (ho : o.op = .binOp .eql t x y t') (ht : ∃ e, Try.prog.underlying t = some (.pointer e)) (hx : ev env x = some (endP fd bx)) (hy : ev env y = some (.pointer none)) : RunV Try.prog N w0 l env o (.bool (!fd)) := fun a1 w st => by
  obtain ⟨e, ht⟩ := ht
  have ht2 : Try.prog.underlying t = some (.pointer (Try.prog.pointee t)) := by rw [ht]; simp [Program.pointee, ht]
  have hp : endP fd bx = .pointer (if fd then some ⟨bx, 0, none⟩ else none) := by cases fd <;> rfl
  have h1 := st.eval hx
  rw [hp] at h1
  have h2 := run_eql_pointer_nil (P := Try.prog) w t (if fd then some ⟨bx, 0, none⟩ else none) ht2
  cases fd <;> simp_all [execOp, eqGuard, st.eval hy]
end
theorem bin_add1 {P : Program} {o : Oper} {t1 t2 : TypeId} {d0 : Nat} {m : Int} (p1 : o.op = .binOp .add t1 (.tmp d0) (.const (.int .i64 1)) t2) (hr : -9223372036854775808 ≤ m + 1 ∧ m + 1 ≤ 9223372036854775807) (a : Act) (w : World) (h : a.eval (.tmp d0) = inV m) : (execOp a.eval o).run P w = .ok (.value (inV (m + 1))) w := by
  have e := IntWalk.i64_in _ hr
  have h1 : a.eval (.const (.int .i64 1)) = .int .i64 1 := rfl
  simp [execOp, p1, h, h1, inV, eqGuard, binOp, Op.intArith, e]
theorem bin_sub1 {P : Program} {o : Oper} {t1 t2 : TypeId} {d0 : Nat} {m : Int} (p1 : o.op = .binOp .sub t1 (.tmp d0) (.const (.int .i64 1)) t2) (hr : -9223372036854775808 ≤ m - 1 ∧ m - 1 ≤ 9223372036854775807) (a : Act) (w : World) (h : a.eval (.tmp d0) = inV m) : (execOp a.eval o).run P w = .ok (.value (inV (m - 1))) w := by
  have e := IntWalk.i64_in _ hr
  have h1 : a.eval (.const (.int .i64 1)) = .int .i64 1 := rfl
  simp [execOp, p1, h, h1, inV, eqGuard, binOp, Op.intArith, e]
def BdI (ins : List Int) (E : Nat → Nat → Int) (b : Int) : Prop := (∀ k, ins.getD k 0 ≤ b) ∧ ∀ c k, E c k ≤ b
theorem BdI.le {ins : List Int} {E : Nat → Nat → Int} {b c : Int} (h : BdI ins E b) (hb : b ≤ c) : BdI ins E c := ⟨fun k => by have := h.1 k; omega, fun i j => by have := h.2 i j; omega⟩
theorem BdI.set {ins : List Int} {E : Nat → Nat → Int} {b : Int} (h : BdI ins E b) (k : Nat) {x : Int} (hx : x ≤ b + 1) (hb : 0 ≤ b + 1) : BdI (ins.set k x) E (b + 1) := ⟨fun j => by
  by_cases e : k = j
  · subst e
    by_cases c : k < ins.length
    · rw [zbn c]; exact hx
    · rw [List.getD_eq_getElem?_getD, List.getElem?_eq_none (by rw [List.length_set]; omega)]; exact hb
  · rw [List.getD_eq_getElem?_getD, List.getElem?_set_ne e, ← List.getD_eq_getElem?_getD]; have := h.1 j; omega, fun i j => by have := h.2 i j; omega⟩
theorem BdI.updT {ins : List Int} {E : Nat → Nat → Int} {b : Int} (h : BdI ins E b) (c k : Nat) {x : Int} (hx : x ≤ b + 1) : BdI ins (updT E c k x) (b + 1) := ⟨fun j => by have := h.1 j; omega, fun i j => by
  by_cases e : i = c ∧ j = k
  · rw [e.1, e.2, zft]; exact hx
  · rw [zee _ _ e]; have := h.2 i j; omega⟩
theorem FromI.some {n : Nt} {node : Int} {vs : List Vx} {F : Vx → Option Vx} (h : FromI n node vs F) {x : Vx} (hx : x ∈ vs) : ∃ y : Vx, F x = some (y.1, y.2) := by
  by_cases e : x = (node.toNat, true)
  · exact ⟨(node.toNat, true), by rw [e]; exact h.top⟩
  · obtain ⟨y, a, -⟩ := h.par x hx e; exact ⟨y, a⟩
structure PuS where
  ins : List Int
  G : Nat × Nat → Option Int
  ne : Nat
def pshE (fb : Nat) (n : Nt) (node : Int) (cv frv iv : Value) (eb bM m : Nat) (ins : List Int) (ne : Nat) (G : Nat × Nat → Option Int) (F : Vx → Option Vx) : HP := bigE [boxE fb #[.int .i64 n.ins, n.sv, n.av, n.ov, .int .i64 node, cv, frv, iv, .map (some eb)] 69, rowE 3 1 iv ins.length (ins.map (Value.int .i64)), egE eb ne G, frE bM m F]
theorem conv_psh {w0 : World} {l : List HP} {fb : Nat} {n : Nt} {node : Int} {cv frv iv : Value} {eb bM m : Nat} {ins : List Int} {ne : Nat} {G : Nat × Nat → Option Int} {F : Vx → Option Vx} : Conv w0 (boxE fb #[.int .i64 n.ins, n.sv, n.av, n.ov, .int .i64 node, cv, frv, iv, .map (some eb)] 69 :: rowE 3 1 iv ins.length (ins.map (Value.int .i64)) :: egE eb ne G :: frE bM m F :: l) (pshE fb n node cv frv iv eb bM m ins ne G F :: l) :=
  conv_big (ps := [boxE fb #[.int .i64 n.ins, n.sv, n.av, n.ov, .int .i64 node, cv, frv, iv, .map (some eb)] 69, rowE 3 1 iv ins.length (ins.map (Value.int .i64)), egE eb ne G, frE bM m F])
open Go.RowKit
section
variable {n : Nt} {node h : Int} {ls : List Int} {fr : List Bl} {ins : List Int} {E : Nat → Nat → Int} {v : Int} {vs : List Vx} {F : Vx → Option Vx}
theorem start_of (hF : FromI n node vs F) {x y : Vx} (hx : x ∈ vs) (hy : F x = some y) (hne : x ≠ y) : x ≠ (node.toNat, true) := fun e => by
  rw [e, hF.top] at hy; exact hne (by rw [e]; exact Option.some.inj hy)
theorem start_is (hF : FromI n node vs F) {x y : Vx} (hx : x ∈ vs) (hy : F x = some y) (he : x = y) : x = (node.toNat, true) := by
  by_cases e : x = (node.toNat, true)
  · exact e
  · obtain ⟨z, a, b, c⟩ := hF.par x hx e
    have : z = y := Option.some.inj (a.symm.trans hy)
    subst this; subst he; omega
theorem eqS_yes {a c : Nat} {b d : Bool} (h : eqS (a : Int) b (c : Int) d = true) : ((a, b) : Vx) = (c, d) := by
  unfold eqS at h
  rw [Bool.and_eq_true, beq_iff_eq, beq_iff_eq] at h
  exact Prod.ext (by have := h.1; show a = c; omega) h.2
theorem eqS_no {a c : Nat} {b d : Bool} (h : eqS (a : Int) b (c : Int) d = false) : ((a, b) : Vx) ≠ (c, d) := fun e => by
  cases e; unfold eqS at h; simp at h
end
structure PuI (n : Nt) (nd : Nat) (fr : List Bl) (fv : Int) (vs : List Vx) (F : Vx → Option Vx) (b0 : Int) (n0 : Nat) (x : Vx) (s : PuS) : Prop where
  ex : ∃ E, TrI n (nd : Int) fr s.ins E fv vs F x ∧ EgOk s.G E ∧ BdI s.ins E (b0 + vs.length - (vs.idxOf x : Int))
  ne : s.ne + vs.idxOf x ≤ n0 + vs.length
theorem PuI.put {n : Nt} {nd : Nat} {fr : List Bl} {fv : Int} {vs : List Vx} {F : Vx → Option Vx} {b0 : Int} {n0 : Nat} {x y : Vx} {s s' : PuS} (hs : PuI n nd fr fv vs F b0 n0 x s) (hb : 0 ≤ b0) (hxm : x ∈ vs) (hlt : vs.idxOf y < vs.idxOf x) {E' : Nat → Nat → Int} (ht : TrI n (nd : Int) fr s'.ins E' fv vs F y) (hg : EgOk s'.G E') (hbd : BdI s'.ins E' (b0 + vs.length - (vs.idxOf x : Int) + 1)) (hne : s'.ne ≤ s.ne + 1) : PuI n nd fr fv vs F b0 n0 y s' :=
  ⟨⟨E', ht, hg, hbd.le (by omega)⟩, by have := hs.ne; omega⟩
theorem push_mut (n : Nt) (nd : Nat) (hh : Int) (ls : List Int) (fr : List Bl) (ins : List Int) (E : Nat → Nat → Int) (fv : Int) (vs : List Vx) (F : Vx → Option Vx) (xk0 : Nat) (xo0 : Bool) (fb eb bM m n0 : Nat) (cv frv iv : Value) (G : Nat × Nat → Option Int) (b0 : Int) (w0 : World) (l : List HP) (w : World) (hm0 : Mem w0 (pshE fb n (nd : Int) cv frv iv eb bM m ins n0 G F :: l) w) (cx : FiCtx n (nd : Int) hh ls fr ins E fv) (hFr : FromI n (nd : Int) vs F) (htr : TrI n (nd : Int) fr ins E fv vs F (xk0, xo0)) (hge : EgOk G E) (hbd0 : BdI ins E b0) (hb0 : 0 ≤ b0) (hb1 : b0 ≤ 100000) (hn0 : n0 ≤ 100000) (hvl : vs.length ≤ 1000) :
   Calls Try.prog 43 #[.pointer (some ⟨fb, 0, none⟩), .map (some bM), .agg #[.int .i64 (xk0 : Int), .bool xo0]] w (fun e_ w_ => ∃ v_ p_, e_ = .returned v_ ∧ (fun v_ p_ => ∃ (s' : PuS) (E' : Nat → Nat → Int), p_ = pshE fb n (nd : Int) cv frv iv eb bM m s'.ins s'.ne s'.G F ∧ FiCtx n (nd : Int) hh ls fr s'.ins E' (fv + 1) ∧ EgOk s'.G E' ∧ BdI s'.ins E' (b0 + vs.length) ∧ s'.ne ≤ n0 + vs.length) v_ p_ ∧ Mem w0 (p_ :: l) w_) := by
 have hn := cx.ok
 have hi0 := hn.i0
 have hi1 := hn.i1
 have hs1 := hn.s1
 have ha1 := hn.a1
 have ho1 := hn.o1
 have hcnt : n.cnt = 1 + n.ins + n.ss.length + n.gs.length := rfl
 have hfst : n.fst = 1 + n.ins + n.ss.length := rfl
 have hnd := cx.nd
 have hil := cx.il
 refine zfj (N := 82) (args := [.pointer (some ⟨fb, 0, none⟩), .map (some bM), .agg #[.int .i64 (xk0 : Int), .bool xo0]]) Try.func43 rfl rfl hm0 (srQ ?_)
 refine hl_conv (boxE fb #[.int .i64 n.ins, n.sv, n.av, n.ov, .int .i64 (nd : Int), cv, frv, iv, .map (some eb)] 69 :: rowE 3 1 iv ins.length (ins.map (Value.int .i64)) :: egE eb n0 G :: frE bM m F :: l) zfy ?_
 refine zei rfl (zco rfl rfl) ?_
 intro b1
 refine (zay (zaj (zaa (zai (hvQ rfl (zaf (cs := [.int .i64 (xk0 : Int), .bool xo0]) rfl rfl rfl rfl rfl (zag 0 rfl 0 rfl)) ?_)))))
 refine zei rfl (zbq (z := .agg #[.int .i64 0, .bool false]) rfl rfl) ?_
 intro b2
 refine zbu (cs' := #[.int .i64 (xk0 : Int), .bool xo0]) (i := 0) (off := 0) (us := [.int .i64 (xk0 : Int), .bool xo0]) rfl rfl rfl rfl rfl rfl rfl (zar rfl (zar rfl zbs)) rfl rfl rfl (ntQ (zba ?_))
 refine lkQ4 (α := Nat) (β := Bool) (γ := PuS) (δ := Nat) [0, 1, 2, 5] rfl (fun xk xo sg xb => (boxE xb #[.int .i64 (xk : Int), .bool xo] 76 :: boxE fb #[.int .i64 n.ins, n.sv, n.av, n.ov, .int .i64 (nd : Int), cv, frv, iv, .map (some eb)] 69 :: rowE 3 1 iv sg.ins.length (sg.ins.map (Value.int .i64)) :: egE eb sg.ne sg.G :: frE bM m F :: l)) (fun xk xo sg xb => [(6, .pointer (some ⟨xb, 0, none⟩))]) (fun xk xo sg xb => PuI n nd fr fv vs F b0 n0 (xk, xo) sg) (fun xk xo sg xb => vs.idxOf ((xk, xo) : Vx)) xk0 xo0 ⟨ins, G, n0⟩ b2 ⟨⟨E, htr, hge, hbd0.le (by have := List.idxOf_lt_length_of_mem htr.mem; omega)⟩, by have := List.idxOf_lt_length_of_mem htr.mem; show n0 + _ ≤ _; omega⟩ (saQ rfl) (.cons_cons _ (.cons _ (.refl _))) ?_
 intro xk xo sg xb hi3
 have hpu := hi3
 obtain ⟨E2, ht2, hge2, hbd⟩ := hpu.ex
 have hne2 := hpu.ne
 have hxm := ht2.mem
 have hxr : xk < n.cnt.toNat := hFr.rng _ hxm
 have hxl := List.idxOf_lt_length_of_mem hxm
 have hil2 := ht2.il
 have hi00 : ∀ k, 0 ≤ sg.ins.getD k 0 := fun k => ht2.fp.i0 k
 have hE00 := ht2.fp.e0
 refine sbQ (srQ ?_)
 obtain ⟨⟨yk, yo⟩, hFy⟩ := hFr.some hxm
 refine zab 1 rfl (hvQ rfl (zaf (cs := [.int .i64 (xk : Int), .bool xo]) rfl rfl rfl rfl rfl (zag 0 rfl 0 rfl)) ?_)
 refine hvQ rfl (rv_lookMp (b := bM) (y := (xk, xo)) rfl Try.underlying71 kSt zSt rfl rfl (keySt (xk, xo) (by show xk ≤ _; omega)) (fun w hm => mpE_own 4 rfl w hm) (u := .agg #[.int .i64 (yk : Int), .bool yo]) (by rw [hFy]; rfl)) (zei rfl (zbq (z := .agg #[.int .i64 0, .bool false]) rfl rfl) ?_)
 intro b4
 refine zbu (cs' := #[.int .i64 (yk : Int), .bool yo]) (i := 0) (off := 0) (us := [.int .i64 (yk : Int), .bool yo]) rfl rfl rfl rfl rfl rfl rfl (zar rfl (zar rfl zbs)) rfl rfl rfl (zay (zaj (zaa (zaa (zai (hvQ rfl (zaf (cs := [.int .i64 (xk : Int), .bool xo]) rfl rfl rfl rfl rfl (zag 1 rfl 0 rfl)) (hvQ rfl (zaf (cs := [.int .i64 (yk : Int), .bool yo]) rfl rfl rfl rfl rfl (zag 0 rfl 0 rfl)) (hvQ rfl (rv_eqSt rfl rfl rfl) ?_))))))))
 refine zbc (fun h5 => ?_) (fun h5 => ?_)
 ·
  have h5p := eqS_yes h5
  refine ntQ (zaq rfl ?_)
  refine zax (zam ?_)
  refine zat (rt2Q ?_)
  refine zat (zcg 6 [5, 4, 3, 2] rfl rfl (by decide) ?_)
  refine zfi (pshE fb n (nd : Int) cv frv iv eb bM m sg.ins sg.ne sg.G F :: l) conv_psh ?_
  have hxe := start_is hFr hxm hFy (by assumption)
  have hxe2 : ((xk, xo) : Vx) = (nd, true) := hxe
  have hid : vs.idxOf ((xk, xo) : Vx) = 0 ∨ 0 ≤ vs.idxOf ((xk, xo) : Vx) := .inr (Nat.zero_le _)
  exact zex (rs := []) (vs := []) rfl trivial rfl (fun w hm => ⟨_, pshE fb n (nd : Int) cv frv iv eb bM m sg.ins sg.ne sg.G F, rfl, ⟨sg, E2, rfl, (by rw [hxe2] at ht2; exact ht2.done cx), hge2, hbd.le (by omega), by omega⟩, hm⟩)
 have h5p := eqS_no h5
 refine ntQ (zao rfl (zcw (sbQ (srQ ?_))))
 have hxs := start_of hFr hxm hFy (by assumption)
 obtain ⟨s1, s2, s3, s4, t1, t2, t3, t4⟩ := ht2.step cx.ok cx.nd cx.f1 hFr hxs hFy
 have hyr : yk < n.cnt.toNat := s4
 have hbi := hbd.1 xk
 have hbi0 := hi00 xk
 have hbe := hbd.2 xk yk
 have hbe2 := hbd.2 yk xk
 have hb10 := hE00 xk yk
 have hb20 := hE00 yk xk
 refine hvQ rfl (fdQ 0 rfl rfl rfl) (hvQ rfl (zan rfl rfl rfl (zah 1 rfl rfl)) (hvQ rfl (fdQ 0 rfl rfl rfl) (hvQ rfl (zan rfl rfl rfl (zah 0 rfl rfl)) ?_)))
 refine zcj rfl rfl rfl rfl rfl rfl (fun h6 => ?_) (fun h6 => ?_)
 ·
  refine zab 1 rfl (hvQ rfl (fdQ 1 rfl rfl rfl) (hvQ rfl (zan rfl rfl rfl (zah 0 rfl rfl)) ?_))
  refine zbc (fun h7 => ?_) (fun h7 => ?_)
  ·
   refine zbb 2 rfl (zaq rfl ?_)
   refine zbl 10 [[], [0], [1], [2], [], [4], [3, 5], [6], [7], [3, 5]] [38, 39, 40, 41, 42, 43, 44, 45, 46, 47] [.pointer (some ⟨fb, 0, none⟩), .pointer (some ⟨fb, 0, none⟩), .pointer (some ⟨fb, 0 + 7, none⟩), iv, .pointer (some ⟨xb, 0 + 0, none⟩), .int .i64 (xk : Int), elP iv (((xk : Int)).toNat * 1), .int .i64 (sg.ins.getD xk 0), .int .i64 ((sg.ins.getD xk 0) + 1), elP iv (((xk : Int)).toNat * 1)] (by kernel_rfl) rfl ?_ ?_
   ·
    exact ⟨iaQ rfl (zae rfl) rfl, iaQ rfl (zbf rfl rfl) rfl, iaQ rfl (fdQ 7 rfl rfl rfl) rfl, iaQ rfl (zan rfl rfl rfl (zah 2 rfl rfl)) rfl, iaQ rfl (fdQ 0 rfl rfl rfl) rfl, iaQ rfl (zan rfl rfl rfl (zah 1 rfl rfl)) rfl, iaQ rfl (riQ 1 rfl rfl rfl rfl (zad 3 rfl)) rfl, iaQ rfl (liQ rfl rfl rfl (zad 3 rfl)) rfl, iaQ rfl (vaQ rfl rfl rfl) rfl, iaQ rfl (riQ 1 rfl rfl rfl rfl (zad 3 rfl)) rfl, trivial⟩
   simp only [List.drop_succ_cons, List.drop_zero]
   refine zdh (i := 3) (n' := (sg.ins.set xk ((sg.ins.getD xk 0) + 1)).length) (xs' := ((sg.ins.set xk ((sg.ins.getD xk 0) + 1)).map (Value.int .i64))) rfl rfl rfl rfl rfl rfl rfl rfl (by first | omega | (simp only [List.length_set]; omega)) List.length_set.symm (zeg _ _ _) rfl (zay (zap (zaj (zai (hvQ rfl (zaf (cs := [.int .i64 (yk : Int), .bool yo]) rfl rfl rfl rfl rfl (zag 0 rfl 0 rfl)) ?_)))))
   refine zbu (cs' := #[.int .i64 (yk : Int), .bool yo]) (i := 1) (off := 0) (us := [.int .i64 (yk : Int), .bool yo]) rfl rfl rfl rfl rfl rfl rfl (zar rfl (zar rfl zbs)) rfl rfl rfl (zay (zap (zaj (zaa (zai (hvQ rfl (zaf (cs := [.int .i64 (yk : Int), .bool yo]) rfl rfl rfl rfl rfl (zag 1 rfl 0 rfl)) (ntQ (zai ?_))))))))
   refine zei rfl (zbq (z := .agg #[.int .i64 0, .bool false]) rfl rfl) ?_
   intro b8
   refine zbu (cs' := #[.int .i64 (yk : Int), .bool yo]) (i := 0) (off := 0) (us := [.int .i64 (yk : Int), .bool yo]) rfl rfl rfl rfl rfl rfl rfl (zar rfl (zar rfl zbs)) rfl rfl rfl (zay ?_)
   refine zcg 7 [2, 1, 6, 5, 4, 3, 0] rfl rfl (by decide) ?_
   exact zbe yk yo ⟨sg.ins.set xk ((sg.ins.getD xk 0) + 1), sg.G, sg.ne⟩ b8 (hpu.put hb0 hxm s2 (t1 (by show xk = yk; omega) (by first | (show yo = _; assumption) | (exfalso; omega))) hge2 (hbd.set xk (by have := hbd.1 xk; omega) (by omega)) (Nat.le_succ _)) s2 (saQ rfl) (.cons_cons _ (.cons_cons _ (.cons_cons _ (.cons_cons _ (.cons_cons _ (.cons _ (.cons _ (.refl _))))))))
  refine zbb 2 rfl (zao rfl (srQ (hvQ rfl (fdQ 0 rfl rfl rfl) (hvQ rfl (zan rfl rfl rfl (zah 1 rfl rfl)) (hvQ rfl (fdQ 0 rfl rfl rfl) (hvQ rfl (zan rfl rfl rfl (zah 0 rfl rfl)) ?_))))))
  refine zcj rfl rfl rfl rfl rfl rfl (fun h9 => ?_) (fun h9 => ?_)
  ·
   refine zbb 1 rfl (zaq rfl ?_)
   refine zbl 10 [[], [0], [1], [2], [], [4], [3, 5], [6], [7], [3, 5]] [54, 55, 56, 57, 58, 59, 60, 61, 62, 63] [.pointer (some ⟨fb, 0, none⟩), .pointer (some ⟨fb, 0, none⟩), .pointer (some ⟨fb, 0 + 7, none⟩), iv, .pointer (some ⟨xb, 0 + 0, none⟩), .int .i64 (xk : Int), elP iv (((xk : Int)).toNat * 1), .int .i64 (sg.ins.getD xk 0), .int .i64 ((sg.ins.getD xk 0) - 1), elP iv (((xk : Int)).toNat * 1)] (by kernel_rfl) rfl ?_ ?_
   ·
    exact ⟨iaQ rfl (zae rfl) rfl, iaQ rfl (zbf rfl rfl) rfl, iaQ rfl (fdQ 7 rfl rfl rfl) rfl, iaQ rfl (zan rfl rfl rfl (zah 2 rfl rfl)) rfl, iaQ rfl (fdQ 0 rfl rfl rfl) rfl, iaQ rfl (zan rfl rfl rfl (zah 1 rfl rfl)) rfl, iaQ rfl (riQ 1 rfl rfl rfl rfl (zad 3 rfl)) rfl, iaQ rfl (liQ rfl rfl rfl (zad 3 rfl)) rfl, iaQ rfl (vsQ rfl rfl rfl) rfl, iaQ rfl (riQ 1 rfl rfl rfl rfl (zad 3 rfl)) rfl, trivial⟩
   simp only [List.drop_succ_cons, List.drop_zero]
   refine zdh (i := 3) (n' := (sg.ins.set xk ((sg.ins.getD xk 0) - 1)).length) (xs' := ((sg.ins.set xk ((sg.ins.getD xk 0) - 1)).map (Value.int .i64))) rfl rfl rfl rfl rfl rfl rfl rfl (by first | omega | (simp only [List.length_set]; omega)) List.length_set.symm (zeg _ _ _) rfl (zay (zap (zaj (zai (hvQ rfl (zaf (cs := [.int .i64 (yk : Int), .bool yo]) rfl rfl rfl rfl rfl (zag 0 rfl 0 rfl)) ?_)))))
   refine zbu (cs' := #[.int .i64 (yk : Int), .bool yo]) (i := 1) (off := 0) (us := [.int .i64 (yk : Int), .bool yo]) rfl rfl rfl rfl rfl rfl rfl (zar rfl (zar rfl zbs)) rfl rfl rfl (zay (zap (zaj (zaa (zai (hvQ rfl (zaf (cs := [.int .i64 (yk : Int), .bool yo]) rfl rfl rfl rfl rfl (zag 1 rfl 0 rfl)) (ntQ (zai ?_))))))))
   refine zei rfl (zbq (z := .agg #[.int .i64 0, .bool false]) rfl rfl) ?_
   intro b10
   refine zbu (cs' := #[.int .i64 (yk : Int), .bool yo]) (i := 0) (off := 0) (us := [.int .i64 (yk : Int), .bool yo]) rfl rfl rfl rfl rfl rfl rfl (zar rfl (zar rfl zbs)) rfl rfl rfl (zay ?_)
   refine zcg 7 [2, 1, 6, 5, 4, 3, 0] rfl rfl (by decide) ?_
   exact zbe yk yo ⟨sg.ins.set xk ((sg.ins.getD xk 0) - 1), sg.G, sg.ne⟩ b10 (hpu.put hb0 hxm s2 (t2 (by show xk = yk; omega) (by first | (show yo = _; assumption) | (exfalso; omega))) hge2 (hbd.set xk (by have := hbd.1 xk; omega) (by omega)) (Nat.le_succ _)) s2 (saQ rfl) (.cons_cons _ (.cons_cons _ (.cons_cons _ (.cons_cons _ (.cons_cons _ (.cons _ (.cons _ (.refl _))))))))
  refine zbb 1 rfl (zao rfl (srQ (hvQ rfl (fdQ 1 rfl rfl rfl) (hvQ rfl (zan rfl rfl rfl (zah 1 rfl rfl)) ?_))))
  refine zbc (fun h11 => ?_) (fun h11 => ?_)
  ·
   refine zbb 1 rfl (zaq rfl ?_)
   refine hc_bump (i := 4) (F := sg.G) (y0 := (0 : Int)) (y' := ((sg.G (xk, yk)).getD 0 + 1)) (kx := (xk, yk)) (env2 := [(0, .pointer (some ⟨fb, 0, none⟩)), (1, .map (some bM)), (2, .agg #[.int .i64 (xk0 : Int), .bool xo0]), (5, .pointer (some ⟨b1, 0, none⟩)), (6, .pointer (some ⟨xb, 0, none⟩)), (7, .pointer (some ⟨b4, 0, none⟩)), (14, .bool false), (28, .bool false), (48, .bool false), (64, .bool true)]) (l' := (boxE b4 #[.int .i64 (yk : Int), .bool yo] 76 :: boxE xb #[.int .i64 (xk : Int), .bool xo] 76 :: boxE fb #[.int .i64 n.ins, n.sv, n.av, n.ov, .int .i64 (nd : Int), cv, frv, iv, .map (some eb)] 69 :: rowE 3 1 iv sg.ins.length (sg.ins.map (Value.int .i64)) :: egE eb (sg.ne + 1) (mpU sg.G (xk, yk) ((sg.G (xk, yk)).getD 0 + 1)) :: frE bM m F :: l)) 9 [[], [0], [1], [2], [], [4], [], [6], [5, 7]] [67, 68, 69, 70, 71, 72, 73, 74, 75] [.pointer (some ⟨fb, 0, none⟩), .pointer (some ⟨fb, 0, none⟩), .pointer (some ⟨fb, 0 + 8, none⟩), .map (some eb), .pointer (some ⟨xb, 0 + 0, none⟩), .int .i64 (xk : Int), .pointer (some ⟨b4, 0 + 0, none⟩), .int .i64 (yk : Int), .agg #[.int .i64 (xk : Int), .int .i64 (yk : Int)]] (by kernel_rfl) (by kernel_rfl) rfl rfl rfl ⟨rfl, rfl, rfl, rfl, rfl⟩ ⟨rfl, rfl, rfl, rfl, rfl⟩ rfl rfl rfl rfl rfl rfl rfl (keyEd (xk, yk) (by show (_ : Nat) ≤ _; dsimp only; omega) (by show (_ : Nat) ≤ _; dsimp only; omega)) kEd klEd edV_inj Try.underlying67 zIn (by omega) rfl (bin_add1 rfl (by rw [hge2]; omega)) rfl ?_ (zau [64, 48, 28, 14, 7, 6, 5, 2, 1, 0] rfl) ?_
   ·
    exact ⟨iaQ rfl (zae rfl) rfl, iaQ rfl (zbf rfl rfl) rfl, iaQ rfl (fdQ 8 rfl rfl rfl) rfl, iaQ rfl (zan rfl rfl rfl (zah 2 rfl rfl)) rfl, iaQ rfl (fdQ 0 rfl rfl rfl) rfl, iaQ rfl (zan rfl rfl rfl (zah 1 rfl rfl)) rfl, iaQ rfl (fdQ 0 rfl rfl rfl) rfl, iaQ rfl (zan rfl rfl rfl (zah 0 rfl rfl)) rfl, iaQ rfl (zcp (cs := #[.int .i64 (xk : Int), .int .i64 (yk : Int)]) rfl rfl rfl) rfl, trivial⟩
   refine zap (zaj (zai (hvQ rfl (zaf (cs := [.int .i64 (yk : Int), .bool yo]) rfl rfl rfl rfl rfl (zag 0 rfl 0 rfl)) ?_)))
   refine zbu (cs' := #[.int .i64 (yk : Int), .bool yo]) (i := 1) (off := 0) (us := [.int .i64 (yk : Int), .bool yo]) rfl rfl rfl rfl rfl rfl rfl (zar rfl (zar rfl zbs)) rfl rfl rfl (zay (zap (zaj (zaa (zai (hvQ rfl (zaf (cs := [.int .i64 (yk : Int), .bool yo]) rfl rfl rfl rfl rfl (zag 1 rfl 0 rfl)) (ntQ (zai ?_))))))))
   refine zei rfl (zbq (z := .agg #[.int .i64 0, .bool false]) rfl rfl) ?_
   intro b12
   refine zbu (cs' := #[.int .i64 (yk : Int), .bool yo]) (i := 0) (off := 0) (us := [.int .i64 (yk : Int), .bool yo]) rfl rfl rfl rfl rfl rfl rfl (zar rfl (zar rfl zbs)) rfl rfl rfl (zay ?_)
   refine zcg 7 [2, 1, 6, 5, 4, 3, 0] rfl rfl (by decide) ?_
   exact zbe yk yo ⟨sg.ins, mpU sg.G (xk, yk) ((sg.G (xk, yk)).getD 0 + 1), sg.ne + 1⟩ b12 (hpu.put hb0 hxm s2 (t3 (by show xk ≠ yk; omega) (by first | (show xo = _; assumption) | (exfalso; omega))) (by have h9 := hge2.upd xk yk (E2 xk yk + 1); rw [show (sg.G (xk, yk)).getD 0 = E2 xk yk from hge2 xk yk]; exact h9) (hbd.updT xk yk (by have := hbd.2 xk yk; show E2 xk yk + 1 ≤ _; omega)) (Nat.le_refl _)) s2 (saQ rfl) (.cons_cons _ (.cons_cons _ (.cons_cons _ (.cons_cons _ (.cons_cons _ (.cons _ (.cons _ (.refl _))))))))
  refine zbb 1 rfl (zao rfl ?_)
  refine hc_bump (i := 4) (F := sg.G) (y0 := (0 : Int)) (y' := ((sg.G (yk, xk)).getD 0 - 1)) (kx := (yk, xk)) (env2 := [(0, .pointer (some ⟨fb, 0, none⟩)), (1, .map (some bM)), (2, .agg #[.int .i64 (xk0 : Int), .bool xo0]), (5, .pointer (some ⟨b1, 0, none⟩)), (6, .pointer (some ⟨xb, 0, none⟩)), (7, .pointer (some ⟨b4, 0, none⟩)), (14, .bool false), (28, .bool false), (48, .bool false), (64, .bool false)]) (l' := (boxE b4 #[.int .i64 (yk : Int), .bool yo] 76 :: boxE xb #[.int .i64 (xk : Int), .bool xo] 76 :: boxE fb #[.int .i64 n.ins, n.sv, n.av, n.ov, .int .i64 (nd : Int), cv, frv, iv, .map (some eb)] 69 :: rowE 3 1 iv sg.ins.length (sg.ins.map (Value.int .i64)) :: egE eb (sg.ne + 1) (mpU sg.G (yk, xk) ((sg.G (yk, xk)).getD 0 - 1)) :: frE bM m F :: l)) 9 [[], [0], [1], [2], [], [4], [], [6], [5, 7]] [15, 16, 17, 18, 19, 20, 21, 22, 23] [.pointer (some ⟨fb, 0, none⟩), .pointer (some ⟨fb, 0, none⟩), .pointer (some ⟨fb, 0 + 8, none⟩), .map (some eb), .pointer (some ⟨b4, 0 + 0, none⟩), .int .i64 (yk : Int), .pointer (some ⟨xb, 0 + 0, none⟩), .int .i64 (xk : Int), .agg #[.int .i64 (yk : Int), .int .i64 (xk : Int)]] (by kernel_rfl) (by kernel_rfl) rfl rfl rfl ⟨rfl, rfl, rfl, rfl, rfl⟩ ⟨rfl, rfl, rfl, rfl, rfl⟩ rfl rfl rfl rfl rfl rfl rfl (keyEd (yk, xk) (by show (_ : Nat) ≤ _; dsimp only; omega) (by show (_ : Nat) ≤ _; dsimp only; omega)) kEd klEd edV_inj Try.underlying67 zIn (by omega) rfl (bin_sub1 rfl (by rw [hge2]; omega)) rfl ?_ (zau [64, 48, 28, 14, 7, 6, 5, 2, 1, 0] rfl) ?_
  ·
   exact ⟨iaQ rfl (zae rfl) rfl, iaQ rfl (zbf rfl rfl) rfl, iaQ rfl (fdQ 8 rfl rfl rfl) rfl, iaQ rfl (zan rfl rfl rfl (zah 2 rfl rfl)) rfl, iaQ rfl (fdQ 0 rfl rfl rfl) rfl, iaQ rfl (zan rfl rfl rfl (zah 0 rfl rfl)) rfl, iaQ rfl (fdQ 0 rfl rfl rfl) rfl, iaQ rfl (zan rfl rfl rfl (zah 1 rfl rfl)) rfl, iaQ rfl (zcp (cs := #[.int .i64 (yk : Int), .int .i64 (xk : Int)]) rfl rfl rfl) rfl, trivial⟩
  refine zap (zaj (zai (hvQ rfl (zaf (cs := [.int .i64 (yk : Int), .bool yo]) rfl rfl rfl rfl rfl (zag 0 rfl 0 rfl)) ?_)))
  refine zbu (cs' := #[.int .i64 (yk : Int), .bool yo]) (i := 1) (off := 0) (us := [.int .i64 (yk : Int), .bool yo]) rfl rfl rfl rfl rfl rfl rfl (zar rfl (zar rfl zbs)) rfl rfl rfl (zay (zap (zaj (zaa (zai (hvQ rfl (zaf (cs := [.int .i64 (yk : Int), .bool yo]) rfl rfl rfl rfl rfl (zag 1 rfl 0 rfl)) (ntQ (zai ?_))))))))
  refine zei rfl (zbq (z := .agg #[.int .i64 0, .bool false]) rfl rfl) ?_
  intro b13
  refine zbu (cs' := #[.int .i64 (yk : Int), .bool yo]) (i := 0) (off := 0) (us := [.int .i64 (yk : Int), .bool yo]) rfl rfl rfl rfl rfl rfl rfl (zar rfl (zar rfl zbs)) rfl rfl rfl (zay ?_)
  refine zcg 7 [2, 1, 6, 5, 4, 3, 0] rfl rfl (by decide) ?_
  exact zbe yk yo ⟨sg.ins, mpU sg.G (yk, xk) ((sg.G (yk, xk)).getD 0 - 1), sg.ne + 1⟩ b13 (hpu.put hb0 hxm s2 (t4 (by show xk ≠ yk; omega) (by first | (show xo = _; assumption) | (exfalso; omega))) (by have h9 := hge2.upd yk xk (E2 yk xk - 1); rw [show (sg.G (yk, xk)).getD 0 = E2 yk xk from hge2 yk xk]; exact h9) (hbd.updT yk xk (by have := hbd.2 yk xk; show E2 yk xk - 1 ≤ _; omega)) (Nat.le_refl _)) s2 (saQ rfl) (.cons_cons _ (.cons_cons _ (.cons_cons _ (.cons_cons _ (.cons_cons _ (.cons _ (.cons _ (.refl _))))))))
 refine zbb 5 rfl (zao rfl (srQ (hvQ rfl (fdQ 0 rfl rfl rfl) (hvQ rfl (zan rfl rfl rfl (zah 1 rfl rfl)) (hvQ rfl (fdQ 0 rfl rfl rfl) (hvQ rfl (zan rfl rfl rfl (zah 0 rfl rfl)) ?_))))))
 refine zcj rfl rfl rfl rfl rfl rfl (fun h14 => ?_) (fun h14 => ?_)
 ·
  refine zbb 1 rfl (zaq rfl ?_)
  refine zbl 10 [[], [0], [1], [2], [], [4], [3, 5], [6], [7], [3, 5]] [54, 55, 56, 57, 58, 59, 60, 61, 62, 63] [.pointer (some ⟨fb, 0, none⟩), .pointer (some ⟨fb, 0, none⟩), .pointer (some ⟨fb, 0 + 7, none⟩), iv, .pointer (some ⟨xb, 0 + 0, none⟩), .int .i64 (xk : Int), elP iv (((xk : Int)).toNat * 1), .int .i64 (sg.ins.getD xk 0), .int .i64 ((sg.ins.getD xk 0) - 1), elP iv (((xk : Int)).toNat * 1)] (by kernel_rfl) rfl ?_ ?_
  ·
   exact ⟨iaQ rfl (zae rfl) rfl, iaQ rfl (zbf rfl rfl) rfl, iaQ rfl (fdQ 7 rfl rfl rfl) rfl, iaQ rfl (zan rfl rfl rfl (zah 2 rfl rfl)) rfl, iaQ rfl (fdQ 0 rfl rfl rfl) rfl, iaQ rfl (zan rfl rfl rfl (zah 1 rfl rfl)) rfl, iaQ rfl (riQ 1 rfl rfl rfl rfl (zad 3 rfl)) rfl, iaQ rfl (liQ rfl rfl rfl (zad 3 rfl)) rfl, iaQ rfl (vsQ rfl rfl rfl) rfl, iaQ rfl (riQ 1 rfl rfl rfl rfl (zad 3 rfl)) rfl, trivial⟩
  simp only [List.drop_succ_cons, List.drop_zero]
  refine zdh (i := 3) (n' := (sg.ins.set xk ((sg.ins.getD xk 0) - 1)).length) (xs' := ((sg.ins.set xk ((sg.ins.getD xk 0) - 1)).map (Value.int .i64))) rfl rfl rfl rfl rfl rfl rfl rfl (by first | omega | (simp only [List.length_set]; omega)) List.length_set.symm (zeg _ _ _) rfl (zay (zap (zaj (zai (hvQ rfl (zaf (cs := [.int .i64 (yk : Int), .bool yo]) rfl rfl rfl rfl rfl (zag 0 rfl 0 rfl)) ?_)))))
  refine zbu (cs' := #[.int .i64 (yk : Int), .bool yo]) (i := 1) (off := 0) (us := [.int .i64 (yk : Int), .bool yo]) rfl rfl rfl rfl rfl rfl rfl (zar rfl (zar rfl zbs)) rfl rfl rfl (zay (zap (zaj (zaa (zai (hvQ rfl (zaf (cs := [.int .i64 (yk : Int), .bool yo]) rfl rfl rfl rfl rfl (zag 1 rfl 0 rfl)) (ntQ (zai ?_))))))))
  refine zei rfl (zbq (z := .agg #[.int .i64 0, .bool false]) rfl rfl) ?_
  intro b15
  refine zbu (cs' := #[.int .i64 (yk : Int), .bool yo]) (i := 0) (off := 0) (us := [.int .i64 (yk : Int), .bool yo]) rfl rfl rfl rfl rfl rfl rfl (zar rfl (zar rfl zbs)) rfl rfl rfl (zay ?_)
  refine zcg 7 [2, 1, 6, 5, 4, 3, 0] rfl rfl (by decide) ?_
  exact zbe yk yo ⟨sg.ins.set xk ((sg.ins.getD xk 0) - 1), sg.G, sg.ne⟩ b15 (hpu.put hb0 hxm s2 (t2 (by show xk = yk; omega) (by first | (show yo = _; assumption) | (exfalso; omega))) hge2 (hbd.set xk (by have := hbd.1 xk; omega) (by omega)) (Nat.le_succ _)) s2 (saQ rfl) (.cons_cons _ (.cons_cons _ (.cons_cons _ (.cons_cons _ (.cons_cons _ (.cons _ (.cons _ (.refl _))))))))
 refine zbb 1 rfl (zao rfl (srQ (hvQ rfl (fdQ 1 rfl rfl rfl) (hvQ rfl (zan rfl rfl rfl (zah 1 rfl rfl)) ?_))))
 refine zbc (fun h16 => ?_) (fun h16 => ?_)
 ·
  refine zbb 1 rfl (zaq rfl ?_)
  refine hc_bump (i := 4) (F := sg.G) (y0 := (0 : Int)) (y' := ((sg.G (xk, yk)).getD 0 + 1)) (kx := (xk, yk)) (env2 := [(0, .pointer (some ⟨fb, 0, none⟩)), (1, .map (some bM)), (2, .agg #[.int .i64 (xk0 : Int), .bool xo0]), (5, .pointer (some ⟨b1, 0, none⟩)), (6, .pointer (some ⟨xb, 0, none⟩)), (7, .pointer (some ⟨b4, 0, none⟩)), (14, .bool false), (28, .bool false), (48, .bool false), (64, .bool true)]) (l' := (boxE b4 #[.int .i64 (yk : Int), .bool yo] 76 :: boxE xb #[.int .i64 (xk : Int), .bool xo] 76 :: boxE fb #[.int .i64 n.ins, n.sv, n.av, n.ov, .int .i64 (nd : Int), cv, frv, iv, .map (some eb)] 69 :: rowE 3 1 iv sg.ins.length (sg.ins.map (Value.int .i64)) :: egE eb (sg.ne + 1) (mpU sg.G (xk, yk) ((sg.G (xk, yk)).getD 0 + 1)) :: frE bM m F :: l)) 9 [[], [0], [1], [2], [], [4], [], [6], [5, 7]] [67, 68, 69, 70, 71, 72, 73, 74, 75] [.pointer (some ⟨fb, 0, none⟩), .pointer (some ⟨fb, 0, none⟩), .pointer (some ⟨fb, 0 + 8, none⟩), .map (some eb), .pointer (some ⟨xb, 0 + 0, none⟩), .int .i64 (xk : Int), .pointer (some ⟨b4, 0 + 0, none⟩), .int .i64 (yk : Int), .agg #[.int .i64 (xk : Int), .int .i64 (yk : Int)]] (by kernel_rfl) (by kernel_rfl) rfl rfl rfl ⟨rfl, rfl, rfl, rfl, rfl⟩ ⟨rfl, rfl, rfl, rfl, rfl⟩ rfl rfl rfl rfl rfl rfl rfl (keyEd (xk, yk) (by show (_ : Nat) ≤ _; dsimp only; omega) (by show (_ : Nat) ≤ _; dsimp only; omega)) kEd klEd edV_inj Try.underlying67 zIn (by omega) rfl (bin_add1 rfl (by rw [hge2]; omega)) rfl ?_ (zau [64, 48, 28, 14, 7, 6, 5, 2, 1, 0] rfl) ?_
  ·
   exact ⟨iaQ rfl (zae rfl) rfl, iaQ rfl (zbf rfl rfl) rfl, iaQ rfl (fdQ 8 rfl rfl rfl) rfl, iaQ rfl (zan rfl rfl rfl (zah 2 rfl rfl)) rfl, iaQ rfl (fdQ 0 rfl rfl rfl) rfl, iaQ rfl (zan rfl rfl rfl (zah 1 rfl rfl)) rfl, iaQ rfl (fdQ 0 rfl rfl rfl) rfl, iaQ rfl (zan rfl rfl rfl (zah 0 rfl rfl)) rfl, iaQ rfl (zcp (cs := #[.int .i64 (xk : Int), .int .i64 (yk : Int)]) rfl rfl rfl) rfl, trivial⟩
  refine zap (zaj (zai (hvQ rfl (zaf (cs := [.int .i64 (yk : Int), .bool yo]) rfl rfl rfl rfl rfl (zag 0 rfl 0 rfl)) ?_)))
  refine zbu (cs' := #[.int .i64 (yk : Int), .bool yo]) (i := 1) (off := 0) (us := [.int .i64 (yk : Int), .bool yo]) rfl rfl rfl rfl rfl rfl rfl (zar rfl (zar rfl zbs)) rfl rfl rfl (zay (zap (zaj (zaa (zai (hvQ rfl (zaf (cs := [.int .i64 (yk : Int), .bool yo]) rfl rfl rfl rfl rfl (zag 1 rfl 0 rfl)) (ntQ (zai ?_))))))))
  refine zei rfl (zbq (z := .agg #[.int .i64 0, .bool false]) rfl rfl) ?_
  intro b17
  refine zbu (cs' := #[.int .i64 (yk : Int), .bool yo]) (i := 0) (off := 0) (us := [.int .i64 (yk : Int), .bool yo]) rfl rfl rfl rfl rfl rfl rfl (zar rfl (zar rfl zbs)) rfl rfl rfl (zay ?_)
  refine zcg 7 [2, 1, 6, 5, 4, 3, 0] rfl rfl (by decide) ?_
  exact zbe yk yo ⟨sg.ins, mpU sg.G (xk, yk) ((sg.G (xk, yk)).getD 0 + 1), sg.ne + 1⟩ b17 (hpu.put hb0 hxm s2 (t3 (by show xk ≠ yk; omega) (by first | (show xo = _; assumption) | (exfalso; omega))) (by have h9 := hge2.upd xk yk (E2 xk yk + 1); rw [show (sg.G (xk, yk)).getD 0 = E2 xk yk from hge2 xk yk]; exact h9) (hbd.updT xk yk (by have := hbd.2 xk yk; show E2 xk yk + 1 ≤ _; omega)) (Nat.le_refl _)) s2 (saQ rfl) (.cons_cons _ (.cons_cons _ (.cons_cons _ (.cons_cons _ (.cons_cons _ (.cons _ (.cons _ (.refl _))))))))
 refine zbb 1 rfl (zao rfl ?_)
 refine hc_bump (i := 4) (F := sg.G) (y0 := (0 : Int)) (y' := ((sg.G (yk, xk)).getD 0 - 1)) (kx := (yk, xk)) (env2 := [(0, .pointer (some ⟨fb, 0, none⟩)), (1, .map (some bM)), (2, .agg #[.int .i64 (xk0 : Int), .bool xo0]), (5, .pointer (some ⟨b1, 0, none⟩)), (6, .pointer (some ⟨xb, 0, none⟩)), (7, .pointer (some ⟨b4, 0, none⟩)), (14, .bool false), (28, .bool false), (48, .bool false), (64, .bool false)]) (l' := (boxE b4 #[.int .i64 (yk : Int), .bool yo] 76 :: boxE xb #[.int .i64 (xk : Int), .bool xo] 76 :: boxE fb #[.int .i64 n.ins, n.sv, n.av, n.ov, .int .i64 (nd : Int), cv, frv, iv, .map (some eb)] 69 :: rowE 3 1 iv sg.ins.length (sg.ins.map (Value.int .i64)) :: egE eb (sg.ne + 1) (mpU sg.G (yk, xk) ((sg.G (yk, xk)).getD 0 - 1)) :: frE bM m F :: l)) 9 [[], [0], [1], [2], [], [4], [], [6], [5, 7]] [15, 16, 17, 18, 19, 20, 21, 22, 23] [.pointer (some ⟨fb, 0, none⟩), .pointer (some ⟨fb, 0, none⟩), .pointer (some ⟨fb, 0 + 8, none⟩), .map (some eb), .pointer (some ⟨b4, 0 + 0, none⟩), .int .i64 (yk : Int), .pointer (some ⟨xb, 0 + 0, none⟩), .int .i64 (xk : Int), .agg #[.int .i64 (yk : Int), .int .i64 (xk : Int)]] (by kernel_rfl) (by kernel_rfl) rfl rfl rfl ⟨rfl, rfl, rfl, rfl, rfl⟩ ⟨rfl, rfl, rfl, rfl, rfl⟩ rfl rfl rfl rfl rfl rfl rfl (keyEd (yk, xk) (by show (_ : Nat) ≤ _; dsimp only; omega) (by show (_ : Nat) ≤ _; dsimp only; omega)) kEd klEd edV_inj Try.underlying67 zIn (by omega) rfl (bin_sub1 rfl (by rw [hge2]; omega)) rfl ?_ (zau [64, 48, 28, 14, 7, 6, 5, 2, 1, 0] rfl) ?_
 ·
  exact ⟨iaQ rfl (zae rfl) rfl, iaQ rfl (zbf rfl rfl) rfl, iaQ rfl (fdQ 8 rfl rfl rfl) rfl, iaQ rfl (zan rfl rfl rfl (zah 2 rfl rfl)) rfl, iaQ rfl (fdQ 0 rfl rfl rfl) rfl, iaQ rfl (zan rfl rfl rfl (zah 0 rfl rfl)) rfl, iaQ rfl (fdQ 0 rfl rfl rfl) rfl, iaQ rfl (zan rfl rfl rfl (zah 1 rfl rfl)) rfl, iaQ rfl (zcp (cs := #[.int .i64 (yk : Int), .int .i64 (xk : Int)]) rfl rfl rfl) rfl, trivial⟩
 refine zap (zaj (zai (hvQ rfl (zaf (cs := [.int .i64 (yk : Int), .bool yo]) rfl rfl rfl rfl rfl (zag 0 rfl 0 rfl)) ?_)))
 refine zbu (cs' := #[.int .i64 (yk : Int), .bool yo]) (i := 1) (off := 0) (us := [.int .i64 (yk : Int), .bool yo]) rfl rfl rfl rfl rfl rfl rfl (zar rfl (zar rfl zbs)) rfl rfl rfl (zay (zap (zaj (zaa (zai (hvQ rfl (zaf (cs := [.int .i64 (yk : Int), .bool yo]) rfl rfl rfl rfl rfl (zag 1 rfl 0 rfl)) (ntQ (zai ?_))))))))
 refine zei rfl (zbq (z := .agg #[.int .i64 0, .bool false]) rfl rfl) ?_
 intro b18
 refine zbu (cs' := #[.int .i64 (yk : Int), .bool yo]) (i := 0) (off := 0) (us := [.int .i64 (yk : Int), .bool yo]) rfl rfl rfl rfl rfl rfl rfl (zar rfl (zar rfl zbs)) rfl rfl rfl (zay ?_)
 refine zcg 7 [2, 1, 6, 5, 4, 3, 0] rfl rfl (by decide) ?_
 exact zbe yk yo ⟨sg.ins, mpU sg.G (yk, xk) ((sg.G (yk, xk)).getD 0 - 1), sg.ne + 1⟩ b18 (hpu.put hb0 hxm s2 (t4 (by show xk ≠ yk; omega) (by first | (show xo = _; assumption) | (exfalso; omega))) (by have h9 := hge2.upd yk xk (E2 yk xk - 1); rw [show (sg.G (yk, xk)).getD 0 = E2 yk xk from hge2 yk xk]; exact h9) (hbd.updT yk xk (by have := hbd.2 yk xk; show E2 yk xk - 1 ≤ _; omega)) (Nat.le_refl _)) s2 (saQ rfl) (.cons_cons _ (.cons_cons _ (.cons_cons _ (.cons_cons _ (.cons_cons _ (.cons _ (.cons _ (.refl _))))))))
theorem mk_setB {bs : List Bl} {j : Nat} {k : Int} (h : mk bs k) : mk (bs.set j ⟨true⟩) k := by
  unfold mk at *
  by_cases e : j = k.toNat
  · subst e
    by_cases c : k.toNat < bs.length
    · rw [zbn c]
    · rw [List.getD_eq_getElem?_getD, List.getElem?_eq_none (by omega)] at h; exact absurd h (by decide)
  · rw [List.getD_eq_getElem?_getD, List.getElem?_set_ne e, ← List.getD_eq_getElem?_getD]; exact h
theorem mk_setN {bs : List Bl} {j : Nat} {b : Bl} {k : Int} (e : j ≠ k.toNat) : mk (bs.set j b) k ↔ mk bs k := by
  unfold mk; rw [List.getD_eq_getElem?_getD, List.getElem?_set_ne e, ← List.getD_eq_getElem?_getD]
theorem mkStep_mono {n : Nt} {bs : List Bl} {i : Nat} {k : Int} (h : mk bs k) : mk (mkStep n bs i) k := by
  unfold mkStep; split
  · exact mk_setB (mk_setB h)
  · exact h
theorem nd_gate (n : Nt) {k : Int} {i : Nat} (e : k = n.fst + (i : Int)) : ndA n k = (n.gs.getD i an0).a ∧ ndB n k = (n.gs.getD i an0).b := by
  subst e; unfold ndA ndB; rw [show (n.fst + (i : Int) - n.fst).toNat = i by omega]; exact ⟨rfl, rfl⟩
theorem mkD_sound {n : Nt} (hn : NtOk n) {node : Int} {b0 : List Bl} (h0 : ∀ k : Int, 0 ≤ k → mk b0 k → Rch n node k) : ∀ d, d ≤ n.gs.length → ∀ k : Int, 0 ≤ k → mk (mkD n b0 d) k → Rch n node k
  | 0, _, k, hk, h => h0 k hk h
  | d + 1, hd, k, hk, h => by
    have ih := mkD_sound hn h0 d (by omega)
    have hf : 0 ≤ n.fst := by have := hn.i0; unfold Nt.fst; omega
    unfold mkD mkStep at h
    split at h
    · rename_i hb
      have hr : Rch n node (n.fst + ((n.gs.length - 1 - d : Nat) : Int)) := ih _ (by omega) hb
      obtain ⟨e1, e2⟩ := nd_gate n (k := n.fst + ((n.gs.length - 1 - d : Nat) : Int)) rfl
      have ha := hn.an (n.gs.length - 1 - d) (by omega)
      unfold LtOk at ha
      by_cases c2 : ((n.gs.getD (n.gs.length - 1 - d) an0).b / 2).toNat = k.toNat
      · have : k = ndB n (n.fst + ((n.gs.length - 1 - d : Nat) : Int)) / 2 := by rw [e2]; omega
        rw [this]; exact .b hr (by omega)
      · rw [mk_setN c2] at h
        by_cases c1 : ((n.gs.getD (n.gs.length - 1 - d) an0).a / 2).toNat = k.toNat
        · have : k = ndA n (n.fst + ((n.gs.length - 1 - d : Nat) : Int)) / 2 := by rw [e1]; omega
          rw [this]; exact .a hr (by omega)
        · rw [mk_setN c1] at h; exact ih k hk h
    · exact ih k hk h
theorem mkD_clo {n : Nt} (hn : NtOk n) {b0 : List Bl} (hl : b0.length = n.cnt.toNat) : ∀ d, d ≤ n.gs.length → ∀ k : Int, n.cnt - d ≤ k → n.fst ≤ k → k < n.cnt → mk (mkD n b0 d) k → mk (mkD n b0 d) (kdA n k) ∧ mk (mkD n b0 d) (kdB n k)
  | 0, _, k, h0, _, h1, _ => by omega
  | d + 1, hd, k, h0, hf, h1, h => by
    have hc : n.cnt = n.fst + n.gs.length := by unfold Nt.cnt Nt.fst; omega
    obtain ⟨o1, o2, o3, o4, o5⟩ := zfv hn hf h1
    have ha := hn.an (n.gs.length - 1 - d) (by omega)
    unfold LtOk at ha
    have hlen : (mkD n b0 d).length = n.cnt.toNat := by rw [mkD_len, hl]
    by_cases e : k = n.fst + ((n.gs.length - 1 - d : Nat) : Int)
    · obtain ⟨e1, e2⟩ := nd_gate n e
      have hb : ((mkD n b0 d).getD (n.fst + ((n.gs.length - 1 - d : Nat) : Int)).toNat bl0).b = true := by
        have h2 := h
        unfold mkD mkStep at h2
        split at h2
        · assumption
        · rw [← e]; exact h2
      have hA : (kdA n k).toNat = ((n.gs.getD (n.gs.length - 1 - d) an0).a / 2).toNat := by unfold kdA; rw [e1]
      have hB : (kdB n k).toNat = ((n.gs.getD (n.gs.length - 1 - d) an0).b / 2).toNat := by unfold kdB; rw [e2]
      unfold mkD mkStep
      rw [if_pos hb]
      constructor
      · refine mk_setB ?_
        unfold mk; rw [hA, zbn (by omega)]
      · unfold mk; rw [hB, zbn (by rw [List.length_set]; omega)]
    · have hk : mk (mkD n b0 d) k := by
        unfold mkD mkStep at h
        split at h
        · rw [mk_setN (by omega), mk_setN (by omega)] at h; exact h
        · exact h
      obtain ⟨h2, h3⟩ := mkD_clo hn hl d (by omega) k (by omega) hf h1 hk
      exact ⟨mkStep_mono h2, mkStep_mono h3⟩
theorem coneS_mem {n : Nt} (hn : NtOk n) {node : Int} (h0 : 0 ≤ node) (h1 : node < n.cnt) (k : Int) : k ∈ coneS n node ↔ Rch n node k := by
  have hc : n.cnt = n.fst + n.gs.length := by unfold Nt.cnt Nt.fst; omega
  have hl : ((List.replicate n.cnt.toNat bl0).set node.toNat ⟨true⟩).length = n.cnt.toNat := by rw [List.length_set, List.length_replicate]
  constructor
  · intro h
    obtain ⟨i, rfl, hi, hb⟩ := mkdL_mem h
    refine mkD_sound hn (b0 := (List.replicate n.cnt.toNat bl0).set node.toNat ⟨true⟩) (fun j hj hm => ?_) n.gs.length (Nat.le_refl _) i (by omega) (by unfold mk; rw [Int.toNat_natCast]; exact hb)
    by_cases e : node.toNat = j.toNat
    · rw [show j = node by omega]; exact .top
    · rw [mk_setN e] at hm
      unfold mk at hm
      rw [List.getD_eq_getElem?_getD, List.getElem?_replicate] at hm
      split at hm <;> exact absurd hm (by decide)
  · intro h
    have hm : mk (mkD n ((List.replicate n.cnt.toNat bl0).set node.toNat ⟨true⟩) n.gs.length) k := by
      induction h with
      | top =>
        have : ∀ d, mk (mkD n ((List.replicate n.cnt.toNat bl0).set node.toNat ⟨true⟩) d) node := fun d => by
          induction d with
          | zero => unfold mkD mk; rw [zbn (by rw [List.length_replicate]; omega)]
          | succ d ih => exact mkStep_mono ih
        exact this _
      | a hr hf ih => have := hr.rng hn h0 h1; exact (mkD_clo hn hl n.gs.length (Nat.le_refl _) _ (by omega) hf (by omega) ih).1
      | b hr hf ih => have := hr.rng hn h0 h1; exact (mkD_clo hn hl n.gs.length (Nat.le_refl _) _ (by omega) hf (by omega) ih).2
    have hr := h.rng hn h0 h1
    unfold coneS mkdL
    refine List.mem_map.2 ⟨k.toNat, List.mem_filter.2 ⟨List.mem_range.2 (by omega), hm⟩, by omega⟩
def fanL (n : Nt) (k : Int) : List Int := if n.fst ≤ k then (if 1 < ndA n k then [ndA n k / 2] else []) ++ (if 1 < ndB n k then [ndB n k / 2] else []) else []
def FanS (n : Nt) (k c : Int) : Prop := n.fst ≤ k ∧ 1 ≤ c ∧ (c = kdA n k ∨ c = kdB n k)
theorem zgh {n : Nt} {k c : Int} : c ∈ fanL n k ↔ FanS n k c := by
  unfold fanL FanS kdA kdB
  by_cases h : n.fst ≤ k
  · rw [if_pos h, List.mem_append]
    constructor
    · rintro (hm | hm)
      · split at hm
        · rw [List.mem_singleton] at hm; exact ⟨h, by omega, .inl hm⟩
        · cases hm
      · split at hm
        · rw [List.mem_singleton] at hm; exact ⟨h, by omega, .inr hm⟩
        · cases hm
    · rintro ⟨-, h1, h2 | h2⟩
      · left; rw [if_pos (by omega)]; exact List.mem_singleton.2 h2
      · right; rw [if_pos (by omega)]; exact List.mem_singleton.2 h2
  · rw [if_neg h]
    exact ⟨fun hm => (by cases hm), fun hm => absurd hm.1 h⟩
theorem fanL_len (n : Nt) (k : Int) : (fanL n k).length ≤ 2 := by
  unfold fanL; split
  · split <;> split <;> simp
  · simp
abbrev upB (us : List Bl) (k : Int) : Prop := (us.getD k.toNat bl0).b = true
def UpOk (n : Nt) (node h : Int) (ls : List Int) (us : List Bl) : Prop := ∀ k : Int, 0 ≤ k → k < n.cnt → (upB us k ↔ Rch n node k ∧ (k = node ∨ h ≤ lbI ls k))
def bdS (n : Nt) (us : List Bl) (c : Int) : Prop := ¬ upB us c ∧ ∃ k : Int, (0 ≤ k ∧ k < n.cnt) ∧ upB us k ∧ FanS n k c
def bodyS (n : Nt) (node h : Int) (ls : List Int) (k : Int) : Prop := Rch n node k ∧ lbI ls k < h ∧ k ≠ node
def gS (n : Nt) (node h : Int) (ls : List Int) (us : List Bl) : FGr where
  M := n.cnt.toNat + 1
  S := n.cnt.toNat
  fan k c := (k = n.cnt.toNat ∧ bdS n us c) ∨ (k < n.cnt.toNat ∧ bodyS n node h ls k ∧ FanS n k c)
  leaf k := 1 ≤ k ∧ (k : Int) < n.fst
  free k := k = n.cnt.toNat
structure MonL (n : Nt) (node h : Int) (ls : List Int) : Prop where
  nd : n.fst ≤ node ∧ node < n.cnt
  h1 : 1 ≤ h
  leaf : ∀ k : Int, 0 ≤ k → k < n.fst → lbI ls k = 0
  kids : ∀ k : Int, n.fst ≤ k → k < node → lbI ls (kdA n k) ≤ lbI ls k ∧ lbI ls (kdB n k) ≤ lbI ls k
theorem FanS.lt {n : Nt} (hn : NtOk n) {k c : Int} (h : FanS n k c) (hk : k < n.cnt) : 1 ≤ c ∧ c < k := by
  obtain ⟨o1, o2, o3, o4, o5⟩ := zfv hn h.1 hk
  have := h.2.1
  rcases h.2.2 with e | e <;> omega
theorem gS_ok {n : Nt} (hn : NtOk n) (node h : Int) (ls : List Int) (us : List Bl) : FGrOk (gS n node h ls us) := by
  have hc : n.cnt = n.fst + n.gs.length := by unfold Nt.cnt Nt.fst; omega
  have hf : 1 ≤ n.fst := by have := hn.i0; unfold Nt.fst; omega
  refine ⟨by show n.cnt.toNat < n.cnt.toNat + 1; omega, fun k c hfan => ?_, ?_, rfl⟩
  · show k < n.cnt.toNat + 1 ∧ c < n.cnt.toNat + 1 ∧ c ≠ n.cnt.toNat ∧ c ≠ k ∧ ¬ (1 ≤ k ∧ (k : Int) < n.fst)
    rcases hfan with ⟨rfl, -, j, hj, -, hjf⟩ | ⟨hk, -, hkf⟩
    · have := hjf.lt hn hj.2; omega
    · have := hkf.lt hn (by omega); have := hkf.1; omega
  · show ¬ (1 ≤ n.cnt.toNat ∧ (n.cnt.toNat : Int) < n.fst); omega
theorem body_fan {n : Nt} (hn : NtOk n) {node h : Int} {ls : List Int} (hm : MonL n node h ls) {k c : Int} (hk : bodyS n node h ls k) (hf : FanS n k c) : bodyS n node h ls c ∧ 1 ≤ c ∧ c < n.cnt := by
  have h0 := hm.nd
  have hfst : 1 ≤ n.fst := by have := hn.i0; unfold Nt.fst; omega
  have hr := hk.1.rng hn (by omega) h0.2
  have hkn : k < node := by have := hk.2.2; omega
  have hlt := hf.lt hn (by omega)
  have hkd := hm.kids k hf.1 hkn
  have hl := hk.2.1
  refine ⟨⟨?_, ?_, by omega⟩, by omega, by omega⟩
  · rcases hf.2.2 with e | e
    · rw [e]; exact .a hk.1 hf.1
    · rw [e]; exact .b hk.1 hf.1
  · rcases hf.2.2 with e | e <;> (rw [e]; omega)
theorem bd_body {n : Nt} (hn : NtOk n) {node h : Int} {ls : List Int} {us : List Bl} (hu : UpOk n node h ls us) (hnd : 0 ≤ node ∧ node < n.cnt) {c : Int} (hb : bdS n us c) : bodyS n node h ls c ∧ 1 ≤ c ∧ c < n.cnt := by
  obtain ⟨hnu, k, hk, hku, hf⟩ := hb
  have hlt := hf.lt hn hk.2
  have hr : Rch n node c := by
    have := ((hu k hk.1 hk.2).1 hku).1
    rcases hf.2.2 with e | e
    · rw [e]; exact .a this hf.1
    · rw [e]; exact .b this hf.1
  have hn2 : ¬ (c = node ∨ h ≤ lbI ls c) := fun e => hnu ((hu c (by omega) (by omega)).2 ⟨hr, e⟩)
  refine ⟨⟨hr, ?_, ?_⟩, by omega, by omega⟩
  · by_cases c1 : lbI ls c < h
    · exact c1
    · exact absurd (.inr (by omega)) hn2
  · intro e; exact hn2 (.inl e)
noncomputable def EsF (N : Nat) (ds : List Bl) (ab : List Int) (x : Int) (c k : Nat) : Int := open Classical in
  if c < N ∧ (ds.getD c bl0).b = true ∧ 2 * (c : Int) ≠ x ∧ ((k < N ∧ ab.getD c 0 = k) ∨ (k = N ∧ ab.getD c 0 = -1)) then 1 else 0
noncomputable def IsF (N : Nat) (ds : List Bl) (v : Int) (k : Nat) : Int := open Classical in if k = N then v else if k < N ∧ (ds.getD k bl0).b = true then 1 else 0
theorem EsF_yes {N : Nat} {ds : List Bl} {ab : List Int} {x : Int} {c k : Nat} (h : c < N ∧ (ds.getD c bl0).b = true ∧ 2 * (c : Int) ≠ x ∧ ((k < N ∧ ab.getD c 0 = k) ∨ (k = N ∧ ab.getD c 0 = -1))) : EsF N ds ab x c k = 1 := if_pos h
theorem EsF_no {N : Nat} {ds : List Bl} {ab : List Int} {x : Int} {c k : Nat} (h : ¬ (c < N ∧ (ds.getD c bl0).b = true ∧ 2 * (c : Int) ≠ x ∧ ((k < N ∧ ab.getD c 0 = k) ∨ (k = N ∧ ab.getD c 0 = -1)))) : EsF N ds ab x c k = 0 := if_neg h
theorem EsF_pos {N : Nat} {ds : List Bl} {ab : List Int} {x : Int} {c k : Nat} (h : 1 ≤ EsF N ds ab x c k) : c < N ∧ (ds.getD c bl0).b = true ∧ 2 * (c : Int) ≠ x ∧ ((k < N ∧ ab.getD c 0 = k) ∨ (k = N ∧ ab.getD c 0 = -1)) := by
  by_cases e : c < N ∧ (ds.getD c bl0).b = true ∧ 2 * (c : Int) ≠ x ∧ ((k < N ∧ ab.getD c 0 = k) ∨ (k = N ∧ ab.getD c 0 = -1))
  · exact e
  · rw [EsF_no e] at h; omega
theorem EsF_eq {N : Nat} {ds ds' : List Bl} {ab ab' : List Int} {x x' : Int} {c k : Nat} (h : (c < N ∧ (ds.getD c bl0).b = true ∧ 2 * (c : Int) ≠ x ∧ ((k < N ∧ ab.getD c 0 = k) ∨ (k = N ∧ ab.getD c 0 = -1))) ↔ (c < N ∧ (ds'.getD c bl0).b = true ∧ 2 * (c : Int) ≠ x' ∧ ((k < N ∧ ab'.getD c 0 = k) ∨ (k = N ∧ ab'.getD c 0 = -1)))) : EsF N ds ab x c k = EsF N ds' ab' x' c k := by
  by_cases e : c < N ∧ (ds.getD c bl0).b = true ∧ 2 * (c : Int) ≠ x ∧ ((k < N ∧ ab.getD c 0 = k) ∨ (k = N ∧ ab.getD c 0 = -1))
  · rw [EsF_yes e, EsF_yes (h.1 e)]
  · rw [EsF_no e, EsF_no (fun e' => e (h.2 e'))]
theorem IsF_S (N : Nat) (ds : List Bl) (v : Int) : IsF N ds v N = v := if_pos rfl
theorem IsF_yes {N : Nat} {ds : List Bl} {v : Int} {k : Nat} (hk : k < N) (h : (ds.getD k bl0).b = true) : IsF N ds v k = 1 := by unfold IsF; rw [if_neg (by omega), if_pos ⟨hk, h⟩]
theorem IsF_no {N : Nat} {ds : List Bl} {v : Int} {k : Nat} (hk : k ≠ N) (h : ¬ (ds.getD k bl0).b = true) : IsF N ds v k = 0 := by unfold IsF; rw [if_neg hk, if_neg (fun e => h e.2)]
theorem IsF_iff {N : Nat} {ds : List Bl} {v : Int} {k : Nat} (hk : k < N) : (IsF N ds v k = 0 ↔ ¬ (ds.getD k bl0).b = true) ∧ (1 ≤ IsF N ds v k ↔ (ds.getD k bl0).b = true) := by
  by_cases e : (ds.getD k bl0).b = true
  · rw [IsF_yes hk e]; exact ⟨⟨fun h => absurd h (by decide), fun h => absurd e h⟩, ⟨fun _ => e, fun _ => by decide⟩⟩
  · rw [IsF_no (by omega) e]; exact ⟨⟨fun _ => e, fun _ => rfl⟩, ⟨fun h => absurd h (by decide), fun h => absurd h e⟩⟩
def vxS (N : Nat) (x : Int) : Vx := if x < 0 then (N, false) else ((x / 2).toNat, decide (x % 2 = 0))
theorem vxS_neg {N : Nat} {x : Int} (h : x < 0) : vxS N x = (N, false) := if_pos h
theorem vxS_up {N : Nat} {k : Nat} : vxS N (2 * (k : Int)) = (k, true) := by
  unfold vxS; rw [if_neg (by omega), show (2 * (k : Int) / 2).toNat = k by omega, decide_eq_true (by omega)]
theorem vxS_lo {N : Nat} {k : Nat} : vxS N (2 * (k : Int) + 1) = (k, false) := by
  unfold vxS; rw [if_neg (by omega), show ((2 * (k : Int) + 1) / 2).toNat = k by omega, decide_eq_false (by omega)]
theorem vxS_of {N : Nat} {x : Int} (h : 0 ≤ x) : (x % 2 = 0 ∧ x = 2 * ((x / 2).toNat : Int) ∧ vxS N x = ((x / 2).toNat, true)) ∨ (x % 2 = 1 ∧ x = 2 * ((x / 2).toNat : Int) + 1 ∧ vxS N x = ((x / 2).toNat, false)) := by
  by_cases e : x % 2 = 0
  · left; exact ⟨e, by omega, by unfold vxS; rw [if_neg (by omega), decide_eq_true e]⟩
  · right; exact ⟨by omega, by omega, by unfold vxS; rw [if_neg (by omega), decide_eq_false e]⟩
theorem vxS_inj {N : Nat} {x y : Int} (hx : 0 ≤ x) (hy : 0 ≤ y) (h : vxS N x = vxS N y) : x = y := by
  rcases vxS_of (N := N) hx with ⟨a, b, c⟩ | ⟨a, b, c⟩ <;> rcases vxS_of (N := N) hy with ⟨a', b', c'⟩ | ⟨a', b', c'⟩ <;> rw [c, c'] at h <;> simp only [Prod.mk.injEq, Bool.true_eq_false, Bool.false_eq_true, and_false, and_true] at h <;> omega
def nxL (n : Nt) (ds : List Bl) (ab : List Int) (y : Int) : List Int :=
  if y % 2 = 0 then (if (ds.getD (y / 2).toNat bl0).b = true then (if 0 ≤ ab.getD (y / 2).toNat 0 then [2 * ab.getD (y / 2).toNat 0 + 1] else []) else [2 * (y / 2) + 1])
  else (fanL n (y / 2)).map (fun c => 2 * c) ++ (if (ds.getD (y / 2).toNat bl0).b = true then [2 * (y / 2)] else [])
structure SrCtx (n : Nt) (node h : Int) (ls : List Int) (us ds : List Bl) (ab : List Int) (v : Int) : Prop where
  ok : NtOk n
  mon : MonL n node h ls
  up : UpOk n node h ls us
  ul : us.length = n.cnt.toNat
  dl : ds.length = n.cnt.toNat
  ab_ : AbOk n.cnt ab
  fl : Fl (gS n node h ls us) (EsF n.cnt.toNat ds ab (-1)) (IsF n.cnt.toNat ds v)
section
variable {n : Nt} {node h : Int} {ls : List Int} {us ds : List Bl} {ab : List Int} {v : Int}
theorem SrCtx.nx_sound (cx : SrCtx n node h ls us ds ab v) {y : Int} (h0 : 0 ≤ y) (h1 : y < 2 * n.cnt) (hb : bodyS n node h ls (y / 2)) {z : Int} (hz : z ∈ nxL n ds ab y) :
    (0 ≤ z ∧ z < 2 * n.cnt) ∧ bodyS n node h ls (z / 2) ∧ 1 ≤ z / 2 ∧ Av (gS n node h ls us) (EsF n.cnt.toNat ds ab (-1)) (IsF n.cnt.toNat ds v) (vxS n.cnt.toNat y) (vxS n.cnt.toNat z) ∨ y / 2 < 1 := by
  have hfst : 1 ≤ n.fst := by have := cx.ok.i0; unfold Nt.fst; omega
  by_cases hy1 : y / 2 < 1
  · exact .inr hy1
  left
  rcases vxS_of (N := n.cnt.toNat) h0 with ⟨a, b, c⟩ | ⟨a, b, c⟩
  · unfold nxL at hz
    rw [if_pos a] at hz
    split at hz
    · rename_i hu
      split at hz
      · rename_i hp
        rw [List.mem_singleton] at hz
        subst hz
        have hab := cx.ab_.2 (y / 2).toNat (by have := cx.ab_.1; omega)
        have hE : 1 ≤ EsF n.cnt.toNat ds ab (-1) (y / 2).toNat (ab.getD (y / 2).toNat 0).toNat := by
          rw [EsF_yes ⟨by omega, hu, by omega, .inl ⟨by omega, by omega⟩⟩]; omega
        have hf := cx.fl.ef _ _ (show 0 < EsF n.cnt.toNat ds ab (-1) (y / 2).toNat (ab.getD (y / 2).toNat 0).toNat by omega)
        have hf2 : bodyS n node h ls ((ab.getD (y / 2).toNat 0).toNat : Int) ∧ FanS n ((ab.getD (y / 2).toNat 0).toNat : Int) ((y / 2).toNat : Int) := by
          rcases hf with ⟨e, -⟩ | ⟨-, e1, e2⟩
          · omega
          · exact ⟨e1, e2⟩
        have e3 : (2 * ab.getD (y / 2).toNat 0 + 1) / 2 = ((ab.getD (y / 2).toNat 0).toNat : Int) := by omega
        have := hf2.2.1
        refine ⟨⟨by omega, by omega⟩, by rw [e3]; exact hf2.1, by omega, ?_⟩
        rw [c, show 2 * ab.getD (y / 2).toNat 0 + 1 = 2 * ((ab.getD (y / 2).toNat 0).toNat : Int) + 1 by omega, vxS_lo]
        exact .inr (.inr (.inr ⟨rfl, rfl, hE⟩))
      · cases hz
    · rename_i hu
      rw [List.mem_singleton] at hz
      subst hz
      refine ⟨⟨by omega, by omega⟩, by rw [show (2 * (y / 2) + 1) / 2 = y / 2 by omega]; exact hb, by omega, ?_⟩
      rw [c, show 2 * (y / 2) + 1 = 2 * ((y / 2).toNat : Int) + 1 by omega, vxS_lo]
      exact .inl ⟨rfl, rfl, by show (y / 2).toNat < n.cnt.toNat + 1; omega, .inr ((IsF_iff (by omega)).1.2 hu)⟩
  · unfold nxL at hz
    rw [if_neg (by omega)] at hz
    rcases List.mem_append.1 hz with hz | hz
    · obtain ⟨q, hq, rfl⟩ := List.mem_map.1 hz
      have hf := zgh.1 hq
      obtain ⟨b1, b2, b3⟩ := body_fan cx.ok cx.mon hb hf
      refine ⟨⟨by omega, by omega⟩, by rw [show 2 * q / 2 = q by omega]; exact b1, by omega, ?_⟩
      rw [c, show 2 * q = 2 * (q.toNat : Int) by omega, vxS_up]
      refine .inr (.inr (.inl ⟨rfl, rfl, .inr ⟨by show (y / 2).toNat < n.cnt.toNat; omega, ?_, ?_⟩⟩))
      · show bodyS n node h ls ((y / 2).toNat : Int); rw [Int.toNat_of_nonneg (by omega)]; exact hb
      · show FanS n ((y / 2).toNat : Int) (q.toNat : Int); rw [Int.toNat_of_nonneg (by omega), Int.toNat_of_nonneg (by omega)]; exact hf
    · split at hz
      · rename_i hu
        rw [List.mem_singleton] at hz
        subst hz
        refine ⟨⟨by omega, by omega⟩, by rw [show 2 * (y / 2) / 2 = y / 2 by omega]; exact hb, by omega, ?_⟩
        rw [c, show 2 * (y / 2) = 2 * ((y / 2).toNat : Int) by omega, vxS_up]
        exact .inr (.inl ⟨rfl, rfl, by show (y / 2).toNat ≠ n.cnt.toNat; omega, (IsF_iff (by omega)).2.2 hu⟩)
      · cases hz
theorem SrCtx.nx_all (cx : SrCtx n node h ls us ds ab v) {y : Int} (h0 : 0 ≤ y) (h1 : y < 2 * n.cnt) {z : Vx} (ha : Av (gS n node h ls us) (EsF n.cnt.toNat ds ab (-1)) (IsF n.cnt.toNat ds v) (vxS n.cnt.toNat y) z) :
    z = (n.cnt.toNat, false) ∨ ∃ x ∈ nxL n ds ab y, 0 ≤ x ∧ z = vxS n.cnt.toNat x := by
  have hfst : 1 ≤ n.fst := by have := cx.ok.i0; unfold Nt.fst; omega
  obtain ⟨z1, z2⟩ := z
  rcases vxS_of (N := n.cnt.toNat) h0 with ⟨a, b, c⟩ | ⟨a, b, c⟩
  · rw [c] at ha
    unfold nxL
    rw [if_pos a]
    rcases ha with ⟨-, e, e1, e2⟩ | ⟨e, -⟩ | ⟨e, -⟩ | ⟨-, e, e1⟩
    · simp only [Prod.mk.injEq] at e e2
      obtain ⟨rfl, rfl⟩ := e
      rcases e2 with e2 | e2
      · exact absurd e2 (by show ¬ (y / 2).toNat = n.cnt.toNat; omega)
      · rw [if_neg ((IsF_iff (by omega)).1.1 e2)]
        refine .inr ⟨_, List.mem_singleton.2 rfl, by omega, ?_⟩
        rw [show 2 * (y / 2) + 1 = 2 * ((y / 2).toNat : Int) + 1 by omega, vxS_lo]
    · cases e
    · cases e
    · simp only at e e1
      subst e
      obtain ⟨q1, q2, q3, q4⟩ := EsF_pos e1
      rw [if_pos q2]
      rcases q4 with ⟨q4, q5⟩ | ⟨q4, q5⟩
      · rw [if_pos (by omega)]
        refine .inr ⟨_, List.mem_singleton.2 rfl, by omega, ?_⟩
        rw [q5, vxS_lo]
      · subst q4; exact .inl rfl
  · rw [c] at ha
    unfold nxL
    rw [if_neg (by omega)]
    rcases ha with ⟨e, -⟩ | ⟨-, e, e1, e2⟩ | ⟨-, e, e1⟩ | ⟨e, -⟩
    · cases e
    · simp only [Prod.mk.injEq] at e e2
      obtain ⟨rfl, rfl⟩ := e
      refine .inr ⟨2 * (y / 2), List.mem_append.2 (.inr ?_), by omega, ?_⟩
      · rw [if_pos ((IsF_iff (by omega)).2.1 e2)]; exact List.mem_singleton.2 rfl
      · rw [show 2 * (y / 2) = 2 * ((y / 2).toNat : Int) by omega, vxS_up]
    · simp only at e e1
      subst e
      rcases e1 with ⟨e1, -⟩ | ⟨e1, e2, e3⟩
      · omega
      · rw [Int.toNat_of_nonneg (by omega)] at e3
        refine .inr ⟨2 * (z1 : Int), List.mem_append.2 (.inl (List.mem_map.2 ⟨(z1 : Int), zgh.2 e3, rfl⟩)), by omega, ?_⟩
        rw [vxS_up]
    · cases e
end
section
variable {n : Nt} {node h : Int} {ls : List Int} {us ds : List Bl} {ab : List Int} {v : Int}
theorem Srch.put' {c : Nat} {bs qs : List Int} (h : Srch c bs qs) {x y : Int} (hx : 0 ≤ x ∧ x < c) (hb : bs.getD x.toNat 0 = -2) (hy : y = -1 ∨ y ∈ qs) : Srch c (bs.set x.toNat y) (qs ++ [x]) := h.put hx hb hy
theorem Srch.vis {c : Nat} {bs qs : List Int} (h : Srch c bs qs) {x : Int} (hx : 0 ≤ x ∧ x < c) : x ∈ qs ↔ bs.getD x.toNat 0 ≠ -2 := by
  refine ⟨h.set x, fun hb => ?_⟩
  rcases h.prec x.toNat (by omega) with e | ⟨e, -⟩
  · exact absurd e hb
  · rwa [Int.toNat_of_nonneg hx.1] at e
structure SrB (n : Nt) (us : List Bl) (bs qs : List Int) (k : Int) : Prop where
  s : Srch (2 * n.cnt.toNat) bs qs
  src : ∀ x ∈ qs, bdS n us (x / 2) ∧ x % 2 = 0 ∧ bs.getD x.toNat 0 = -1
  all : ∀ j : Int, 0 ≤ j → j < k → upB us j → ∀ c : Int, FanS n j c → ¬ upB us c → 2 * c ∈ qs
theorem SrB.start (n : Nt) (us : List Bl) : SrB n us (List.replicate (2 * n.cnt.toNat) (-2)) [] 0 := ⟨Srch.start _, fun x hx => (by cases hx), fun j h0 h1 => absurd h1 (by omega)⟩
structure SrBi (n : Nt) (us : List Bl) (bs qs : List Int) (k : Int) (i : Nat) : Prop where
  b : SrB n us bs qs k
  part : upB us k → ∀ j, j < i → ¬ upB us ((fanL n k).getD j 0) → 2 * (fanL n k).getD j 0 ∈ qs
theorem SrBi.start {bs qs : List Int} {k : Int} (hb : SrB n us bs qs k) : SrBi n us bs qs k 0 := ⟨hb, fun _ j hj => absurd hj (by omega)⟩
theorem SrBi.done {bs qs : List Int} {k : Int} {i : Nat} (hb : SrBi n us bs qs k i) (he : (fanL n k).length ≤ i ∨ ¬ upB us k) : SrB n us bs qs (k + 1) := ⟨hb.b.s, hb.b.src, fun j h0 h1 hu c hf hc => by
  by_cases e : j = k
  · subst e
    rcases he with he | he
    · obtain ⟨q, hq, rfl⟩ := List.mem_iff_getElem.1 (zgh.2 hf)
      have e1 : (fanL n j).getD q 0 = (fanL n j)[q] := by rw [List.getD_eq_getElem?_getD, List.getElem?_eq_getElem hq]; rfl
      have := hb.part hu q (by omega)
      rw [e1] at this; exact this hc
    · exact absurd hu he
  · exact hb.b.all j h0 (by omega) hu c hf hc⟩
theorem SrBi.skip {bs qs : List Int} {k : Int} {i : Nat} (hn : NtOk n) (hk : k < n.cnt) (hb : SrBi n us bs qs k i) (hi : i < (fanL n k).length) (he : upB us ((fanL n k).getD i 0) ∨ bs.getD (2 * (fanL n k).getD i 0).toNat 0 ≠ -2) : SrBi n us bs qs k (i + 1) := ⟨hb.b, fun hu j hj hc => by
  by_cases e : j = i
  · subst e
    have hf := (zgh.1 (zbj (d := (0 : Int)) hi)).lt hn hk
    rcases he with he | he
    · exact absurd he hc
    · exact (hb.b.s.vis ⟨by omega, by omega⟩).2 he
  · exact hb.part hu j (by omega) hc⟩
theorem set_keep {bs : List Int} {x z : Nat} {y : Int} (hx : bs.getD x 0 = -2) (hz : bs.getD z 0 ≠ -2) : (bs.set x y).getD z 0 = bs.getD z 0 := by
  have : x ≠ z := fun e => hz (e ▸ hx)
  rw [List.getD_eq_getElem?_getD, List.getElem?_set_ne this, ← List.getD_eq_getElem?_getD]
theorem SrBi.put {bs qs : List Int} {k : Int} {i : Nat} (hn : NtOk n) (hk : 0 ≤ k ∧ k < n.cnt) (hb : SrBi n us bs qs k i) (hi : i < (fanL n k).length) (hu : upB us k) (he : ¬ upB us ((fanL n k).getD i 0)) (hv : bs.getD (2 * (fanL n k).getD i 0).toNat 0 = -2) :
    SrBi n us (bs.set (2 * (fanL n k).getD i 0).toNat (-1)) (qs ++ [2 * (fanL n k).getD i 0]) k (i + 1) := by
  have hfm := zgh.1 (zbj (d := (0 : Int)) hi)
  have hf := hfm.lt hn hk.2
  have hl := hb.b.s.len
  have hs := hb.b.s.put' (x := 2 * (fanL n k).getD i 0) (y := -1) ⟨by omega, by omega⟩ hv (.inl rfl)
  refine ⟨⟨hs, fun x hx => ?_, fun j h0 h1 hj c hc hcu => List.mem_append_left _ (hb.b.all j h0 h1 hj c hc hcu)⟩, fun hu' j hj hc => ?_⟩
  · rcases List.mem_append.1 hx with hx | hx
    · obtain ⟨a, b, c⟩ := hb.b.src x hx
      exact ⟨a, b, by rw [set_keep hv (hb.b.s.set x hx)]; exact c⟩
    · rw [List.mem_singleton] at hx
      subst hx
      refine ⟨?_, by omega, by rw [zbn (by omega)]⟩
      rw [show 2 * (fanL n k).getD i 0 / 2 = (fanL n k).getD i 0 by omega]
      exact ⟨he, k, hk, hu, hfm⟩
  · by_cases e : j = i
    · subst e; exact List.mem_append_right _ (List.mem_singleton.2 rfl)
    · exact List.mem_append_left _ (hb.part hu' j (by omega) hc)
structure SrS (n : Nt) (node h : Int) (ls : List Int) (us ds : List Bl) (ab : List Int) (v : Int) (bs qs : List Int) (q : Nat) : Prop where
  s : Srch (2 * n.cnt.toNat) bs qs
  body : ∀ x ∈ qs, bodyS n node h ls (x / 2) ∧ 1 ≤ x / 2
  par : ∀ x ∈ qs, Av (gS n node h ls us) (EsF n.cnt.toNat ds ab (-1)) (IsF n.cnt.toNat ds v) (vxS n.cnt.toNat (bs.getD x.toNat 0)) (vxS n.cnt.toNat x)
  all : ∀ c : Int, bdS n us c → 2 * c ∈ qs
  clo : ∀ i, i < q → ∀ x ∈ nxL n ds ab (qs.getD i 0), x ∈ qs
  leaf : ∀ i, i < q → ¬ ((qs.getD i 0) % 2 = 1 ∧ (qs.getD i 0) / 2 < n.fst)
theorem SrS.start (cx : SrCtx n node h ls us ds ab v) {bs qs : List Int} {k : Int} (hb : SrB n us bs qs k) (hk : n.cnt ≤ k) : SrS n node h ls us ds ab v bs qs 0 := by
  have hnd := cx.mon.nd
  have hfst : 1 ≤ n.fst := by have := cx.ok.i0; unfold Nt.fst; omega
  refine ⟨hb.s, fun x hx => ?_, fun x hx => ?_, fun c hc => ?_, fun i hi => absurd hi (by omega), fun i hi => absurd hi (by omega)⟩
  · have := bd_body cx.ok cx.up ⟨by omega, hnd.2⟩ (hb.src x hx).1
    exact ⟨this.1, this.2.1⟩
  · obtain ⟨a, b, c⟩ := hb.src x hx
    have hx0 := hb.s.rng x hx
    rw [c, vxS_neg (by omega), show x = 2 * ((x / 2).toNat : Int) by omega, vxS_up]
    refine .inr (.inr (.inl ⟨rfl, rfl, .inl ⟨rfl, ?_⟩⟩))
    show bdS n us (((x / 2).toNat : Nat) : Int)
    rw [Int.toNat_of_nonneg (by omega)]; exact a
  · obtain ⟨hcu, j, hj, hju, hf⟩ := hc
    exact hb.all j hj.1 (by omega) hju c hf hcu
theorem SrS.clo' {bs qs : List Int} {q : Nat} (cx : SrCtx n node h ls us ds ab v) (hb : SrS n node h ls us ds ab v bs qs q) {z : Int} {i : Nat} (hi : i < qs.length) (hz : z ∈ nxL n ds ab (qs.getD i 0)) :
    (0 ≤ z ∧ z < 2 * n.cnt) ∧ bodyS n node h ls (z / 2) ∧ 1 ≤ z / 2 ∧ Av (gS n node h ls us) (EsF n.cnt.toNat ds ab (-1)) (IsF n.cnt.toNat ds v) (vxS n.cnt.toNat (qs.getD i 0)) (vxS n.cnt.toNat z) := by
  have hm := zbj (d := (0 : Int)) hi
  have hr := hb.s.rng _ hm
  have hb2 := hb.body _ hm
  exact (cx.nx_sound hr.1 (by omega) hb2.1 hz).resolve_right (by omega)
structure SrSi (n : Nt) (node h : Int) (ls : List Int) (us ds : List Bl) (ab : List Int) (v : Int) (bs qs : List Int) (q : Nat) (y : Int) (i : Nat) : Prop where
  b : SrS n node h ls us ds ab v bs qs q
  lt : q < qs.length
  at_ : qs.getD q 0 = y
  part : ∀ j, j < i → (nxL n ds ab y).getD j 0 ∈ qs
theorem SrSi.start {bs qs : List Int} {q : Nat} (hb : SrS n node h ls us ds ab v bs qs q) (hq : q < qs.length) : SrSi n node h ls us ds ab v bs qs q (qs.getD q 0) 0 := ⟨hb, hq, rfl, fun j hj => absurd hj (by omega)⟩
theorem SrSi.done {bs qs : List Int} {q : Nat} {y : Int} {i : Nat} (hb : SrSi n node h ls us ds ab v bs qs q y i) (he : (nxL n ds ab y).length ≤ i) (hl : ¬ (y % 2 = 1 ∧ y / 2 < n.fst)) : SrS n node h ls us ds ab v bs qs (q + 1) :=
  ⟨hb.b.s, hb.b.body, hb.b.par, hb.b.all, fun j hj x hx => by
    by_cases e : j = q
    · subst e
      rw [hb.at_] at hx
      obtain ⟨p, hp, rfl⟩ := List.mem_iff_getElem.1 hx
      have := hb.part p (by omega)
      rwa [List.getD_eq_getElem?_getD, List.getElem?_eq_getElem hp] at this
    · exact hb.b.clo j (by omega) x hx, fun j hj => by
    by_cases e : j = q
    · subst e; rw [hb.at_]; exact hl
    · exact hb.b.leaf j (by omega)⟩
theorem SrSi.rng (cx : SrCtx n node h ls us ds ab v) {bs qs : List Int} {q : Nat} {y : Int} {i : Nat} (hb : SrSi n node h ls us ds ab v bs qs q y i) (hi : i < (nxL n ds ab y).length) : 0 ≤ (nxL n ds ab y).getD i 0 ∧ (nxL n ds ab y).getD i 0 < 2 * n.cnt := by
  have hz := zbj (d := (0 : Int)) hi
  have := (hb.b.clo' cx hb.lt (z := (nxL n ds ab y).getD i 0) (by rw [hb.at_]; exact hz)).1
  exact this
theorem SrSi.skip (cx : SrCtx n node h ls us ds ab v) {bs qs : List Int} {q : Nat} {y : Int} {i : Nat} (hb : SrSi n node h ls us ds ab v bs qs q y i) (hi : i < (nxL n ds ab y).length) (he : bs.getD ((nxL n ds ab y).getD i 0).toNat 0 ≠ -2) : SrSi n node h ls us ds ab v bs qs q y (i + 1) := ⟨hb.b, hb.lt, hb.at_, fun j hj => by
  by_cases e : j = i
  · subst e
    have := hb.rng cx hi
    exact (hb.b.s.vis ⟨by omega, by omega⟩).2 he
  · exact hb.part j (by omega)⟩
theorem SrSi.put (cx : SrCtx n node h ls us ds ab v) {bs qs : List Int} {q : Nat} {y : Int} {i : Nat} (hb : SrSi n node h ls us ds ab v bs qs q y i) (hi : i < (nxL n ds ab y).length) (he : bs.getD ((nxL n ds ab y).getD i 0).toNat 0 = -2) :
    SrSi n node h ls us ds ab v (bs.set ((nxL n ds ab y).getD i 0).toNat y) (qs ++ [(nxL n ds ab y).getD i 0]) q y (i + 1) := by
  have hz := zbj (d := (0 : Int)) hi
  have hy := hb.at_
  obtain ⟨h1, h2, h3, h4⟩ := hb.b.clo' cx hb.lt (z := (nxL n ds ab y).getD i 0) (by rw [hy]; exact hz)
  have hym : y ∈ qs := by rw [← hy]; exact zbj hb.lt
  have hl := hb.b.s.len
  have hleft : ∀ j, j < q + 1 → (qs ++ [(nxL n ds ab y).getD i 0]).getD j 0 = qs.getD j 0 := fun j hj => zfx (by have := hb.lt; omega)
  refine ⟨⟨hb.b.s.put' ⟨h1.1, by omega⟩ he (.inr hym), fun x hx => ?_, fun x hx => ?_, fun c hc => List.mem_append_left _ (hb.b.all c hc), fun j hj x hx => ?_, fun j hj => ?_⟩, by rw [List.length_append]; have := hb.lt; omega, by rw [hleft q (by omega)]; exact hy, fun j hj => ?_⟩
  · rcases List.mem_append.1 hx with hx | hx
    · exact hb.b.body x hx
    · rw [List.mem_singleton] at hx; subst hx; exact ⟨h2, h3⟩
  · rcases List.mem_append.1 hx with hx | hx
    · rw [set_keep he (hb.b.s.set x hx)]; exact hb.b.par x hx
    · rw [List.mem_singleton] at hx
      subst hx
      rw [zbn (by omega)]
      rw [hy] at h4; exact h4
  · rw [hleft j (by omega)] at hx; exact List.mem_append_left _ (hb.b.clo j hj x hx)
  · rw [hleft j (by omega)]; exact hb.b.leaf j hj
  · by_cases e : j = i
    · subst e; exact List.mem_append_right _ (List.mem_singleton.2 rfl)
    · exact List.mem_append_left _ (hb.part j (by omega))
theorem SrS.rchd (cx : SrCtx n node h ls us ds ab v) {bs qs : List Int} {q : Nat} (hb : SrS n node h ls us ds ab v bs qs q) (hq : qs.length ≤ q) :
    ∃ R : Vx → Prop, Rchd (gS n node h ls us) (EsF n.cnt.toNat ds ab (-1)) (IsF n.cnt.toNat ds v) R ∧ ∀ z : Vx, R z → z = (n.cnt.toNat, false) ∨ (z.1 < n.cnt.toNat ∧ 1 ≤ z.1 ∧ bodyS n node h ls z.1) := by
  have hfst : 1 ≤ n.fst := by have := cx.ok.i0; unfold Nt.fst; omega
  have hvx : ∀ x ∈ qs, (vxS n.cnt.toNat x).1 = (x / 2).toNat ∧ (x / 2).toNat < n.cnt.toNat := fun x hx => by
    have hr := hb.s.rng x hx
    rcases vxS_of (N := n.cnt.toNat) hr.1 with ⟨a, b, c⟩ | ⟨a, b, c⟩ <;> (rw [c]; exact ⟨rfl, by omega⟩)
  refine ⟨fun z => z = (n.cnt.toNat, false) ∨ ∃ x ∈ qs, z = vxS n.cnt.toNat x, ⟨.inl rfl, fun y z hy ha hz => ?_, fun k hk => ?_, fun k hk => ?_⟩, fun z hz => ?_⟩
  · rcases hy with rfl | ⟨x, hx, rfl⟩
    · rcases ha with ⟨e, -⟩ | ⟨-, -, e, -⟩ | ⟨-, e, e1⟩ | ⟨e, -⟩
      · cases e
      · exact absurd rfl e
      · obtain ⟨z1, z2⟩ := z
        simp only at e e1
        subst e
        rcases e1 with ⟨-, e1⟩ | ⟨e1, -⟩
        · exact .inl (.inr ⟨2 * (z1 : Int), hb.all _ e1, vxS_up.symm⟩)
        · omega
      · cases e
    · obtain ⟨i, hi, rfl⟩ := List.mem_iff_getElem.1 hx
      have e1 : qs.getD i 0 = qs[i] := by rw [List.getD_eq_getElem?_getD, List.getElem?_eq_getElem hi]; rfl
      have hr := hb.s.rng _ hx
      rcases cx.nx_all hr.1 (by omega) ha with e | ⟨x', hx', -, e⟩
      · exact .inl (.inl e)
      · exact .inl (.inr ⟨x', hb.clo i (by omega) x' (by rw [e1]; exact hx'), e⟩)
  · rcases hk with e | ⟨x, hx, e⟩
    · cases e; exact (gS_ok cx.ok node h ls us).sl
    · rintro ⟨hl0, hl1⟩
      obtain ⟨i, hi, rfl⟩ := List.mem_iff_getElem.1 hx
      have e1 : qs.getD i 0 = qs[i] := by rw [List.getD_eq_getElem?_getD, List.getElem?_eq_getElem hi]; rfl
      have hr := hb.s.rng _ hx
      rcases vxS_of (N := n.cnt.toNat) hr.1 with ⟨a, b, c⟩ | ⟨a, b, c⟩
      · rw [c] at e; cases e
      · rw [c] at e
        cases e
        exact hb.leaf i (by omega) (by rw [e1]; exact ⟨a, by omega⟩)
  · show k < n.cnt.toNat + 1
    rcases hk with e | ⟨x, hx, e⟩
    · cases e
    · have := hvx x hx; rw [← e] at this; have h9 : k = (x / 2).toNat := this.1; omega
  · rcases hz with e | ⟨x, hx, e⟩
    · exact .inl e
    · right
      have := hvx x hx
      have hr := hb.s.rng x hx
      have hbd := hb.body x hx
      rw [← e] at this
      rw [this.1]
      exact ⟨this.2, by omega, by rw [Int.toNat_of_nonneg (by omega)]; exact hbd.1⟩
structure TreeS (N : Nat) (bs : List Int) (r : Nat → Nat) : Prop where
  len : bs.length = 2 * N
  low : ∀ x : Int, 0 ≤ x → x < 2 * N → bs.getD x.toNat 0 ≠ -2 → 1 ≤ x / 2 ∧ (bs.getD x.toNat 0 = -1 ∨ (0 ≤ bs.getD x.toNat 0 ∧ bs.getD x.toNat 0 < 2 * N ∧ bs.getD (bs.getD x.toNat 0).toNat 0 ≠ -2 ∧ r (bs.getD x.toNat 0).toNat < r x.toNat))
structure TrS (n : Nt) (node h : Int) (ls : List Int) (us : List Bl) (bs : List Int) (r : Nat → Nat) (ds : List Bl) (ab : List Int) (v at_ : Int) : Prop where
  dl : ds.length = n.cnt.toNat
  ab_ : AbOk n.cnt ab
  rng : -1 ≤ at_ ∧ at_ < 2 * n.cnt
  fp : Fp (gS n node h ls us) (EsF n.cnt.toNat ds ab at_) (IsF n.cnt.toNat ds v) (vxS n.cnt.toNat at_)
  vis : 0 ≤ at_ → bs.getD at_.toNat 0 ≠ -2
  av : 0 ≤ at_ → ∀ x : Int, 0 ≤ x → x < 2 * n.cnt → bs.getD x.toNat 0 ≠ -2 → r x.toNat ≤ r at_.toNat → Av (gS n node h ls us) (EsF n.cnt.toNat ds ab at_) (IsF n.cnt.toNat ds v) (vxS n.cnt.toNat (bs.getD x.toNat 0)) (vxS n.cnt.toNat x)
theorem SrS.tree {bs qs : List Int} {q : Nat} (hb : SrS n node h ls us ds ab v bs qs q) : TreeS n.cnt.toNat bs (fun j => qs.idxOf (j : Int)) := by
  refine ⟨hb.s.len, fun x h0 h1 hv => ?_⟩
  have hm := (hb.s.vis ⟨h0, by omega⟩).2 hv
  refine ⟨(hb.body x hm).2, ?_⟩
  rcases hb.s.prec x.toNat (by omega) with e | ⟨-, e | ⟨e, e1⟩⟩
  · exact absurd e hv
  · exact .inl e
  · have := hb.s.rng _ e
    refine .inr ⟨this.1, by omega, hb.s.set _ e, ?_⟩
    show qs.idxOf (((bs.getD x.toNat 0).toNat : Nat) : Int) < _
    rw [Int.toNat_of_nonneg this.1]; exact e1
theorem EsF_odd {N : Nat} {x : Int} (hx : x % 2 = 1) : EsF N ds ab x = EsF N ds ab (-1) := by
  funext c k; exact EsF_eq (by constructor <;> (rintro ⟨a, b, _, d⟩; exact ⟨a, b, by omega, d⟩))
theorem SrS.found (cx : SrCtx n node h ls us ds ab v) {bs qs : List Int} {q : Nat} (hb : SrS n node h ls us ds ab v bs qs q) (hq : q < qs.length) (h1 : (qs.getD q 0) % 2 = 1) (h2 : (qs.getD q 0) / 2 < n.fst) :
    TrS n node h ls us bs (fun j => qs.idxOf (j : Int)) ds ab v (qs.getD q 0) := by
  have hm := zbj (d := (0 : Int)) hq
  have hr := hb.s.rng _ hm
  have hbd := hb.body _ hm
  refine ⟨cx.dl, cx.ab_, ⟨by omega, by omega⟩, ?_, fun _ => hb.s.set _ hm, fun _ x h0 hx hv _ => ?_⟩
  · rw [EsF_odd h1]
    rcases vxS_of (N := n.cnt.toNat) hr.1 with ⟨a, b, c⟩ | ⟨a, b, c⟩
    · omega
    · rw [c]; exact cx.fl.leaf ⟨by omega, by show (((qs.getD q 0) / 2).toNat : Int) < n.fst; omega⟩
  · rw [EsF_odd h1]; exact hb.par x ((hb.s.vis ⟨h0, by omega⟩).2 hv)
def dsN (ds : List Bl) (at_ fr : Int) : List Bl := if at_ % 2 = 1 ∧ fr = at_ - 1 then ds.set (at_ / 2).toNat ⟨true⟩ else if at_ % 2 = 0 ∧ fr = at_ + 1 then ds.set (at_ / 2).toNat ⟨false⟩ else ds
def abN (ab : List Int) (at_ fr : Int) : List Int := if at_ % 2 = 0 ∧ fr = -1 then ab.set (at_ / 2).toNat (-1) else if at_ % 2 = 0 ∧ 0 ≤ fr ∧ fr ≠ at_ + 1 then ab.set (at_ / 2).toNat (fr / 2) else ab
theorem zga {ds : List Bl} {j k : Nat} {b : Bl} (h : j ≠ k) : (ds.set j b).getD k bl0 = ds.getD k bl0 := by rw [List.getD_eq_getElem?_getD, List.getElem?_set_ne h, ← List.getD_eq_getElem?_getD]
theorem int_set_ne {ds : List Int} {j k : Nat} {b : Int} (h : j ≠ k) : (ds.set j b).getD k 0 = ds.getD k 0 := by rw [List.getD_eq_getElem?_getD, List.getElem?_set_ne h, ← List.getD_eq_getElem?_getD]
theorem tr_arr (hn : NtOk n) {at_ fr : Int} (hdl : ds.length = n.cnt.toNat) (hab : AbOk n.cnt ab) (h0 : 0 ≤ at_) (h1 : at_ < 2 * n.cnt) (hf0 : -1 ≤ fr) (hf1 : fr < 2 * n.cnt) (hp : Fp (gS n node h ls us) (EsF n.cnt.toNat ds ab at_) (IsF n.cnt.toNat ds v) (vxS n.cnt.toNat at_))
    (ha : Av (gS n node h ls us) (EsF n.cnt.toNat ds ab at_) (IsF n.cnt.toNat ds v) (vxS n.cnt.toNat fr) (vxS n.cnt.toNat at_)) {E' : Nat → Nat → Int} {I' : Nat → Int}
    (e1 : (vxS n.cnt.toNat at_).2 = false → vxS n.cnt.toNat fr = ((vxS n.cnt.toNat at_).1, true) → E' = EsF n.cnt.toNat ds ab at_ ∧ I' = updF (IsF n.cnt.toNat ds v) (vxS n.cnt.toNat at_).1 (IsF n.cnt.toNat ds v (vxS n.cnt.toNat at_).1 + 1))
    (e2 : (vxS n.cnt.toNat at_).2 = true → vxS n.cnt.toNat fr = ((vxS n.cnt.toNat at_).1, false) → E' = EsF n.cnt.toNat ds ab at_ ∧ I' = updF (IsF n.cnt.toNat ds v) (vxS n.cnt.toNat at_).1 (IsF n.cnt.toNat ds v (vxS n.cnt.toNat at_).1 - 1))
    (e3 : (vxS n.cnt.toNat at_).2 = true → (vxS n.cnt.toNat fr).2 = false → (vxS n.cnt.toNat fr).1 ≠ (vxS n.cnt.toNat at_).1 → I' = IsF n.cnt.toNat ds v ∧ E' = updT (EsF n.cnt.toNat ds ab at_) (vxS n.cnt.toNat at_).1 (vxS n.cnt.toNat fr).1 (EsF n.cnt.toNat ds ab at_ (vxS n.cnt.toNat at_).1 (vxS n.cnt.toNat fr).1 + 1))
    (e4 : (vxS n.cnt.toNat at_).2 = false → (vxS n.cnt.toNat fr).2 = true → (vxS n.cnt.toNat fr).1 ≠ (vxS n.cnt.toNat at_).1 → I' = IsF n.cnt.toNat ds v ∧ E' = updT (EsF n.cnt.toNat ds ab at_) (vxS n.cnt.toNat fr).1 (vxS n.cnt.toNat at_).1 (EsF n.cnt.toNat ds ab at_ (vxS n.cnt.toNat fr).1 (vxS n.cnt.toNat at_).1 - 1)) :
    E' = EsF n.cnt.toNat (dsN ds at_ fr) (abN ab at_ fr) fr ∧ I' = IsF n.cnt.toNat (dsN ds at_ fr) v := by
  have hal : ab.length = n.cnt.toNat := by have := hab.1; omega
  obtain ⟨k, hk, hkl, hax⟩ : ∃ k : Nat, (at_ / 2).toNat = k ∧ k < n.cnt.toNat ∧ ((at_ % 2 = 0 ∧ at_ = 2 * (k : Int) ∧ vxS n.cnt.toNat at_ = (k, true)) ∨ (at_ % 2 = 1 ∧ at_ = 2 * (k : Int) + 1 ∧ vxS n.cnt.toNat at_ = (k, false))) := ⟨_, rfl, by omega, vxS_of h0⟩
  rcases hax with ⟨a, b, c⟩ | ⟨a, b, c⟩
  · -- an upper side
    rw [c] at hp ha e1 e2 e3 e4
    simp only at e1 e2 e3 e4
    have hrow : ∀ j, EsF n.cnt.toNat ds ab at_ k j = 0 := fun j => EsF_no (fun e => e.2.2.1 (by omega))
    have hIk : IsF n.cnt.toNat ds v k = 1 := by
      have := hp.up k (by show k < n.cnt.toNat + 1; omega) (by show k ≠ n.cnt.toNat; omega)
      rw [zek, zdz _ (fun j _ => hrow j)] at this; omega
    have hdk : (ds.getD k bl0).b = true := (IsF_iff (v := v) hkl).2.1 (by omega)
    by_cases hfr : fr = at_ + 1
    · -- from its lower side
      have hfx : vxS n.cnt.toNat fr = (k, false) := by rw [hfr, b, vxS_lo]
      obtain ⟨rfl, rfl⟩ := e2 (by first | rfl | trivial) hfx
      have hd : dsN ds at_ fr = ds.set k ⟨false⟩ := by unfold dsN; rw [if_neg (by omega), if_pos ⟨a, hfr⟩, hk]
      have hb2 : abN ab at_ fr = ab := by unfold abN; rw [if_neg (by omega), if_neg (by omega)]
      rw [hd, hb2]
      refine ⟨?_, ?_⟩
      · funext i j
        refine EsF_eq ?_
        by_cases e : i = k
        · subst e; rw [zbn (by omega)]
          exact ⟨fun q => absurd (by omega) q.2.2.1, fun q => absurd q.2.1 (by decide)⟩
        · rw [zga (fun e' => e e'.symm)]
          exact ⟨fun q => ⟨q.1, q.2.1, by omega, q.2.2.2⟩, fun q => ⟨q.1, q.2.1, by omega, q.2.2.2⟩⟩
      · funext j
        by_cases e : j = k
        · subst e; rw [zeq, hIk, IsF_no (by omega) (by rw [zbn (by omega)]; decide)]; rfl
        · rw [zel _ _ e]; unfold IsF; rw [zga (fun e' => e e'.symm)]
    · -- from a lower side of another one, or from above
      have hd : dsN ds at_ fr = ds := by unfold dsN; rw [if_neg (by omega), if_neg (by omega)]
      obtain ⟨m, hm, hfx, hml, hbn⟩ : ∃ m : Nat, m ≠ k ∧ vxS n.cnt.toNat fr = (m, false) ∧ m ≤ n.cnt.toNat ∧ ((m < n.cnt.toNat ∧ fr = 2 * (m : Int) + 1 ∧ abN ab at_ fr = ab.set k (m : Int)) ∨ (m = n.cnt.toNat ∧ fr = -1 ∧ abN ab at_ fr = ab.set k (-1))) := by
        by_cases hf : fr < 0
        · refine ⟨n.cnt.toNat, by omega, vxS_neg hf, Nat.le_refl _, .inr ⟨rfl, by omega, ?_⟩⟩
          unfold abN; rw [if_pos ⟨a, by omega⟩, hk]
        · rcases vxS_of (N := n.cnt.toNat) (x := fr) (by omega) with ⟨a', b', c'⟩ | ⟨a', b', c'⟩
          · rw [c'] at ha
            rcases ha with ⟨-, e, -⟩ | ⟨e, -⟩ | ⟨e, -⟩ | ⟨-, e, -⟩ <;> cases e
          · refine ⟨(fr / 2).toNat, by omega, c', by omega, .inl ⟨by omega, b', ?_⟩⟩
            unfold abN; rw [if_neg (by omega), if_pos ⟨a, by omega, by omega⟩, hk, Int.toNat_of_nonneg (by omega)]
      rw [hfx] at e3
      obtain ⟨rfl, rfl⟩ := e3 (by first | rfl | trivial) (by first | rfl | trivial) hm
      rw [hd]
      refine ⟨?_, rfl⟩
      funext i j
      by_cases e : i = k
      · subst e
        have hset : ∀ q : Int, (ab.set i q).getD i 0 = q := fun q => zbn (by omega)
        by_cases ej : j = m
        · subst ej
          rw [zft, hrow]
          refine (EsF_yes ⟨hkl, hdk, ?_, ?_⟩).symm
          · rcases hbn with ⟨-, q, -⟩ | ⟨-, q, -⟩ <;> omega
          · rcases hbn with ⟨q1, -, q⟩ | ⟨q1, -, q⟩ <;> rw [q, hset]
            · exact .inl ⟨q1, rfl⟩
            · exact .inr ⟨q1, rfl⟩
        · rw [zee _ _ (fun q => ej q.2), hrow]
          refine (EsF_no (fun q => ?_)).symm
          rcases hbn with ⟨q1, -, q2⟩ | ⟨q1, -, q2⟩ <;> rw [q2, hset] at q
          · rcases q.2.2.2 with ⟨-, q3⟩ | ⟨-, q3⟩ <;> omega
          · rcases q.2.2.2 with ⟨-, q3⟩ | ⟨q3, -⟩ <;> omega
      · rw [zee _ _ (fun q => e q.1)]
        refine EsF_eq ?_
        have hset : (abN ab at_ fr).getD i 0 = ab.getD i 0 := by
          rcases hbn with ⟨-, -, q⟩ | ⟨-, -, q⟩ <;> rw [q, int_set_ne (fun e' => e e'.symm)]
        rw [hset]
        have hfo : 2 * (i : Int) ≠ fr := by rcases hbn with ⟨-, q, -⟩ | ⟨-, q, -⟩ <;> omega
        exact ⟨fun q => ⟨q.1, q.2.1, hfo, q.2.2.2⟩, fun q => ⟨q.1, q.2.1, by omega, q.2.2.2⟩⟩
  · -- a lower side
    rw [c] at hp ha e1 e2 e3 e4
    simp only at e1 e2 e3 e4
    by_cases hfr : fr = at_ - 1
    · have hfx : vxS n.cnt.toNat fr = (k, true) := by rw [hfr, b, show 2 * (k : Int) + 1 - 1 = 2 * (k : Int) by omega, vxS_up]
      obtain ⟨rfl, rfl⟩ := e1 (by first | rfl | trivial) hfx
      have hd : dsN ds at_ fr = ds.set k ⟨true⟩ := by unfold dsN; rw [if_pos ⟨a, hfr⟩, hk]
      have hb2 : abN ab at_ fr = ab := by unfold abN; rw [if_neg (by omega), if_neg (by omega)]
      rw [hfx] at ha
      have hI0 : IsF n.cnt.toNat ds v k = 0 := by
        rcases ha with ⟨-, -, -, q⟩ | ⟨q, -⟩ | ⟨q, -⟩ | ⟨-, -, q⟩
        · rcases q with q | q
          · exact absurd q (by show ¬ k = n.cnt.toNat; omega)
          · exact q
        · cases q
        · cases q
        · have := hp.ef _ _ (show 0 < EsF n.cnt.toNat ds ab at_ k k from q)
          exact absurd rfl ((gS_ok hn node h ls us).f _ _ this).2.2.2.1
      have hdk := (IsF_iff (v := v) hkl).1.1 hI0
      rw [hd, hb2]
      refine ⟨?_, ?_⟩
      · funext i j
        refine EsF_eq ?_
        by_cases e : i = k
        · subst e
          exact ⟨fun q => absurd q.2.1 hdk, fun q => absurd (by omega) q.2.2.1⟩
        · rw [zga (fun e' => e e'.symm)]
          exact ⟨fun q => ⟨q.1, q.2.1, by omega, q.2.2.2⟩, fun q => ⟨q.1, q.2.1, by omega, q.2.2.2⟩⟩
      · funext j
        by_cases e : j = k
        · subst e; rw [zeq, hI0, IsF_yes hkl (by rw [zbn (by omega)])]; rfl
        · rw [zel _ _ e]; unfold IsF; rw [zga (fun e' => e e'.symm)]
    · have hd : dsN ds at_ fr = ds := by unfold dsN; rw [if_neg (by omega), if_neg (by omega)]
      have hb2 : abN ab at_ fr = ab := by unfold abN; rw [if_neg (by omega), if_neg (by omega)]
      rw [hd, hb2]
      -- it comes from the upper side of another one
      have hf : 0 ≤ fr := by
        by_cases q : 0 ≤ fr
        · exact q
        · rw [vxS_neg (by omega)] at ha
          rcases ha with ⟨e, -⟩ | ⟨-, e, -⟩ | ⟨-, e, -⟩ | ⟨e, -⟩ <;> cases e
      rcases vxS_of (N := n.cnt.toNat) hf with ⟨a', b', c'⟩ | ⟨a', b', c'⟩
      · rw [c'] at ha e4
        simp only at e4
        have hne : (fr / 2).toNat ≠ k := by omega
        obtain ⟨rfl, rfl⟩ := e4 (by first | rfl | trivial) (by first | rfl | trivial) hne
        refine ⟨?_, rfl⟩
        have hE : 1 ≤ EsF n.cnt.toNat ds ab at_ (fr / 2).toNat k := by
          rcases ha with ⟨-, q, -⟩ | ⟨q, -⟩ | ⟨q, -⟩ | ⟨-, -, q⟩
          · simp only [Prod.mk.injEq] at q; omega
          · cases q
          · cases q
          · exact q
        obtain ⟨q1, q2, q3, q4⟩ := EsF_pos hE
        funext i j
        by_cases e : i = (fr / 2).toNat
        · subst e
          rw [EsF_no (x := fr) (fun q => q.2.2.1 (by omega))]
          by_cases ej : j = k
          · subst ej
            rw [zft, EsF_yes ⟨q1, q2, q3, q4⟩]; rfl
          · rw [zee _ _ (fun q => ej q.2)]
            refine EsF_no (fun q => ?_)
            rcases q4 with ⟨q5, q6⟩ | ⟨q5, q6⟩ <;> rcases q.2.2.2 with ⟨q7, q8⟩ | ⟨q7, q8⟩ <;> omega
        · rw [zee _ _ (fun q => e q.1)]
          exact EsF_eq ⟨fun q => ⟨q.1, q.2.1, by omega, q.2.2.2⟩, fun q => ⟨q.1, q.2.1, by omega, q.2.2.2⟩⟩
      · rw [c'] at ha
        rcases ha with ⟨e, -⟩ | ⟨-, e, -⟩ | ⟨-, e, -⟩ | ⟨e, -⟩ <;> cases e
theorem TrS.step (hn : NtOk n) {bs : List Int} {r : Nat → Nat} {at_ : Int} (hT : TreeS n.cnt.toNat bs r) (ht : TrS n node h ls us bs r ds ab v at_) (h0 : 0 ≤ at_) :
    TrS n node h ls us bs r (dsN ds at_ (bs.getD at_.toNat 0)) (abN ab at_ (bs.getD at_.toNat 0)) v (bs.getD at_.toNat 0) ∧ (0 ≤ bs.getD at_.toNat 0 → r (bs.getD at_.toNat 0).toNat < r at_.toNat) := by
  have h1 := ht.rng.2
  obtain ⟨t1, t2⟩ := hT.low at_ h0 (by omega) (ht.vis h0)
  have hfst : 1 ≤ n.fst := by have := hn.i0; unfold Nt.fst; omega
  have ha := ht.av h0 at_ h0 h1 (ht.vis h0) (Nat.le_refl _)
  generalize hfr : bs.getD at_.toNat 0 = fr at *
  have hf : -1 ≤ fr ∧ fr < 2 * n.cnt := by rcases t2 with e | ⟨e1, e2, -⟩ <;> omega
  have hrk : 0 ≤ fr → r fr.toNat < r at_.toNat := fun q => by rcases t2 with e | ⟨-, -, -, e⟩; omega; exact e
  refine ⟨?_, hrk⟩
  obtain ⟨E', I', p1, p2, p3, p4, p5, p6⟩ := fp_step (gS_ok hn node h ls us) ht.fp ha
  obtain ⟨rfl, rfl⟩ := tr_arr hn ht.dl ht.ab_ h0 h1 hf.1 hf.2 ht.fp ha p3 p4 p5 p6
  have hvis : 0 ≤ fr → bs.getD fr.toNat 0 ≠ -2 := fun q => by rcases t2 with e | ⟨-, -, e, -⟩; omega; exact e
  refine ⟨by unfold dsN; split <;> (try split) <;> (try rw [List.length_set]) <;> exact ht.dl, ?_, hf, p1, hvis, fun hf0 x x0 x1 xv xr => ?_⟩
  · unfold abN
    split
    · exact ht.ab_.set (by omega)
    · split
      · exact ht.ab_.set (by omega)
      · exact ht.ab_
  · have hxr : r x.toNat < r at_.toNat := Nat.lt_of_le_of_lt xr (hrk hf0)
    refine p2 _ _ (.inr fun e => ?_) ?_ (ht.av h0 x x0 x1 xv (by omega))
    · have := vxS_inj x0 h0 e; subst this; omega
    · by_cases e : x = fr
      · subst e
        left
        intro e
        obtain ⟨u1, u2⟩ := hT.low x x0 (by omega) xv
        rcases u2 with u | ⟨u, -, -, u3⟩
        · rw [u, vxS_neg (by omega)] at e
          rcases vxS_of (N := n.cnt.toNat) h0 with ⟨a, b, c⟩ | ⟨a, b, c⟩ <;> (rw [c] at e; simp only [Prod.mk.injEq] at e; omega)
        · have := vxS_inj u h0 e
          rw [this] at u3; omega
      · right
        intro e'
        exact e (vxS_inj x0 hf0 e')
theorem TrS.done (cx : SrCtx n node h ls us ds ab v) {bs : List Int} {r : Nat → Nat} {ds' : List Bl} {ab' : List Int} (ht : TrS n node h ls us bs r ds' ab' v (-1)) : SrCtx n node h ls us ds' ab' (v + 1) := by
  have hg := gS_ok cx.ok node h ls us
  have h1 := ht.fp
  rw [vxS_neg (by omega)] at h1
  have h2 := h1.in' hg.s (.inl hg.sf)
  have e : updF (IsF n.cnt.toNat ds' v) n.cnt.toNat (IsF n.cnt.toNat ds' v n.cnt.toNat + 1) = IsF n.cnt.toNat ds' (v + 1) := by
    funext j
    by_cases e : j = n.cnt.toNat
    · subst e; rw [zeq, IsF_S, IsF_S]
    · rw [zel _ _ e]; unfold IsF; rw [if_neg e, if_neg e]
  refine ⟨cx.ok, cx.mon, cx.up, cx.ul, ht.dl, ht.ab_, ?_⟩
  rw [← e]
  exact Fp.done (g := gS n node h ls us) h2
theorem SrCtx.start (hn : NtOk n) (hm : MonL n node h ls) (hu : UpOk n node h ls us) (hl : us.length = n.cnt.toNat) : SrCtx n node h ls us (List.replicate n.cnt.toNat bl0) (List.replicate n.cnt.toNat 0) 0 := by
  have hnd := hm.nd
  have hfst : 1 ≤ n.fst := by have := hn.i0; unfold Nt.fst; omega
  have e1 : EsF n.cnt.toNat (List.replicate n.cnt.toNat bl0) (List.replicate n.cnt.toNat 0) (-1) = fun _ _ => 0 := by
    funext c k
    refine EsF_no (fun e => ?_)
    have := e.2.1
    rw [getD_rep' e.1] at this; cases this
  have e2 : IsF n.cnt.toNat (List.replicate n.cnt.toNat bl0) 0 = fun _ => 0 := by
    funext k
    unfold IsF
    split
    · rfl
    · rw [if_neg]
      rintro ⟨a, b⟩
      rw [getD_rep' a] at b; cases b
  refine ⟨hn, hm, hu, hl, by rw [List.length_replicate], AbOk.start (by omega), ?_⟩
  rw [e1, e2]; exact Fl.start _
theorem up_cov (hn : NtOk n) (hm : MonL n node h ls) {C : List Int} (hC : SepC n ls node h C) {u : Int} (hr : Rch n node u) (hu : u = node ∨ h ≤ lbI ls u) : Cov n C u ∧ ¬ u ∈ C := by
  have hnd := hm.nd
  have hfst : 1 ≤ n.fst := by have := hn.i0; unfold Nt.fst; omega
  have hno : ∀ k : Int, (k = node ∨ h ≤ lbI ls k) → ¬ k ∈ C := fun k hk e => by have := hC.lo k e; omega
  refine ⟨?_, hno u hu⟩
  induction hr with
  | top => exact hC.cov
  | @a k hr' hf ih =>
    have hrg := hr'.rng hn (by omega) hnd.2
    have hlt := zfv hn hf (by omega)
    have hku : k = node ∨ h ≤ lbI ls k := by
      by_cases e : k = node
      · exact .inl e
      · right
        have := (hm.kids k hf (by omega)).1
        rcases hu with e1 | e1
        · have e2 : kdA n k = node := e1
          omega
        · have e2 : h ≤ lbI ls (kdA n k) := e1
          omega
    have h9 := ih hku
    cases h9 with
    | zero => omega
    | mem e => exact absurd e (hno _ hku)
    | and _ _ p q => exact p
  | @b k hr' hf ih =>
    have hrg := hr'.rng hn (by omega) hnd.2
    have hlt := zfv hn hf (by omega)
    have hku : k = node ∨ h ≤ lbI ls k := by
      by_cases e : k = node
      · exact .inl e
      · right
        have := (hm.kids k hf (by omega)).2
        rcases hu with e1 | e1
        · have e2 : kdB n k = node := e1
          omega
        · have e2 : h ≤ lbI ls (kdB n k) := e1
          omega
    have h9 := ih hku
    cases h9 with
    | zero => omega
    | mem e => exact absurd e (hno _ hku)
    | and _ _ p q => exact q
theorem cov_fan {C : List Int} {k c : Int} (h : Cov n C k) (h1 : 1 ≤ k) (hk : ¬ k ∈ C) (hf : FanS n k c) : Cov n C c := by
  cases h with
  | zero => omega
  | mem e => exact absurd e hk
  | and _ _ p q =>
    rcases hf.2.2 with e | e
    · rw [e]; exact p
    · rw [e]; exact q
theorem cov_leaf {C : List Int} {z : Int} (h : Cov n C z) (h1 : 1 ≤ z) (hl : z < n.fst) (hz : ¬ z ∈ C) : False := by
  cases h with
  | zero => omega
  | mem e => exact hz e
  | and h0 _ _ _ => omega
theorem SrCtx.weak (cx : SrCtx n node h ls us ds ab v) {C : List Int} (hC : SepC n ls node h C) : v ≤ C.length := by
  have hnd := cx.mon.nd
  have hfst : 1 ≤ n.fst := by have := cx.ok.i0; unfold Nt.fst; omega
  have hmem : ∀ k : Nat, k ∈ C.map Int.toNat ↔ (k : Int) ∈ C := fun k => by
    rw [List.mem_map]
    constructor
    · rintro ⟨c, hc, rfl⟩; rw [Int.toNat_of_nonneg (hC.lo c hc).1.1]; exact hc
    · intro hc; exact ⟨_, hc, Int.toNat_natCast k⟩
  have hb : ∀ k, Btw (gS n node h ls us) (· ∈ C.map Int.toNat) k → k = n.cnt.toNat ∨ (k < n.cnt.toNat ∧ 1 ≤ k ∧ Cov n C k ∧ ¬ (k : Int) ∈ C) := fun k hk => by
    induction hk with
    | s => exact .inl rfl
    | @f k c _ hf hc ih =>
      right
      rw [hmem] at hc
      rcases hf with ⟨rfl, hbd⟩ | ⟨hk, hbo, hf⟩
      · have hbb := bd_body cx.ok cx.up ⟨by omega, hnd.2⟩ hbd
        obtain ⟨-, u, hu, huu, hf⟩ := hbd
        have hup := (cx.up u hu.1 hu.2).1 huu
        obtain ⟨q1, q2⟩ := up_cov cx.ok cx.mon hC hup.1 hup.2
        have := hf.1
        exact ⟨by omega, by omega, cov_fan q1 (by omega) q2 hf, hc⟩
      · have hbb := body_fan cx.ok cx.mon hbo hf
        rcases ih with e | ⟨-, i1, i2, i3⟩
        · omega
        · exact ⟨by omega, by omega, cov_fan i2 (by omega) i3 hf, hc⟩
  have h1 := weakF (gS_ok cx.ok node h ls us) cx.fl (C.map Int.toNat) (fun c hc => by
    show ¬ c = n.cnt.toNat
    rw [hmem] at hc
    have := hC.lo _ hc; omega) (fun k hk => by
    rcases hb k hk with e | ⟨-, i1, i2, i3⟩
    · subst e; exact (gS_ok cx.ok node h ls us).sl
    · rintro ⟨-, hl⟩
      exact cov_leaf i2 (by omega) hl i3)
  rw [List.length_map] at h1
  have e : IsF n.cnt.toNat ds v n.cnt.toNat = v := IsF_S _ _ _
  have h2 : IsF n.cnt.toNat ds v n.cnt.toNat ≤ C.length := h1
  omega
theorem SrCtx.cut (cx : SrCtx n node h ls us ds ab v) {R : Vx → Prop} (hr : Rchd (gS n node h ls us) (EsF n.cnt.toNat ds ab (-1)) (IsF n.cnt.toNat ds v) R) (hR : ∀ z : Vx, R z → z = (n.cnt.toNat, false) ∨ (z.1 < n.cnt.toNat ∧ 1 ≤ z.1 ∧ bodyS n node h ls z.1)) :
    ∃ C : List Int, (C.length : Int) = v ∧ SepC n ls node h C := by
  classical
  have hnd := cx.mon.nd
  have hh := cx.mon.h1
  have hfst : 1 ≤ n.fst := by have := cx.ok.i0; unfold Nt.fst; omega
  have hg := gS_ok cx.ok node h ls us
  let K := (List.range n.cnt.toNat).filter fun c => decide (R (c, true) ∧ ¬ R (c, false))
  have hK : ∀ c, c ∈ K ↔ R (c, true) ∧ ¬ R (c, false) ∧ c ≠ (gS n node h ls us).S := fun c => by
    show c ∈ (List.range n.cnt.toNat).filter _ ↔ _
    rw [List.mem_filter, List.mem_range, decide_eq_true_eq]
    constructor
    · rintro ⟨a, b, d⟩; exact ⟨b, d, by show c ≠ n.cnt.toNat; omega⟩
    · rintro ⟨b, d, e⟩
      refine ⟨?_, b, d⟩
      rcases hR _ b with q | ⟨q, -⟩
      · cases q
      · exact q
  obtain ⟨l1, l2, l3⟩ := leastF hg cx.fl hr K (List.nodup_range.filter _) hK
  have e : IsF n.cnt.toNat ds v n.cnt.toNat = v := IsF_S _ _ _
  have l1' : IsF n.cnt.toNat ds v n.cnt.toNat = K.length := l1
  have hmem : ∀ c : Int, c ∈ K.map (fun c : Nat => (c : Int)) ↔ 0 ≤ c ∧ c.toNat ∈ K := fun c => by
    rw [List.mem_map]
    constructor
    · rintro ⟨k, hk, rfl⟩; exact ⟨by omega, by rw [Int.toNat_natCast]; exact hk⟩
    · rintro ⟨h0, hk⟩; exact ⟨_, hk, Int.toNat_of_nonneg h0⟩
  have hbody : ∀ z : Vx, R z → z.1 ≠ n.cnt.toNat → bodyS n node h ls z.1 := fun z hz hne => by
    rcases hR z hz with q | ⟨-, -, q⟩
    · exact absurd (by rw [q]) hne
    · exact q
  have hin : ∀ c : Nat, R (c, true) → Cov n (K.map fun c : Nat => (c : Int)) c ∨ R (c, false) := fun c hc => by
    by_cases q : R (c, false)
    · exact .inr q
    · refine .inl (.mem ((hmem _).2 ⟨by omega, ?_⟩))
      rw [Int.toNat_natCast]
      refine (hK c).2 ⟨hc, q, ?_⟩
      show c ≠ n.cnt.toNat
      rcases hR _ hc with q | ⟨q, -⟩
      · cases q
      · have q2 : c < n.cnt.toNat := q
        omega
  have hfan : ∀ (k c : Nat), R (k, false) → (gS n node h ls us).fan k c → R (c, true) := fun k c hk hf => by
    have := hg.f k c hf
    rcases hr.clo (k, false) (c, true) hk (.inr (.inr (.inl ⟨rfl, rfl, hf⟩))) this.2.1 with a | a
    · exact a
    · cases a; exact absurd rfl this.2.2.1
  have key : ∀ (f : Nat) (k : Int), k.toNat < f → 0 ≤ k → Rch n node k → ((k = node ∨ h ≤ lbI ls k) ∨ R (k.toNat, false)) → Cov n (K.map fun c : Nat => (c : Int)) k := fun f => by
    induction f with
    | zero => intro k hf; exact absurd hf (by omega)
    | succ f ih =>
      intro k hf h0 hrc hk
      have hrg := hrc.rng cx.ok (by omega) hnd.2
      have hand : n.fst ≤ k := by
        rcases hk with (e | e) | e
        · omega
        · by_cases c : n.fst ≤ k
          · exact c
          · rw [cx.mon.leaf k h0 (by omega)] at e; omega
        · have hnl := hr.leaf _ e
          by_cases c : n.fst ≤ k
          · exact c
          · exfalso
            have h19 : 1 ≤ k.toNat := by
              rcases hR _ e with q | ⟨-, q, -⟩
              · have : k.toNat = n.cnt.toNat := congrArg Prod.fst q
                omega
              · exact q
            exact hnl ⟨h19, by omega⟩
      obtain ⟨o1, o2, o3, o4, o5⟩ := zfv cx.ok hand (by omega)
      have hkid : ∀ c : Int, 0 ≤ c → c < k → Rch n node c → (1 ≤ c → FanS n k c) → Cov n (K.map fun c : Nat => (c : Int)) c := fun c c0 ck hc hfc => by
        by_cases z : c = 0
        · rw [z]; exact .zero
        · have hf1 := hfc (by omega)
          by_cases up : c = node ∨ h ≤ lbI ls c
          · exact ih c (by omega) c0 hc (.inl up)
          · have hR1 : R (c.toNat, true) := by
              by_cases ku : k = node ∨ h ≤ lbI ls k
              · refine hfan n.cnt.toNat c.toNat hr.s (.inl ⟨rfl, ?_⟩)
                rw [Int.toNat_of_nonneg c0]
                exact ⟨fun e => up ((cx.up c c0 (by omega)).1 e).2, k, ⟨by omega, by omega⟩, (cx.up k (by omega) (by omega)).2 ⟨hrc, ku⟩, hf1⟩
              · have hkr := hk.resolve_left ku
                refine hfan k.toNat c.toNat hkr (.inr ⟨by omega, ?_, ?_⟩)
                · exact hbody _ hkr (by show k.toNat ≠ n.cnt.toNat; omega)
                · rw [Int.toNat_of_nonneg c0, Int.toNat_of_nonneg h0]; exact hf1
            rcases hin _ hR1 with q | q
            · rw [Int.toNat_of_nonneg c0] at q; exact q
            · exact ih c (by omega) c0 hc (.inr q)
      exact .and hand (by omega) (hkid _ o2 o3 (.a hrc hand) (fun h1 => ⟨hand, h1, .inl rfl⟩)) (hkid _ o4 o5 (.b hrc hand) (fun h1 => ⟨hand, h1, .inr rfl⟩))
  refine ⟨K.map fun c : Nat => (c : Int), by rw [List.length_map]; omega, fun c hc => ?_, key (node.toNat + 1) node (by omega) (by omega) .top (.inl (.inl rfl))⟩
  obtain ⟨h0, hk⟩ := (hmem c).1 hc
  obtain ⟨k1, k2, k3⟩ := (hK _).1 hk
  have hb := hbody _ k1 k3
  have hb' : bodyS n node h ls ((c.toNat : Nat) : Int) := hb
  rw [Int.toNat_of_nonneg h0] at hb'
  have hrg := hb'.1.rng cx.ok (by omega) hnd.2
  exact ⟨⟨h0, by have := hb'.2.2; omega⟩, hb'.2.1⟩
end
open Go.RowKit
theorem fanL_no {n : Nt} {k : Int} (h : k < n.fst) : [] = fanL n k := by unfold fanL; rw [if_neg (by omega)]
theorem fanL_00 {n : Nt} {k : Int} (h : n.fst ≤ k) (ha : ndA n k ≤ 1) (hb : ndB n k ≤ 1) : [] = fanL n k := by unfold fanL; rw [if_pos h, if_neg (by omega), if_neg (by omega)]; rfl
theorem fanL_10 {n : Nt} {k : Int} (h : n.fst ≤ k) (ha : 1 < ndA n k) (hb : ndB n k ≤ 1) : [ndA n k / 2] = fanL n k := by unfold fanL; rw [if_pos h, if_pos ha, if_neg (by omega)]; rfl
theorem fanL_01 {n : Nt} {k : Int} (h : n.fst ≤ k) (ha : ndA n k ≤ 1) (hb : 1 < ndB n k) : [ndB n k / 2] = fanL n k := by unfold fanL; rw [if_pos h, if_neg (by omega), if_pos hb]; rfl
theorem fanL_11 {n : Nt} {k : Int} (h : n.fst ≤ k) (ha : 1 < ndA n k) (hb : 1 < ndB n k) : [ndA n k / 2] ++ [ndB n k / 2] = fanL n k := by unfold fanL; rw [if_pos h, if_pos ha, if_pos hb]
theorem row_to {e : TypeId} {v : Value} {xs ys : List Int} (h : xs = ys) : [rowE e 1 v xs.length (xs.map (Value.int .i64))] = [rowE e 1 v ys.length (ys.map (Value.int .i64))] := by rw [h]
theorem upB_no {us : List Bl} {k : Nat} (h : (us.getD k bl0).b = false) : ¬ upB us (k : Int) := by unfold upB; rw [Int.toNat_natCast, h]; decide
theorem upB_yes {us : List Bl} {k : Nat} (h : (us.getD k bl0).b = true) : upB us (k : Int) := by unfold upB; rw [Int.toNat_natCast]; exact h
theorem upB_noI {us : List Bl} {k : Int} (h : (us.getD k.toNat bl0).b = false) : ¬ upB us k := by unfold upB; rw [h]; decide
theorem nx_e0 {n : Nt} {ds : List Bl} {ab : List Int} {y : Int} (h : y % 2 = 0) (hu : (ds.getD (y / 2).toNat bl0).b = false) : [2 * (y / 2) + 1] = nxL n ds ab y := by unfold nxL; rw [if_pos h, if_neg (by rw [hu]; decide)]
theorem nx_e1 {n : Nt} {ds : List Bl} {ab : List Int} {y : Int} (h : y % 2 = 0) (hu : (ds.getD (y / 2).toNat bl0).b = true) (hp : 0 ≤ ab.getD (y / 2).toNat 0) : [2 * ab.getD (y / 2).toNat 0 + 1] = nxL n ds ab y := by unfold nxL; rw [if_pos h, if_pos hu, if_pos hp]
theorem nx_e2 {n : Nt} {ds : List Bl} {ab : List Int} {y : Int} (h : y % 2 = 0) (hu : (ds.getD (y / 2).toNat bl0).b = true) (hp : ab.getD (y / 2).toNat 0 < 0) : [] = nxL n ds ab y := by unfold nxL; rw [if_pos h, if_pos hu, if_neg (by omega)]
theorem nx_o0 {n : Nt} {ds : List Bl} {ab : List Int} {y : Int} {ns : List Int} {i : Nat} (hns : ns = ((fanL n (y / 2)).take i).map (fun c => 2 * c)) (hi : (fanL n (y / 2)).length ≤ i) (h : ¬ y % 2 = 0) (hu : (ds.getD (y / 2).toNat bl0).b = false) : ns = nxL n ds ab y := by
  unfold nxL; rw [if_neg h, if_neg (by rw [hu]; decide), hns, List.take_of_length_le hi, List.append_nil]
theorem nx_o1 {n : Nt} {ds : List Bl} {ab : List Int} {y : Int} {ns : List Int} {i : Nat} (hns : ns = ((fanL n (y / 2)).take i).map (fun c => 2 * c)) (hi : (fanL n (y / 2)).length ≤ i) (h : ¬ y % 2 = 0) (hu : (ds.getD (y / 2).toNat bl0).b = true) : ns ++ [2 * (y / 2)] = nxL n ds ab y := by
  unfold nxL; rw [if_neg h, if_pos hu, hns, List.take_of_length_le hi]
theorem nx_step {n : Nt} {k : Int} {ns : List Int} {i : Nat} (hns : ns = ((fanL n k).take i).map (fun c => 2 * c)) (hi : i < (fanL n k).length) : ns ++ [2 * (fanL n k).getD i 0] = ((fanL n k).take (i + 1)).map (fun c => 2 * c) := by
  rw [zdi 0 hi, List.map_append, hns]; rfl
theorem nxL_len (n : Nt) (ds : List Bl) (ab : List Int) (y : Int) : (nxL n ds ab y).length ≤ 3 := by
  unfold nxL
  split
  · split
    · split <;> simp
    · simp
  · have := fanL_len n (y / 2)
    rw [List.length_append, List.length_map]
    split
    · simp; omega
    · simp; omega
def SrOut (n : Nt) (node h : Int) (ls : List Int) (us ds : List Bl) (ab : List Int) (v : Int) (bs : List Int) (at_ : Int) : Prop := bs.length = 2 * n.cnt.toNat ∧
  ((at_ = -1 ∧ ∃ R : Vx → Prop, Rchd (gS n node h ls us) (EsF n.cnt.toNat ds ab (-1)) (IsF n.cnt.toNat ds v) R ∧ ∀ z : Vx, R z → z = (n.cnt.toNat, false) ∨ (z.1 < n.cnt.toNat ∧ 1 ≤ z.1 ∧ bodyS n node h ls z.1)) ∨
   (0 ≤ at_ ∧ ∃ r, TreeS n.cnt.toNat bs r ∧ TrS n node h ls us bs r ds ab v at_))
theorem FanS_ret (n : Nt) (k : Int) (w : World) (hr : RdsNt w n) (hn : NtOk n) (hk : 0 ≤ k ∧ k < n.cnt) :
   Calls Try.prog 52 #[.agg #[.int .i64 n.ins, n.sv, n.av, n.ov], .int .i64 k] w (Ret w (fun u_ p_ => p_ = [rowE 3 1 u_ (fanL n k).length ((fanL n k).map (Value.int .i64))])) := by
 have hi0 := hn.i0
 have hi1 := hn.i1
 have hs1 := hn.s1
 have ha1 := hn.a1
 have ho1 := hn.o1
 have hcnt : n.cnt = 1 + n.ins + n.ss.length + n.gs.length := rfl
 have hfst : n.fst = 1 + n.ins + n.ss.length := rfl
 refine zbg (N := 40) (args := [.agg #[.int .i64 n.ins, n.sv, n.av, n.ov], .int .i64 k]) Try.func52 rfl rfl (srQ ?_)
 refine zei rfl (zco rfl rfl) ?_
 intro b1
 refine zbb 1 rfl (srQ ?_)
 refine zea rfl (zcl (s := 1) rfl Try.underlying26 rfl) ?_
 intro g2
 refine zbb 1 rfl (zaa (zaa (reQ 1 rfl (hvQ rfl (zaf (cs := [.int .i64 n.ins, n.sv, n.av, n.ov]) rfl rfl rfl rfl rfl (zag 1 rfl 0 rfl)) ?_))))
 refine zdw rfl (zas rfl rfl (fun w hm => zaz (zcs n w (hr.below hm.bel) hn))) (zbr rfl rfl rfl rfl rfl rfl (fun h3 => ?_) (fun h3 => ?_))
 ·
  refine ntQ (zaq rfl (zbh 2 rfl ?_))
  refine zax (zam ?_)
  exact zct (post := [rowE 3 1 (.slice (some ⟨g2, 0, none⟩) 0 0) 0 ([])]) rfl rfl (slQ [0] rfl) (row_to (by first | exact fanL_no (by omega) | exact fanL_00 (by omega) (by omega) (by omega) | exact fanL_10 (by omega) (by omega) (by omega) | exact fanL_01 (by omega) (by omega) (by omega) | exact fanL_11 (by omega) (by omega) (by omega)))
 refine ntQ (zao rfl (zcw (zaa ?_)))
 have hgn := hn.an (k - n.fst).toNat (by omega)
 unfold LtOk at hgn
 refine zfq rfl 9 [0, 1, 2, 3, 4, 5, 6, 7, 8] (List.take 9 _) (List.drop 9 _) [[], [0], [], [], [3], [2, 4], [1, 5], [6], []] [13, 14, 15, 16, 17, 18, 19, 20, 6] (fun i_ vs_ v_ p_ => match i_ with | 0 => v_ = .pointer (some ⟨b1, 0 + 2, none⟩) ∧ p_ = [] | 1 => v_ = n.av ∧ p_ = [] | 2 => v_ = .int .i64 k ∧ p_ = [] | 3 => v_ = .agg #[.int .i64 n.ins, n.sv, n.av, n.ov] ∧ p_ = [] | 4 => v_ = .int .i64 n.fst ∧ p_ = [] | 5 => v_ = .int .i64 (k - n.fst) ∧ p_ = [] | 6 => v_ = elP n.av ((k - n.fst).toNat * 2) ∧ p_ = [] | 7 => v_ = .agg #[.int .i64 ((n.gs.getD ((k - n.fst).toNat) an0).a), .int .i64 ((n.gs.getD ((k - n.fst).toNat) an0).b)] ∧ p_ = [] | 8 => IsBox #[.int .i64 0, .int .i64 0] 47 v_ p_ | _ => True) (List.take_append_drop 9 _).symm (by kernel_rfl) (by kernel_rfl) rfl rfl ?_ ?_
 ·
  refine ⟨?_, ?_, ?_, ?_, ?_, ?_, ?_, ?_, ?_, trivial⟩
  ·
   intro vf pf hR
   exact ovQ rfl (zau [2] rfl) (zbz (fdQ 2 rfl rfl rfl))
  ·
   intro vf pf hR
   have e0 := hR 0 (by decide)
   exact olQ rfl (sk 13 (congrArg some e0.1) (zak _)) (zbz (zan rfl rfl rfl (zah 1 rfl rfl)))
  ·
   intro vf pf hR
   exact ovQ rfl (zau [1] rfl) (zbz (zae rfl))
  ·
   intro vf pf hR
   exact olQ rfl (zau [2] rfl) (zbz (zaf (cs := [.int .i64 n.ins, n.sv, n.av, n.ov]) rfl rfl rfl rfl rfl (zag 1 rfl 0 rfl)))
  ·
   intro vf pf hR
   have e3 := hR 3 (by decide)
   exact olQ rfl (sk 16 (congrArg some e3.1) (zak _)) (zas rfl rfl (fun w hm => zaz (zcs n w (hr.below hm.bel) hn)))
  ·
   intro vf pf hR
   have e2 := hR 2 (by decide)
   have e4 := hR 4 (by decide)
   exact ovQ rfl (sk 15 (congrArg some e2.1) (sk 17 (congrArg some e4.1) (zak _))) (zbz (vsQ rfl rfl rfl))
  ·
   intro vf pf hR
   have e1 := hR 1 (by decide)
   have e5 := hR 5 (by decide)
   exact olQ rfl (sk 14 (congrArg some e1.1) (sk 18 (congrArg some e5.1) (zak _))) (zbz (riQ 2 rfl rfl rfl rfl (zac hr.an)))
  ·
   intro vf pf hR
   have e6 := hR 6 (by decide)
   exact olQ rfl (sk 19 (congrArg some e6.1) (zak _)) (zbz (zdj (us := [.int .i64 ((n.gs.getD ((k - n.fst).toNat) an0).a), .int .i64 ((n.gs.getD ((k - n.fst).toNat) an0).b)]) rfl rfl rfl rfl (zac hr.an) (by omega) rfl (zeo anC 2 (fun _ => rfl) n.gs an0 (show (k - n.fst).toNat < _ by omega) rfl)))
  intro vf pf hR
  exact olQ rfl (zak _) (zbq (z := .agg #[.int .i64 0, .int .i64 0]) rfl rfl)
 intro vf pf hR
 have e7 := hR 7 (by decide)
 have e8 : IsBox #[.int .i64 0, .int .i64 0] 47 (vf 8) (pf 8) := hR 8 (by decide)
 obtain ⟨b4, vE8, pE8⟩ := e8
 have q0 := hR 0 (by decide)
 have q1 := hR 1 (by decide)
 have q2 := hR 2 (by decide)
 have q3 := hR 3 (by decide)
 have q4 := hR 4 (by decide)
 have q5 := hR 5 (by decide)
 have q6 := hR 6 (by decide)
 have q7 := hR 7 (by decide)
 refine zcx (zbx [5, 4, 2, 1, 0] _ (sk 6 (congrArg some vE8) (sk 11 rfl (sk 20 (congrArg some e7.1) (zak _)))) rfl) (by simp only [pE8, vE8, q0.2, q1.2, q2.2, q3.2, q4.2, q5.2, q6.2, q7.2, fS] <;> rfl) ?_
 simp only [List.drop_succ_cons, List.drop_zero]
 refine zbu (cs' := #[.int .i64 ((n.gs.getD ((k - n.fst).toNat) an0).a), .int .i64 ((n.gs.getD ((k - n.fst).toNat) an0).b)]) (i := 0) (off := 0) (us := [.int .i64 ((n.gs.getD ((k - n.fst).toNat) an0).a), .int .i64 ((n.gs.getD ((k - n.fst).toNat) an0).b)]) rfl rfl rfl rfl rfl rfl rfl (zar rfl (zar rfl zbs)) rfl rfl rfl (ntQ (ssrQ (hvQ rfl (fdQ 0 rfl rfl rfl) (hvQ rfl (zan rfl rfl rfl (zah 0 rfl rfl)) ?_))))
 refine zes rfl rfl rfl rfl rfl rfl (fun h5 => ?_) (fun h5 => ?_)
 ·
  refine ntQ (zaq rfl (reQ 1 rfl (hvQ rfl (fdQ 0 rfl rfl rfl) (hvQ rfl (zan rfl rfl rfl (zah 0 rfl rfl)) ?_))))
  refine hvQ rfl (zdy rfl rfl rfl (by refine ⟨?_, ?_, ?_⟩ <;> omega)) ?_
  refine zea rfl (zaw (z := .int .i64 0) (s := 1) (cs := ([((n.gs.getD ((k - n.fst).toNat) an0).a) / 2].map (Value.int .i64))) rfl Try.underlying26 rfl (by decide) rfl (by kernel_rfl) rfl) ?_
  intro g6
  refine zck (i := 2) (z := .int .i64 0) (bytes := 8) (n' := ([((n.gs.getD ((k - n.fst).toNat) an0).a) / 2]).length) (xs' := (([((n.gs.getD ((k - n.fst).toNat) an0).a) / 2]).map (Value.int .i64))) rfl rfl rfl rfl Try.underlying26 (by kernel_rfl) rfl rfl rfl rfl (zad 0 rfl) (zca _) (by first | omega | (simp; done) | (simp; omega)) (Nat.zero_add _) (List.nil_append _) (fun _ => rfl) ?_
  intro v7
  refine zbb 1 rfl (ssrQ (hvQ rfl (fdQ 1 rfl rfl rfl) (hvQ rfl (zan rfl rfl rfl (zah 1 rfl rfl)) ?_)))
  refine zes rfl rfl rfl rfl rfl rfl (fun h8 => ?_) (fun h8 => ?_)
  ·
   refine ntQ (zaq rfl (reQ 1 rfl (hvQ rfl (fdQ 1 rfl rfl rfl) (hvQ rfl (zan rfl rfl rfl (zah 1 rfl rfl)) ?_))))
   refine hvQ rfl (zdy rfl rfl rfl (by refine ⟨?_, ?_, ?_⟩ <;> omega)) ?_
   refine zea rfl (zaw (z := .int .i64 0) (s := 1) (cs := ([((n.gs.getD ((k - n.fst).toNat) an0).b) / 2].map (Value.int .i64))) rfl Try.underlying26 rfl (by decide) rfl (by kernel_rfl) rfl) ?_
   intro g9
   refine zck (i := 3) (z := .int .i64 0) (bytes := 8) rfl rfl rfl rfl Try.underlying26 (by kernel_rfl) rfl rfl rfl rfl (zad 0 rfl) (zca _) (by first | omega | (simp; done) | (simp; omega)) (zcc ([((n.gs.getD ((k - n.fst).toNat) an0).a) / 2]) ([((n.gs.getD ((k - n.fst).toNat) an0).b) / 2])) (zcv ([((n.gs.getD ((k - n.fst).toNat) an0).a) / 2]) ([((n.gs.getD ((k - n.fst).toNat) an0).b) / 2])) (fun _ => rfl) ?_
   intro v10
   refine zbb 1 rfl (zbh 2 rfl ?_)
   exact zax (zct (post := [rowE 3 1 v10 ((([((n.gs.getD ((k - n.fst).toNat) an0).a) / 2]) ++ ([((n.gs.getD ((k - n.fst).toNat) an0).b) / 2])).length) ((([((n.gs.getD ((k - n.fst).toNat) an0).a) / 2]) ++ ([((n.gs.getD ((k - n.fst).toNat) an0).b) / 2])).map (Value.int .i64))]) rfl rfl (slQ [3] rfl) (row_to (by first | exact fanL_no (by omega) | exact fanL_00 (by omega) (by omega) (by omega) | exact fanL_10 (by omega) (by omega) (by omega) | exact fanL_01 (by omega) (by omega) (by omega) | exact fanL_11 (by omega) (by omega) (by omega))))
  refine ntQ (zao rfl (zcw (zbh 2 rfl ?_)))
  exact zax (zct (post := [rowE 3 1 v7 (([((n.gs.getD ((k - n.fst).toNat) an0).a) / 2]).length) (([((n.gs.getD ((k - n.fst).toNat) an0).a) / 2]).map (Value.int .i64))]) rfl rfl (slQ [2] rfl) (row_to (by first | exact fanL_no (by omega) | exact fanL_00 (by omega) (by omega) (by omega) | exact fanL_10 (by omega) (by omega) (by omega) | exact fanL_01 (by omega) (by omega) (by omega) | exact fanL_11 (by omega) (by omega) (by omega))))
 refine ntQ (zao rfl (zcw (ssrQ (hvQ rfl (fdQ 1 rfl rfl rfl) (hvQ rfl (zan rfl rfl rfl (zah 0 rfl rfl)) ?_)))))
 refine zes rfl rfl rfl rfl rfl rfl (fun h11 => ?_) (fun h11 => ?_)
 ·
  refine ntQ (zaq rfl (reQ 1 rfl (hvQ rfl (fdQ 1 rfl rfl rfl) (hvQ rfl (zan rfl rfl rfl (zah 0 rfl rfl)) ?_))))
  refine hvQ rfl (zdy rfl rfl rfl (by refine ⟨?_, ?_, ?_⟩ <;> omega)) ?_
  refine zea rfl (zaw (z := .int .i64 0) (s := 1) (cs := ([((n.gs.getD ((k - n.fst).toNat) an0).b) / 2].map (Value.int .i64))) rfl Try.underlying26 rfl (by decide) rfl (by kernel_rfl) rfl) ?_
  intro g12
  refine zck (i := 2) (z := .int .i64 0) (bytes := 8) (n' := ([((n.gs.getD ((k - n.fst).toNat) an0).b) / 2]).length) (xs' := (([((n.gs.getD ((k - n.fst).toNat) an0).b) / 2]).map (Value.int .i64))) rfl rfl rfl rfl Try.underlying26 (by kernel_rfl) rfl rfl rfl rfl (zad 0 rfl) (zca _) (by first | omega | (simp; done) | (simp; omega)) (Nat.zero_add _) (List.nil_append _) (fun _ => rfl) ?_
  intro v13
  refine zbb 1 rfl (zbh 2 rfl ?_)
  exact zax (zct (post := [rowE 3 1 v13 (([((n.gs.getD ((k - n.fst).toNat) an0).b) / 2]).length) (([((n.gs.getD ((k - n.fst).toNat) an0).b) / 2]).map (Value.int .i64))]) rfl rfl (slQ [2] rfl) (row_to (by first | exact fanL_no (by omega) | exact fanL_00 (by omega) (by omega) (by omega) | exact fanL_10 (by omega) (by omega) (by omega) | exact fanL_01 (by omega) (by omega) (by omega) | exact fanL_11 (by omega) (by omega) (by omega))))
 refine ntQ (zao rfl (zcw (zbh 2 rfl ?_)))
 exact zax (zct (post := [rowE 3 1 (.slice (some ⟨g2, 0, none⟩) 0 0) 0 ([])]) rfl rfl (slQ [1] rfl) (row_to (by first | exact fanL_no (by omega) | exact fanL_00 (by omega) (by omega) (by omega) | exact fanL_10 (by omega) (by omega) (by omega) | exact fanL_01 (by omega) (by omega) (by omega) | exact fanL_11 (by omega) (by omega) (by omega))))
theorem SearchS_ret (n : Nt) (node hh : Int) (ls : List Int) (us ds : List Bl) (ab : List Int) (fv : Int) (uv dv av : Value) (w : World) (hr : RdsNt w n) (hn : NtOk n) (cx : SrCtx n node hh ls us ds ab fv) (hu : RdsW w uv 1 us.length (us.flatMap blC)) (hd : RdsW w dv 1 ds.length (ds.flatMap blC)) (ha : RdsW w av 1 ab.length (ab.map (Value.int .i64))) :
   Calls Try.prog 36 #[.agg #[.int .i64 n.ins, n.sv, n.av, n.ov], uv, dv, av] w (Ret w (fun u_ p_ => ∃ (bs : List Int) (v1 : Value) (at_ : Int), u_ = .tuple #[v1, .int .i64 at_] ∧ p_ = [rowE 3 1 v1 bs.length (bs.map (Value.int .i64))] ∧ SrOut n node hh ls us ds ab fv bs at_)) := by
 have hi0 := hn.i0
 have hi1 := hn.i1
 have hs1 := hn.s1
 have ha1 := hn.a1
 have ho1 := hn.o1
 have hcnt : n.cnt = 1 + n.ins + n.ss.length + n.gs.length := rfl
 have hfst : n.fst = 1 + n.ins + n.ss.length := rfl
 have hab := cx.ab_
 have hab1 := hab.1
 have hul := cx.ul
 have hdl := cx.dl
 refine zbg (N := 199) (args := [.agg #[.int .i64 n.ins, n.sv, n.av, n.ov], uv, dv, av]) Try.func36 rfl rfl (srQ ?_)
 refine zei rfl (zco rfl rfl) ?_
 intro b1
 refine zbb 2 rfl (srQ ?_)
 refine zea rfl (zcl (s := 1) rfl Try.underlying26 rfl) ?_
 intro g2
 refine zbb 1 rfl (srQ ?_)
 refine zea rfl (zcl (s := 1) rfl Try.underlying26 rfl) ?_
 intro g3
 refine zbb 1 rfl (zaa (zbh 1 rfl (zba ?_)))
 refine lkQ2 (α := Nat) (β := Value) [0, 1, 2, 3, 4, 8, 9, 11] rfl (fun k bv => [rowE 3 1 (.slice (some ⟨g3, 0, none⟩) 0 0) 0 ([]), rowE 3 1 bv ((List.replicate k (-2 : Int)).length) ((List.replicate k (-2 : Int)).map (Value.int .i64)), boxE b1 #[.int .i64 n.ins, n.sv, n.av, n.ov] 28]) (fun k bv => [(10, bv), (12, .int .i64 (k : Int))]) (fun k bv => k ≤ (2 * n.cnt.toNat)) (fun k bv => (2 * n.cnt.toNat) - k) 0 _ (Nat.zero_le _) (saQ rfl) (pfQ rfl) ?_
 intro k bv hi4
 have hk := hi4
 have hrk : (List.replicate k (-2 : Int)).length = k := List.length_replicate
 refine zaa (zaa (reQ 1 rfl (hvQ rfl (zaf (cs := [.int .i64 n.ins, n.sv, n.av, n.ov]) rfl rfl rfl rfl rfl (zag 2 rfl 0 rfl)) ?_)))
 refine zdw rfl (zas rfl rfl (fun w hm => zaz (zbk n w (hr.below hm.bel) hn))) (hvQ rfl (zer rfl rfl rfl (by constructor <;> omega)) ?_)
 refine zbr rfl rfl rfl rfl rfl rfl (fun h5 => ?_) (fun h5 => ?_)
 ·
  refine ntQ (zaq rfl (zcw (sbQ (reQ 1 rfl ?_))))
  refine zea rfl (zaw (z := .int .i64 0) (s := 1) (cs := ([-2].map (Value.int .i64))) rfl Try.underlying26 rfl (by decide) rfl (by kernel_rfl) rfl) ?_
  intro g6
  refine zck (i := 2) (z := .int .i64 0) (bytes := 8) rfl rfl rfl rfl Try.underlying26 (by kernel_rfl) rfl rfl rfl rfl (zad 0 rfl) (zca _) (by first | omega | (simp; done) | (simp; omega)) (zcc (List.replicate k (-2 : Int)) ([-2])) (zcv (List.replicate k (-2 : Int)) ([-2])) (fun _ => rfl) ?_
  intro v7
  refine enQ 1 rfl (zdk (reQ 1 rfl (hvQ rfl (vaQ rfl rfl rfl) (enQ 1 rfl ?_))))
  exact hq_eqL (l' := [rowE 3 1 (.slice (some ⟨g6, 0, none⟩) 1 1) 1 ([-2].map (Value.int .i64)), rowE 3 1 (.slice (some ⟨g3, 0, none⟩) 0 0) 0 ([]), rowE 3 1 v7 ((List.replicate (k + 1) (-2 : Int)).length) ((List.replicate (k + 1) (-2 : Int)).map (Value.int .i64)), boxE b1 #[.int .i64 n.ins, n.sv, n.av, n.ov] 28]) (by rw [List.replicate_succ']) (zch (k + 1) v7 (by omega) (by omega) (saQ rfl) (slQ [1, 0, 0] rfl))
 refine ntQ (zao rfl ?_)
 refine zbi (zep ?_)
 refine zal (zaj (zaa (zbh 1 rfl (zba ?_))))
 have hkf : k = (2 * n.cnt.toNat) := by omega
 subst hkf
 refine lkQ4 (α := Nat) (β := List Int) (γ := List Int) (δ := Value) [0, 1, 2, 3, 4, 8, 9, 10, 28] rfl (fun k2 bs qs qv => [rowE 3 1 qv qs.length (qs.map (Value.int .i64)), rowE 3 1 bv bs.length (bs.map (Value.int .i64)), boxE b1 #[.int .i64 n.ins, n.sv, n.av, n.ov] 28]) (fun k2 bs qs qv => [(11, qv), (13, .int .i64 (k2 : Int))]) (fun k2 bs qs qv => (k2 : Int) ≤ n.cnt ∧ SrB n us bs qs (k2 : Int)) (fun k2 bs qs qv => n.cnt.toNat - k2) 0 _ [] _ ⟨by omega, SrB.start n us⟩ (saQ rfl) (pfQ rfl) ?_
 intro k2 bs qs qv hi8
 obtain ⟨hk2, hsb⟩ := hi8
 have hbl := hsb.s.len
 have hql := hsb.s.qlen
 refine zaa (zaa (reQ 1 rfl (hvQ rfl (zaf (cs := [.int .i64 n.ins, n.sv, n.av, n.ov]) rfl rfl rfl rfl rfl (zag 2 rfl 0 rfl)) ?_)))
 refine zdw rfl (zas rfl rfl (fun w hm => zaz (zbk n w (hr.below hm.bel) hn))) (zbr rfl rfl rfl rfl rfl rfl (fun h9 => ?_) (fun h9 => ?_))
 ·
  refine ntQ (zaq rfl (zcw (sbQ (srQ (hvQ rfl (zaf (cs := [.int .i64 n.ins, n.sv, n.av, n.ov]) rfl rfl rfl rfl rfl (zag 2 rfl 0 rfl)) (zab 1 rfl ?_))))))
  refine hl_q rfl rfl rfl (zas rfl rfl (fun w hm => FanS_ret n (k2 : Int) w (hr.below hm.bel) hn (by omega))) ?_
  intro v10 p11 hR12
  subst hR12
  have hfl := fanL_len n (k2 : Int)
  refine zbb 1 rfl (zbh 1 rfl (zba ?_))
  refine lkQ4 (α := Nat) (β := List Int) (γ := List Int) (δ := Value) [0, 1, 2, 3, 4, 8, 9, 10, 13, 14, 28, 37] rfl (fun i bs2 qs2 qv2 => [rowE 3 1 v10 ((fanL n (k2 : Int)).length) ((fanL n (k2 : Int)).map (Value.int .i64)), rowE 3 1 qv2 qs2.length (qs2.map (Value.int .i64)), rowE 3 1 bv bs2.length (bs2.map (Value.int .i64)), boxE b1 #[.int .i64 n.ins, n.sv, n.av, n.ov] 28]) (fun i bs2 qs2 qv2 => [(11, qv2), (15, .int .i64 (i : Int))]) (fun i bs2 qs2 qv2 => i ≤ (fanL n (k2 : Int)).length ∧ SrBi n us bs2 qs2 (k2 : Int) i) (fun i bs2 qs2 qv2 => (fanL n (k2 : Int)).length - i) 0 bs qs _ ⟨Nat.zero_le _, SrBi.start hsb⟩ (saQ rfl) (pfQ rfl) ?_
  intro i bs2 qs2 qv2 hi13
  obtain ⟨hi, hsi⟩ := hi13
  have hbl2 := hsi.b.s.len
  have hql2 := hsi.b.s.qlen
  refine zaa (zaa (reQ 2 rfl (hvQ rfl (lnQ rfl rfl rfl (zad 0 rfl)) ?_)))
  refine zbr rfl rfl rfl rfl rfl rfl (fun h14 => ?_) (fun h14 => ?_)
  ·
   refine zab 3 rfl (hvQ rfl (riQ 1 rfl rfl rfl rfl (zac hu)) ?_)
   refine hvQ rfl (zav (u := .bool ((us.getD k2 bl0).b)) rfl rfl rfl (zac hu) (zbm blC (fun r => .bool r.b) (fun _ => rfl) us bl0 (show k2 < _ by omega))) (zbc (fun h15 => ?_) (fun h15 => ?_))
   ·
    refine zbb 1 rfl (zaq rfl (zcw (sbQ (srQ ?_))))
    have hfi := (zgh.1 (zbj (d := (0 : Int)) (show i < (fanL n (k2 : Int)).length by omega))).lt hn (by omega)
    refine zab 1 rfl (zab 2 rfl (hvQ rfl (riQ 1 rfl rfl rfl rfl (zad 0 rfl)) (hvQ rfl (zav (u := .int .i64 ((fanL n (k2 : Int)).getD i 0)) rfl rfl rfl (zad 0 rfl) (zcr (show _ < (fanL n (k2 : Int)).length by omega))) (hvQ rfl (riQ 1 rfl rfl rfl rfl (zac hu)) ?_))))
    refine hvQ rfl (zav (u := .bool ((us.getD (((fanL n (k2 : Int)).getD i 0).toNat) bl0).b)) rfl rfl rfl (zac hu) (zbm blC (fun r => .bool r.b) (fun _ => rfl) us bl0 (show ((fanL n (k2 : Int)).getD i 0).toNat < _ by omega))) (zbc (fun h16 => ?_) (fun h16 => ?_))
    ·
     refine zbb 12 rfl (fsQ rfl (zap ?_))
     refine zaj (reQ 1 rfl (hvQ rfl (vaQ rfl rfl rfl) (enQ 1 rfl ?_)))
     exact zbe (i + 1) bs2 qs2 qv2 ⟨by omega, (hsi.skip hn (by omega) (by omega) (by first | exact .inl (by assumption) | exact .inr (by assumption)))⟩ (by omega) (saQ rfl) (pfQ rfl)
    refine zab 5 rfl (hvQ rfl (riQ 1 rfl rfl rfl rfl (zad 0 rfl)) (hvQ rfl (zav (u := .int .i64 ((fanL n (k2 : Int)).getD i 0)) rfl rfl rfl (zad 0 rfl) (zcr (show _ < (fanL n (k2 : Int)).length by omega))) (hvQ rfl (zer rfl rfl rfl (by constructor <;> omega)) (hvQ rfl (riQ 1 rfl rfl rfl rfl (zad 2 rfl)) (hvQ rfl (lzQ rfl rfl rfl (zad 2 rfl)) ?_)))))
    refine zcj rfl rfl rfl rfl rfl rfl (fun h17 => ?_) (fun h17 => ?_)
    ·
     refine zab 1 rfl (zay (zaj (zaq rfl (zaa (zai (zab 3 rfl (hvQ rfl (riQ 1 rfl rfl rfl rfl (zad 0 rfl)) (hvQ rfl (zav (u := .int .i64 ((fanL n (k2 : Int)).getD i 0)) rfl rfl rfl (zad 0 rfl) (zcr (show _ < (fanL n (k2 : Int)).length by omega))) (hvQ rfl (zer rfl rfl rfl (by constructor <;> omega)) (hvQ rfl (riQ 1 rfl rfl rfl rfl (zad 2 rfl)) ?_))))))))))
     refine zdh (i := 2) (n' := (bs2.set ((2 * ((fanL n (k2 : Int)).getD i 0)).toNat) (-1)).length) (xs' := ((bs2.set ((2 * ((fanL n (k2 : Int)).getD i 0)).toNat) (-1)).map (Value.int .i64))) rfl rfl rfl rfl rfl rfl rfl rfl (by first | omega | (simp only [List.length_set]; omega)) List.length_set.symm (zeg _ _ _) rfl (zay (zaj (zai (zab 3 rfl (hvQ rfl (riQ 1 rfl rfl rfl rfl (zad 0 rfl)) (hvQ rfl (zav (u := .int .i64 ((fanL n (k2 : Int)).getD i 0)) rfl rfl rfl (zad 0 rfl) (zcr (show _ < (fanL n (k2 : Int)).length by omega))) (hvQ rfl (zer rfl rfl rfl (by constructor <;> omega)) ?_)))))))
     refine zea rfl (zaw (z := .int .i64 0) (s := 1) (cs := ([2 * ((fanL n (k2 : Int)).getD i 0)].map (Value.int .i64))) rfl Try.underlying26 rfl (by decide) rfl (by kernel_rfl) rfl) ?_
     intro g18
     refine zck (i := 2) (z := .int .i64 0) (bytes := 8) rfl rfl rfl rfl Try.underlying26 (by kernel_rfl) rfl rfl rfl rfl (zad 0 rfl) (zca _) (by first | omega | (simp; done) | (simp; omega)) (zcc qs2 ([2 * ((fanL n (k2 : Int)).getD i 0)])) (zcv qs2 ([2 * ((fanL n (k2 : Int)).getD i 0)])) (fun _ => rfl) ?_
     intro v19
     refine enQ 1 rfl (zdk (reQ 1 rfl (hvQ rfl (vaQ rfl rfl rfl) (enQ 1 rfl ?_))))
     exact zbe (i + 1) (bs2.set ((2 * ((fanL n (k2 : Int)).getD i 0)).toNat) (-1)) (qs2 ++ ([2 * ((fanL n (k2 : Int)).getD i 0)])) v19 ⟨by omega, (hsi.put hn ⟨by omega, by omega⟩ (by omega) (upB_yes (by assumption)) (upB_noI (by assumption)) (by assumption))⟩ (by omega) (saQ rfl) (slQ [1, 0, 0, 0] rfl)
    refine zbb 1 rfl (fsQ rfl (zdk (reQ 1 rfl (hvQ rfl (vaQ rfl rfl rfl) (enQ 1 rfl ?_)))))
    exact zbe (i + 1) bs2 qs2 qv2 ⟨by omega, (hsi.skip hn (by omega) (by omega) (by first | exact .inl (by assumption) | exact .inr (by assumption)))⟩ (by omega) (saQ rfl) (pfQ rfl)
   refine zbb 1 rfl (zao rfl ?_)
   refine zbi (zep ?_)
   refine zal (zdk (reQ 1 rfl (hvQ rfl (vaQ rfl rfl rfl) (enQ 1 rfl ?_))))
   exact zbe (k2 + 1) bs2 qs2 qv2 ⟨by omega, hsi.done (by first | exact .inl (by omega) | exact .inr (upB_no (by assumption)))⟩ (by omega) (saQ rfl) (slQ [1, 0, 0] rfl)
  refine zbb 6 rfl (zao rfl ?_)
  refine zbi (zep ?_)
  refine zal (zdk (reQ 1 rfl (hvQ rfl (vaQ rfl rfl rfl) (enQ 1 rfl ?_))))
  exact zbe (k2 + 1) bs2 qs2 qv2 ⟨by omega, hsi.done (by first | exact .inl (by omega) | exact .inr (upB_no (by assumption)))⟩ (by omega) (saQ rfl) (slQ [1, 0, 0] rfl)
 refine ntQ (zao rfl ?_)
 refine zbi (zep ?_)
 refine zal (zaj (zaa (zbh 1 rfl (zba ?_))))
 refine lkQ4 (α := Nat) (β := List Int) (γ := List Int) (δ := Value) [0, 1, 2, 3, 4, 8, 9, 10, 28, 37] rfl (fun q bs3 qs3 qv3 => [rowE 3 1 qv3 qs3.length (qs3.map (Value.int .i64)), rowE 3 1 bv bs3.length (bs3.map (Value.int .i64)), boxE b1 #[.int .i64 n.ins, n.sv, n.av, n.ov] 28]) (fun q bs3 qs3 qv3 => [(11, qv3), (16, .int .i64 (q : Int))]) (fun q bs3 qs3 qv3 => q ≤ qs3.length ∧ SrS n node hh ls us ds ab fv bs3 qs3 q) (fun q bs3 qs3 qv3 => (2 * n.cnt.toNat) - q) 0 bs qs _ ⟨Nat.zero_le _, SrS.start cx hsb (by omega)⟩ (saQ rfl) (pfQ rfl) ?_
 intro q bs3 qs3 qv3 hi20
 obtain ⟨hq, hss⟩ := hi20
 have hbl3 := hss.s.len
 have hql3 := hss.s.qlen
 refine zaa (zaa (reQ 2 rfl (hvQ rfl (lnQ rfl rfl rfl (zad 0 rfl)) ?_)))
 refine zbr rfl rfl rfl rfl rfl rfl (fun h21 => ?_) (fun h21 => ?_)
 ·
  refine ntQ (zaq rfl (zcw (sbQ (zaa (reQ 2 rfl (hvQ rfl (riQ 1 rfl rfl rfl rfl (zad 0 rfl)) ?_))))))
  have hq3 := hss.s.at (q := q) (by omega)
  refine hvQ rfl (liQ rfl rfl rfl (zad 0 rfl)) (hvQ rfl (zdy rfl rfl rfl (by refine ⟨?_, ?_, ?_⟩ <;> omega)) ?_)
  refine zbb 1 rfl (srQ ?_)
  refine zea rfl (zcl (s := 1) rfl Try.underlying26 rfl) ?_
  intro g22
  refine zbb 1 rfl ?_
  refine hc_meet2 (α := Value) (β := List Int) (fun nv ns => [rowE 3 1 nv ns.length (ns.map (Value.int .i64)), rowE 3 1 qv3 qs3.length (qs3.map (Value.int .i64)), rowE 3 1 bv bs3.length (bs3.map (Value.int .i64)), boxE b1 #[.int .i64 n.ins, n.sv, n.av, n.ov] 28]) (fun nv ns => [(0, .agg #[.int .i64 n.ins, n.sv, n.av, n.ov]), (1, uv), (2, dv), (3, av), (4, .pointer (some ⟨b1, 0, none⟩)), (8, .slice none 0 0), (9, .int .i64 0), (10, bv), (11, qv3), (16, .int .i64 (q : Int)), (17, .int .i64 ((qs3.getD q 0) / 2)), (18, nv), (28, .bool false), (37, .bool false), (92, .bool true)]) (fun nv ns => ns = nxL n ds ab (qs3.getD q 0) ∧ ¬ ((qs3.getD q 0) % 2 = 1 ∧ (qs3.getD q 0) / 2 < n.fst)) ?_ ?_
  ·
   refine zaa (reQ 2 rfl (hvQ rfl (riQ 1 rfl rfl rfl rfl (zad 1 rfl)) (hvQ rfl (liQ rfl rfl rfl (zad 1 rfl)) (hvQ rfl (rv_rem rfl rfl rfl (by constructor <;> omega)) ?_))))
   refine zcj rfl rfl rfl rfl rfl rfl (fun h23 => ?_) (fun h23 => ?_)
   ·
    refine ntQ (zaq rfl (zaa (reQ 2 rfl (hvQ rfl (riQ 1 rfl rfl rfl rfl (zac hd)) ?_))))
    refine hvQ rfl (zav (u := .bool ((ds.getD (((qs3.getD q 0) / 2).toNat) bl0).b)) rfl rfl rfl (zac hd) (zbm blC (fun r => .bool r.b) (fun _ => rfl) ds bl0 (show ((qs3.getD q 0) / 2).toNat < _ by omega))) (zbc (fun h24 => ?_) (fun h24 => ?_))
    ·
     refine zbb 1 rfl (zao rfl (srQ ?_))
     have habk := hab.2 ((qs3.getD q 0) / 2).toNat (by omega)
     refine zab 2 rfl (hvQ rfl (riQ 1 rfl rfl rfl rfl (zac ha)) (hvQ rfl (lzQ rfl rfl rfl (zac ha)) ?_))
     refine zeh rfl rfl rfl rfl rfl rfl (fun h25 => ?_) (fun h25 => ?_)
     ·
      refine ntQ (zaq rfl (reQ 3 rfl (hvQ rfl (riQ 1 rfl rfl rfl rfl (zac ha)) (hvQ rfl (lzQ rfl rfl rfl (zac ha)) (hvQ rfl (zer rfl rfl rfl (by constructor <;> omega)) (hvQ rfl (vaQ rfl rfl rfl) ?_))))))
      refine zea rfl (zaw (z := .int .i64 0) (s := 1) (cs := ([(2 * (ab.getD (((qs3.getD q 0) / 2).toNat) 0)) + 1].map (Value.int .i64))) rfl Try.underlying26 rfl (by decide) rfl (by kernel_rfl) rfl) ?_
      intro g26
      refine zck (i := 1) (z := .int .i64 0) (bytes := 8) (n' := ([(2 * (ab.getD (((qs3.getD q 0) / 2).toNat) 0)) + 1]).length) (xs' := (([(2 * (ab.getD (((qs3.getD q 0) / 2).toNat) 0)) + 1]).map (Value.int .i64))) rfl rfl rfl rfl Try.underlying26 (by kernel_rfl) rfl rfl rfl rfl (zad 0 rfl) (zca _) (by first | omega | (simp; done) | (simp; omega)) (Nat.zero_add _) (List.nil_append _) (fun _ => rfl) ?_
      intro v27
      refine enQ 1 rfl ?_
      exact hq_meet2 v27 ([(2 * (ab.getD (((qs3.getD q 0) / 2).toNat) 0)) + 1]) ⟨by first | exact nx_e0 (by omega) (by assumption) | exact nx_e1 (by omega) (by assumption) (by omega) | exact nx_e2 (by omega) (by assumption) (by omega), by omega⟩ (saQ rfl) (slQ [1, 0, 0, 0] rfl)
     refine ntQ (fsQ rfl ?_)
     exact hq_meet2 (.slice (some ⟨g22, 0, none⟩) 0 0) ([]) ⟨by first | exact nx_e0 (by omega) (by assumption) | exact nx_e1 (by omega) (by assumption) (by omega) | exact nx_e2 (by omega) (by assumption) (by omega), by omega⟩ (saQ rfl) (pfQ rfl)
    refine zbb 1 rfl (zaq rfl (reQ 2 rfl (hvQ rfl (zer rfl rfl rfl (by constructor <;> omega)) (hvQ rfl (vaQ rfl rfl rfl) ?_))))
    refine zea rfl (zaw (z := .int .i64 0) (s := 1) (cs := ([(2 * ((qs3.getD q 0) / 2)) + 1].map (Value.int .i64))) rfl Try.underlying26 rfl (by decide) rfl (by kernel_rfl) rfl) ?_
    intro g28
    refine zck (i := 1) (z := .int .i64 0) (bytes := 8) (n' := ([(2 * ((qs3.getD q 0) / 2)) + 1]).length) (xs' := (([(2 * ((qs3.getD q 0) / 2)) + 1]).map (Value.int .i64))) rfl rfl rfl rfl Try.underlying26 (by kernel_rfl) rfl rfl rfl rfl (zad 0 rfl) (zca _) (by first | omega | (simp; done) | (simp; omega)) (Nat.zero_add _) (List.nil_append _) (fun _ => rfl) ?_
    intro v29
    refine enQ 1 rfl ?_
    exact hq_meet2 v29 ([(2 * ((qs3.getD q 0) / 2)) + 1]) ⟨by first | exact nx_e0 (by omega) (by assumption) | exact nx_e1 (by omega) (by assumption) (by omega) | exact nx_e2 (by omega) (by assumption) (by omega), by omega⟩ (saQ rfl) (slQ [1, 0, 0, 0] rfl)
   refine ntQ (zao rfl (zaa (zaa (reQ 1 rfl (hvQ rfl (zaf (cs := [.int .i64 n.ins, n.sv, n.av, n.ov]) rfl rfl rfl rfl rfl (zag 3 rfl 0 rfl)) ?_)))))
   refine zdw rfl (zas rfl rfl (fun w hm => zaz (zcs n w (hr.below hm.bel) hn))) (zbr rfl rfl rfl rfl rfl rfl (fun h30 => ?_) (fun h30 => ?_))
   ·
    refine ntQ (zaq rfl (zaa (hc_keep _ [135, 106, 92, 37, 28, 18, 17, 16, 11, 10, 9, 4, 3, 2, 1, 0] rfl ?_)))
    refine zbl 6 [[], [], [], [1, 2], [3], [0]] [136, 137, 138, 139, 140, 8] [bv, qv3, .int .i64 (q : Int), elP qv3 (((q : Int)).toNat * 1), .int .i64 (qs3.getD q 0), bv] (by kernel_rfl) rfl ?_ ?_
    ·
     exact ⟨iaQ rfl (zae rfl) rfl, iaQ rfl (zae rfl) rfl, iaQ rfl (zae rfl) rfl, iaQ rfl (riQ 1 rfl rfl rfl rfl (zad 1 rfl)) rfl, iaQ rfl (liQ rfl rfl rfl (zad 1 rfl)) rfl, iaQ rfl (zae rfl) rfl, trivial⟩
    simp only [List.drop_succ_cons, List.drop_zero]
    refine zbb 1 rfl ?_
    refine zax (rt2Q ?_)
    refine zat (rt2Q ?_)
    refine zat (zam ?_)
    exact zdl (rs := [.tmp 8, .tmp 9]) (vs := [bv, .int .i64 (qs3.getD q 0)]) (post := [rowE 3 1 bv bs3.length (bs3.map (Value.int .i64))]) rfl ⟨rfl, rfl, trivial⟩ rfl (slQ [2] rfl) ⟨bs3, _, _, rfl, rfl, ⟨hss.s.len, .inr ⟨by omega, _, hss.tree, hss.found cx (by omega) (by omega) (by omega)⟩⟩⟩
   refine ntQ (zao rfl (zcw (srQ (hvQ rfl (zaf (cs := [.int .i64 n.ins, n.sv, n.av, n.ov]) rfl rfl rfl rfl rfl (zag 3 rfl 0 rfl)) (zab 1 rfl ?_)))))
   refine hl_q rfl rfl rfl (zas rfl rfl (fun w hm => FanS_ret n ((qs3.getD q 0) / 2) w (hr.below hm.bel) hn (by omega))) ?_
   intro v31 p32 hR33
   subst hR33
   have hfl := fanL_len n ((qs3.getD q 0) / 2)
   refine zbb 1 rfl (zaa (zbh 1 rfl (zba ?_)))
   refine lkQ3 (α := Nat) (β := Value) (γ := List Int) [0, 1, 2, 3, 4, 8, 9, 10, 11, 16, 17, 19, 28, 37, 92, 106, 135] rfl (fun i5 nv ns => [rowE 3 1 v31 ((fanL n ((qs3.getD q 0) / 2)).length) ((fanL n ((qs3.getD q 0) / 2)).map (Value.int .i64)), rowE 3 1 nv ns.length (ns.map (Value.int .i64)), rowE 3 1 qv3 qs3.length (qs3.map (Value.int .i64)), rowE 3 1 bv bs3.length (bs3.map (Value.int .i64)), boxE b1 #[.int .i64 n.ins, n.sv, n.av, n.ov] 28]) (fun i5 nv ns => [(18, nv), (20, .int .i64 (i5 : Int))]) (fun i5 nv ns => i5 ≤ (fanL n ((qs3.getD q 0) / 2)).length ∧ ns = ((fanL n ((qs3.getD q 0) / 2)).take i5).map (fun c => 2 * c)) (fun i5 nv ns => (fanL n ((qs3.getD q 0) / 2)).length - i5) 0 _ [] ⟨Nat.zero_le _, rfl⟩ (saQ rfl) (pfQ rfl) ?_
   intro i5 nv ns hi34
   obtain ⟨hi5, hnx⟩ := hi34
   have hnl : ns.length ≤ 2 := by rw [hnx, List.length_map, List.length_take]; omega
   refine zaa (zaa (reQ 2 rfl (hvQ rfl (lnQ rfl rfl rfl (zad 0 rfl)) ?_)))
   refine zbr rfl rfl rfl rfl rfl rfl (fun h35 => ?_) (fun h35 => ?_)
   ·
    refine ntQ (zaq rfl (zcw (sbQ (zai ?_))))
    have hfi := (zgh.1 (zbj (d := (0 : Int)) (show i5 < (fanL n ((qs3.getD q 0) / 2)).length by omega))).lt hn (by omega)
    refine zab 3 rfl (hvQ rfl (riQ 1 rfl rfl rfl rfl (zad 0 rfl)) (hvQ rfl (zav (u := .int .i64 ((fanL n ((qs3.getD q 0) / 2)).getD i5 0)) rfl rfl rfl (zad 0 rfl) (zcr (show _ < (fanL n ((qs3.getD q 0) / 2)).length by omega))) (hvQ rfl (zer rfl rfl rfl (by constructor <;> omega)) ?_)))
    refine zea rfl (zaw (z := .int .i64 0) (s := 1) (cs := ([2 * ((fanL n ((qs3.getD q 0) / 2)).getD i5 0)].map (Value.int .i64))) rfl Try.underlying26 rfl (by decide) rfl (by kernel_rfl) rfl) ?_
    intro g36
    refine zck (i := 2) (z := .int .i64 0) (bytes := 8) rfl rfl rfl rfl Try.underlying26 (by kernel_rfl) rfl rfl rfl rfl (zad 0 rfl) (zca _) (by first | omega | (simp; done) | (simp; omega)) (zcc ns ([2 * ((fanL n ((qs3.getD q 0) / 2)).getD i5 0)])) (zcv ns ([2 * ((fanL n ((qs3.getD q 0) / 2)).getD i5 0)])) (fun _ => rfl) ?_
    intro v37
    refine enQ 1 rfl (zdk (reQ 1 rfl (hvQ rfl (vaQ rfl rfl rfl) (enQ 1 rfl ?_))))
    exact zbv (i5 + 1) v37 (ns ++ ([2 * ((fanL n ((qs3.getD q 0) / 2)).getD i5 0)])) ⟨by omega, nx_step hnx (by omega)⟩ (by omega) (saQ rfl) (slQ [1, 0, 0, 0, 0] rfl)
   refine ntQ (zao rfl ?_)
   refine zbi (zep ?_)
   refine zal (zaj (zaa (reQ 2 rfl (hvQ rfl (riQ 1 rfl rfl rfl rfl (zac hd)) ?_))))
   refine hvQ rfl (zav (u := .bool ((ds.getD (((qs3.getD q 0) / 2).toNat) bl0).b)) rfl rfl rfl (zac hd) (zbm blC (fun r => .bool r.b) (fun _ => rfl) ds bl0 (show ((qs3.getD q 0) / 2).toNat < _ by omega))) (zbc (fun h38 => ?_) (fun h38 => ?_))
   ·
    refine ntQ (zaq rfl (reQ 2 rfl (hvQ rfl (zer rfl rfl rfl (by constructor <;> omega)) ?_)))
    refine zea rfl (zaw (z := .int .i64 0) (s := 1) (cs := ([2 * ((qs3.getD q 0) / 2)].map (Value.int .i64))) rfl Try.underlying26 rfl (by decide) rfl (by kernel_rfl) rfl) ?_
    intro g39
    refine zck (i := 2) (z := .int .i64 0) (bytes := 8) rfl rfl rfl rfl Try.underlying26 (by kernel_rfl) rfl rfl rfl rfl (zad 0 rfl) (zca _) (by first | omega | (simp; done) | (simp; omega)) (zcc ns ([2 * ((qs3.getD q 0) / 2)])) (zcv ns ([2 * ((qs3.getD q 0) / 2)])) (fun _ => rfl) ?_
    intro v40
    refine enQ 1 rfl ?_
    exact hq_meet2 v40 (ns ++ ([2 * ((qs3.getD q 0) / 2)])) ⟨nx_o1 hnx (by omega) (by omega) (by assumption), by omega⟩ (saQ rfl) (slQ [2, 0, 0, 0] rfl)
   refine ntQ (fsQ rfl ?_)
   exact hq_meet2 nv ns ⟨nx_o0 hnx (by omega) (by omega) (by assumption), by omega⟩ (saQ rfl) (slQ [1, 0, 0, 0] rfl)
  intro nv ns hm41
  obtain ⟨hns, hnlf⟩ := hm41
  have hnl : ns.length ≤ 3 := by rw [hns]; exact nxL_len _ _ _ _
  refine zbh 1 rfl (zba ?_)
  refine lkQ4 (α := Nat) (β := List Int) (γ := List Int) (δ := Value) [0, 1, 2, 3, 4, 8, 9, 10, 16, 17, 18, 28, 37, 92] rfl (fun i6 bs4 qs4 qv4 => [rowE 3 1 nv ns.length (ns.map (Value.int .i64)), rowE 3 1 qv4 qs4.length (qs4.map (Value.int .i64)), rowE 3 1 bv bs4.length (bs4.map (Value.int .i64)), boxE b1 #[.int .i64 n.ins, n.sv, n.av, n.ov] 28]) (fun i6 bs4 qs4 qv4 => [(11, qv4), (21, .int .i64 (i6 : Int))]) (fun i6 bs4 qs4 qv4 => i6 ≤ ns.length ∧ SrSi n node hh ls us ds ab fv bs4 qs4 q (qs3.getD q 0) i6) (fun i6 bs4 qs4 qv4 => ns.length - i6) 0 bs3 qs3 _ ⟨Nat.zero_le _, SrSi.start hss (by omega)⟩ (saQ rfl) (pfQ rfl) ?_
  intro i6 bs4 qs4 qv4 hi42
  obtain ⟨hi6, hsj⟩ := hi42
  have hbl4 := hsj.b.s.len
  have hql4 := hsj.b.s.qlen
  have hq4 := hsj.lt
  refine zaa (zaa (reQ 2 rfl (hvQ rfl (lnQ rfl rfl rfl (zad 0 rfl)) ?_)))
  refine zbr rfl rfl rfl rfl rfl rfl (fun h43 => ?_) (fun h43 => ?_)
  ·
   refine ntQ (zaq rfl (zcw (sbQ (srQ ?_))))
   have hni := hsj.rng cx (i := i6) (by rw [← hns]; omega)
   rw [← hns] at hni
   refine zab 3 rfl (hvQ rfl (riQ 1 rfl rfl rfl rfl (zad 0 rfl)) (hvQ rfl (liQ rfl rfl rfl (zad 0 rfl)) (hvQ rfl (riQ 1 rfl rfl rfl rfl (zad 2 rfl)) (hvQ rfl (lzQ rfl rfl rfl (zad 2 rfl)) ?_))))
   refine zcj rfl rfl rfl rfl rfl rfl (fun h44 => ?_) (fun h44 => ?_)
   ·
    refine ntQ (zaq rfl (zaa ?_))
    refine zbl 10 [[], [], [], [1, 2], [3], [], [], [5, 6], [7], [0, 4]] [181, 182, 183, 184, 185, 186, 187, 188, 189, 190] [bv, nv, .int .i64 (i6 : Int), elP nv (((i6 : Int)).toNat * 1), .int .i64 (ns.getD i6 0), qv4, .int .i64 (q : Int), elP qv4 (((q : Int)).toNat * 1), .int .i64 (qs4.getD q 0), elP bv ((ns.getD i6 0).toNat * 1)] (by kernel_rfl) rfl ?_ ?_
    ·
     exact ⟨iaQ rfl (zae rfl) rfl, iaQ rfl (zae rfl) rfl, iaQ rfl (zae rfl) rfl, iaQ rfl (riQ 1 rfl rfl rfl rfl (zad 0 rfl)) rfl, iaQ rfl (liQ rfl rfl rfl (zad 0 rfl)) rfl, iaQ rfl (zae rfl) rfl, iaQ rfl (zae rfl) rfl, iaQ rfl (riQ 1 rfl rfl rfl rfl (zad 1 rfl)) rfl, iaQ rfl (liQ rfl rfl rfl (zad 1 rfl)) rfl, iaQ rfl (riQ 1 rfl rfl rfl rfl (zad 2 rfl)) rfl, trivial⟩
    simp only [List.drop_succ_cons, List.drop_zero]
    refine zdh (i := 2) (n' := (bs4.set ((ns.getD i6 0).toNat) (qs4.getD q 0)).length) (xs' := ((bs4.set ((ns.getD i6 0).toNat) (qs4.getD q 0)).map (Value.int .i64))) rfl rfl rfl rfl rfl rfl rfl rfl (by first | omega | (simp only [List.length_set]; omega)) List.length_set.symm (zeg _ _ _) rfl (ntQ (reQ 3 rfl (hvQ rfl (riQ 1 rfl rfl rfl rfl (zad 0 rfl)) (hvQ rfl (liQ rfl rfl rfl (zad 0 rfl)) ?_))))
    refine zea rfl (zaw (z := .int .i64 0) (s := 1) (cs := ([ns.getD i6 0].map (Value.int .i64))) rfl Try.underlying26 rfl (by decide) rfl (by kernel_rfl) rfl) ?_
    intro g45
    refine zck (i := 2) (z := .int .i64 0) (bytes := 8) rfl rfl rfl rfl Try.underlying26 (by kernel_rfl) rfl rfl rfl rfl (zad 0 rfl) (zca _) (by first | omega | (simp; done) | (simp; omega)) (zcc qs4 ([ns.getD i6 0])) (zcv qs4 ([ns.getD i6 0])) (fun _ => rfl) ?_
    intro v46
    refine enQ 1 rfl (zdk (reQ 1 rfl (hvQ rfl (vaQ rfl rfl rfl) (enQ 1 rfl ?_))))
    exact zbe (i6 + 1) (bs4.set ((ns.getD i6 0).toNat) (qs4.getD q 0)) (qs4 ++ ([ns.getD i6 0])) v46 ⟨by omega, (by have h9 := hsj.put cx (i := i6) (by rw [← hns]; omega) (by rw [← hns]; assumption); rw [← hns] at h9; rw [hsj.at_]; exact h9)⟩ (by omega) (saQ rfl) (slQ [1, 0, 0, 0] rfl)
   refine ntQ (fsQ rfl (zdk (reQ 1 rfl (hvQ rfl (vaQ rfl rfl rfl) (enQ 1 rfl ?_)))))
   exact zbe (i6 + 1) bs4 qs4 qv4 ⟨by omega, (hsj.skip cx (by rw [← hns]; omega) (by rw [← hns]; assumption))⟩ (by omega) (saQ rfl) (pfQ rfl)
  refine ntQ (zao rfl ?_)
  refine zbi (zep ?_)
  refine zal (zdk (reQ 1 rfl (hvQ rfl (vaQ rfl rfl rfl) (enQ 1 rfl ?_))))
  exact zbe (q + 1) bs4 qs4 qv4 ⟨by have := hsj.lt; omega, hsj.done (by rw [← hns]; omega) hnlf⟩ (by omega) (saQ rfl) (slQ [1, 0, 0] rfl)
 refine ntQ (zao rfl ?_)
 refine zbi (zep ?_)
 refine zal (zaj (zbh 3 rfl ?_))
 exact zax (zdl (rs := [.tmp 8, .tmp 9]) (vs := [bv, .int .i64 (-1)]) (post := [rowE 3 1 bv bs3.length (bs3.map (Value.int .i64))]) rfl ⟨rfl, rfl, trivial⟩ rfl (slQ [1] rfl) ⟨bs3, _, _, rfl, rfl, ⟨hss.s.len, .inl ⟨rfl, hss.rchd cx (by omega)⟩⟩⟩)
open Go.RowKit
theorem rankS_dec {r : Nat → Nat} {a a' : Int} (h0 : 0 ≤ a) (h : 0 ≤ a' → r a'.toNat < r a.toNat) : (if 0 ≤ a' then r a'.toNat + 1 else 0) < (if 0 ≤ a then r a.toNat + 1 else 0) := by
  rw [if_pos h0]; split
  · have := h (by assumption); omega
  · omega
def UpI (n : Nt) (node h : Int) (ls cs : List Int) (us : List Bl) (i : Nat) : Prop := us.length = n.cnt.toNat ∧ ∀ k : Int, 0 ≤ k → k < n.cnt → (upB us k ↔ k ∈ cs.take i ∧ (k = node ∨ h ≤ lbI ls k))
theorem UpI.start (n : Nt) (node h : Int) (ls cs : List Int) : UpI n node h ls cs (List.replicate n.cnt.toNat bl0) 0 := ⟨by rw [List.length_replicate], fun k h0 h1 => ⟨fun hu => (by unfold upB at hu; rw [getD_rep' (by omega)] at hu; cases hu), fun hu => (by have h9 := hu.1; rw [List.take_zero] at h9; cases h9)⟩⟩
theorem UpI.step {n : Nt} {node h : Int} {ls cs : List Int} {us : List Bl} {i : Nat} (hu : UpI n node h ls cs us i) (hi : i < cs.length) (hc : 0 ≤ cs.getD i 0 ∧ cs.getD i 0 < n.cnt) {e : Bl} (he : e.b = true ↔ (cs.getD i 0 = node ∨ h ≤ lbI ls (cs.getD i 0))) : UpI n node h ls cs (us.set (cs.getD i 0).toNat e) (i + 1) := by
  refine ⟨by rw [List.length_set]; exact hu.1, fun k h0 h1 => ?_⟩
  rw [zdi 0 hi, List.mem_append, List.mem_singleton]
  by_cases c : k = cs.getD i 0
  · subst c
    unfold upB
    rw [zbn (by have := hu.1; omega), he]
    exact ⟨fun q => ⟨.inr rfl, q⟩, fun q => q.2⟩
  · unfold upB
    rw [zga (by omega)]
    have := hu.2 k h0 h1
    unfold upB at this
    rw [this]
    exact ⟨fun q => ⟨.inl q.1, q.2⟩, fun q => ⟨q.1.resolve_right c, q.2⟩⟩
theorem UpI.done {n : Nt} (hn : NtOk n) {node h : Int} {ls : List Int} {us : List Bl} {i : Nat} (h0 : 0 ≤ node) (h1 : node < n.cnt) (hu : UpI n node h ls (coneS n node) us i) (hi : (coneS n node).length ≤ i) : UpOk n node h ls us := fun k k0 k1 => by
  rw [hu.2 k k0 k1, List.take_of_length_le hi, coneS_mem hn h0 h1]
theorem up_leaf {n : Nt} {node h : Int} {ls : List Int} {us : List Bl} (hm : MonL n node h ls) (hn : NtOk n) (hu : UpOk n node h ls us) {k : Nat} (hk : (k : Int) < n.fst) : (us.getD k bl0).b = false := by
  have h1 := hm.nd
  have h2 := hm.h1
  have hc : n.cnt = n.fst + n.gs.length := by unfold Nt.cnt Nt.fst; omega
  cases e : (us.getD k bl0).b with
  | false => rfl
  | true =>
    rcases ((hu k (by omega) (by omega)).1 (upB_yes e)).2 with q | q
    · omega
    · rw [hm.leaf k (by omega) hk] at q; omega
theorem SrOut.yes {n : Nt} {node h : Int} {ls : List Int} {us ds : List Bl} {ab : List Int} {v : Int} (cx : SrCtx n node h ls us ds ab v) {bs : List Int} {at_ : Int} (hs : SrOut n node h ls us ds ab v bs at_) (hat : at_ < 0) (hv : v ≤ 4) : SepEx n ls node h := by
  rcases hs.2 with ⟨-, R, h1, h2⟩ | ⟨h1, -⟩
  · obtain ⟨C, h3, h4⟩ := cx.cut h1 h2
    exact ⟨C, by omega, h4⟩
  · omega
theorem SrCtx.no {n : Nt} {node h : Int} {ls : List Int} {us ds : List Bl} {ab : List Int} {v : Int} (cx : SrCtx n node h ls us ds ab v) (hv : 5 ≤ v) : ¬ SepEx n ls node h := by
  rintro ⟨C, h1, h2⟩
  have := cx.weak h2; omega
theorem tr_to {n : Nt} {node h : Int} {ls : List Int} {us : List Bl} {bs : List Int} {r : Nat → Nat} {ds ds' : List Bl} {ab ab' : List Int} {v a : Int} (h1 : TrS n node h ls us bs r ds ab v a) (e1 : ds = ds') (e2 : ab = ab') : TrS n node h ls us bs r ds' ab' v a := e1 ▸ e2 ▸ h1
theorem dsN_eq {d2 d3 d4 : List Bl} {a fr : Int} (e3 : d3 = (if a % 2 = 1 ∧ fr = a - 1 then d2.set (a / 2).toNat ⟨true⟩ else d2)) (e4 : d4 = (if a % 2 = 0 ∧ fr = a + 1 then d3.set (a / 2).toNat ⟨false⟩ else d3)) : dsN d2 a fr = d4 := by
  unfold dsN
  by_cases c1 : a % 2 = 1 ∧ fr = a - 1
  · rw [if_pos c1] at *; rw [e4, if_neg (by omega), e3]
  · rw [if_neg c1] at *; subst e3; exact e4.symm
theorem abN_eq {d2 d3 d4 : List Int} {a fr : Int} (e3 : d3 = (if a % 2 = 0 ∧ fr = -1 then d2.set (a / 2).toNat (-1) else d2)) (e4 : d4 = (if a % 2 = 0 ∧ 0 ≤ fr ∧ fr ≠ a + 1 then d3.set (a / 2).toNat (fr / 2) else d3)) : abN d2 a fr = d4 := by
  unfold abN
  by_cases c1 : a % 2 = 0 ∧ fr = -1
  · rw [if_pos c1] at *; rw [e4, if_neg (by omega), e3]
  · rw [if_neg c1] at *; subst e3; exact e4.symm
theorem monL_set {n : Nt} (hn : NtOk n) {k p : Int} {ls : List Int} (hL : LabL n k ls) (h0 : n.fst ≤ k) (h1 : k < n.cnt) (hp : 1 ≤ p) (x : Int) : MonL n k p (ls.set k.toNat x) := by
  have hf : 1 ≤ n.fst := by have := hn.i0; unfold Nt.fst; omega
  refine ⟨⟨h0, h1⟩, hp, fun j j0 j1 => ?_, fun j j0 j1 => ?_⟩
  · rw [zfd j0 (by omega) (by omega)]; exact hL.leaf j j0 j1 (by omega)
  · obtain ⟨o1, o2, o3, o4, o5⟩ := zfv hn j0 (by omega)
    rw [zfd o2 (by omega) (by omega), zfd o4 (by omega) (by omega), zfd (by omega) (by omega) (by omega)]
    exact hL.kids j0 j1
theorem sep_set {n : Nt} {k h : Int} {ls : List Int} (h0 : 0 ≤ k) (x : Int) : SepEx n (ls.set k.toNat x) k h ↔ SepEx n ls k h := zgc fun j j0 j1 => (zfd j0 h0 (by omega)).symm
theorem lab_p0 {n : Nt} (hn : NtOk n) {k p : Int} {ls : List Int} (hL : LabL n k ls) (h0 : n.fst ≤ k) (h1 : k < n.cnt) (hl : (ls.length : Int) = n.cnt) (hp : p = max (lbI ls (kdA n k)) (lbI ls (kdB n k))) (hz : p ≤ 0) : LabL n (k + 1) (ls.set k.toNat (p + 1)) := by
  obtain ⟨o1, o2, o3, o4, o5⟩ := zfv hn h0 h1
  have hA := (hL.nn hn o2 o3).1
  have hB := (hL.nn hn o4 o5).1
  refine hL.step hn h0 h1 hl (.inl ⟨by unfold mxL; omega, ?_⟩)
  rw [show mxL n ls k = 1 by unfold mxL; omega]
  exact sep_kids hn h0 h1 (by omega) (by omega)
theorem lab_p1 {n : Nt} (hn : NtOk n) {k p : Int} {ls : List Int} (hL : LabL n k ls) (h0 : n.fst ≤ k) (h1 : k < n.cnt) (hl : (ls.length : Int) = n.cnt) (hp : p = max (lbI ls (kdA n k)) (lbI ls (kdB n k))) (hz : 0 < p) (x : Int) (hs : SepEx n (ls.set k.toNat x) k p) : LabL n (k + 1) ((ls.set k.toNat (p + 1)).set k.toNat p) := by
  obtain ⟨o1, o2, o3, o4, o5⟩ := zfv hn h0 h1
  rw [List.set_set]
  refine hL.step hn h0 h1 hl (.inl ⟨by unfold mxL; omega, ?_⟩)
  rw [show mxL n ls k = p by unfold mxL; omega]
  exact (sep_set (by omega) x).1 hs
theorem lab_p2 {n : Nt} (hn : NtOk n) {k p : Int} {ls : List Int} (hL : LabL n k ls) (h0 : n.fst ≤ k) (h1 : k < n.cnt) (hl : (ls.length : Int) = n.cnt) (hp : p = max (lbI ls (kdA n k)) (lbI ls (kdB n k))) (hz : 0 < p) (x : Int) (hs : ¬ SepEx n (ls.set k.toNat x) k p) : LabL n (k + 1) (ls.set k.toNat (p + 1)) := by
  obtain ⟨o1, o2, o3, o4, o5⟩ := zfv hn h0 h1
  refine hL.step hn h0 h1 hl (.inr ⟨by unfold mxL; omega, ?_⟩)
  rw [show mxL n ls k = p by unfold mxL; omega]
  exact fun q => hs ((sep_set (by omega) x).2 q)
theorem LabL.small {n : Nt} (hn : NtOk n) {m : Int} {ls : List Int} (hL : LabL n m ls) (hm : m ≤ n.cnt) : ∀ (f : Nat) (k : Int), k.toNat < f → 0 ≤ k → k < m → lbI ls k ≤ k
  | 0, _, hf, _, _ => absurd hf (by omega)
  | f + 1, k, hf, h0, hk => by
    by_cases c : n.fst ≤ k
    · obtain ⟨o1, o2, o3, o4, o5⟩ := zfv hn c (by omega)
      have hA := hL.small hn hm f _ (show (kdA n k).toNat < f by omega) o2 (by omega)
      have hB := hL.small hn hm f _ (show (kdB n k).toNat < f by omega) o4 (by omega)
      by_cases q : mxL n ls k = 1
      · rcases hL.and_ k c hk with ⟨e, -⟩ | ⟨e, e2⟩
        · rw [e]; omega
        · by_cases k1 : k = 1
          · -- both fan-ins are node 0
            exfalso
            apply e2
            rw [q]
            have hAz : kdA n k = 0 := by omega
            have hBz : kdB n k = 0 := by omega
            have hl0 : lbI ls 0 = 0 := hL.leaf 0 (by omega) (by omega) (by omega)
            exact sep_kids hn c (by omega) (by rw [hAz]; omega) (by rw [hBz]; omega)
          · rw [e]; omega
      · rcases hL.and_ k c hk with ⟨e, -⟩ | ⟨e, -⟩ <;> (rw [e]; unfold mxL at *; omega)
    · rw [hL.leaf k h0 (by omega) hk]; exact h0
theorem l17CutS_ret (n : Nt) (ls : List Int) (lv : Value) (node hh : Int) (w : World) (hr : RdsNt w n) (hn : NtOk n) (hl : RdsW w lv 1 ls.length (ls.map (Value.int .i64))) (hll : (ls.length : Int) = n.cnt) (hmo : MonL n node hh ls) :
   Calls Try.prog 21 #[.agg #[.int .i64 n.ins, n.sv, n.av, n.ov], lv, .int .i64 node, .int .i64 hh] w (Ret w (fun u_ p_ => ∃ (xs : List Int) (cv : Value) (okb : Bool), u_ = .tuple #[cv, .bool okb] ∧ p_ = [rowE 3 1 cv xs.length (xs.map (Value.int .i64))] ∧ okb = pBc (SepEx n ls node hh))) := by
 have hi0 := hn.i0
 have hi1 := hn.i1
 have hs1 := hn.s1
 have ha1 := hn.a1
 have ho1 := hn.o1
 have hcnt : n.cnt = 1 + n.ins + n.ss.length + n.gs.length := rfl
 have hfst : n.fst = 1 + n.ins + n.ss.length := rfl
 have hnd := hmo.nd
 refine zbg (N := 178) (args := [.agg #[.int .i64 n.ins, n.sv, n.av, n.ov], lv, .int .i64 node, .int .i64 hh]) Try.func21 rfl rfl (srQ ?_)
 refine zei rfl (zco rfl rfl) ?_
 intro b1
 refine zbb 2 rfl (srQ (hvQ rfl (zaf (cs := [.int .i64 n.ins, n.sv, n.av, n.ov]) rfl rfl rfl rfl rfl (zag 0 rfl 0 rfl)) (zab 1 rfl ?_)))
 refine hl_q rfl rfl rfl (zas rfl rfl (fun w hm => Cone_ret n node w (hr.below hm.bel) hn (by omega))) ?_
 intro v2 p3 hR4
 subst hR4
 have hcr := coneS_rng hn (node := node) (by omega)
 have hcl := coneS_len n node (by omega)
 refine zbb 1 rfl (srQ (hvQ rfl (zaf (cs := [.int .i64 n.ins, n.sv, n.av, n.ov]) rfl rfl rfl rfl rfl (zag 1 rfl 0 rfl)) ?_))
 refine zdw rfl (zas rfl rfl (fun w hm => zaz (zbk n w (hr.below hm.bel) hn))) (zea rfl (zff (z := .bool false) (s := 1) (bytes := 1) (n := (List.replicate (n.cnt).toNat bl0).length) (cs := ((List.replicate (n.cnt).toNat bl0).flatMap blC)) rfl Try.underlying62 rfl (by decide) rfl rfl (by first | (rw [List.length_replicate]; done) | (rw [List.length_replicate]; omega)) (by first | (rw [List.length_replicate]; done) | (rw [List.length_replicate]; omega)) (by rw [List.length_replicate]; omega) (zfh blC 1 (fun _ => rfl) bl0 _ rfl (n.cnt).toNat)) ?_)
 intro g5
 refine zbb 1 rfl (zaa (zbh 1 rfl (zba ?_)))
 refine lkQ2 (α := Nat) (β := List Bl) [0, 1, 2, 3, 4, 8, 9, 10, 11] rfl (fun i us => [rowE 4 1 (.slice (some ⟨g5, 0, none⟩) ((List.replicate (n.cnt).toNat bl0).length) ((List.replicate (n.cnt).toNat bl0).length)) us.length (us.flatMap blC), rowE 3 1 v2 ((coneS n node).length) ((coneS n node).map (Value.int .i64)), boxE b1 #[.int .i64 n.ins, n.sv, n.av, n.ov] 28]) (fun i us => [(12, .int .i64 (i : Int))]) (fun i us => i ≤ (coneS n node).length ∧ UpI n node hh ls (coneS n node) us i) (fun i us => (coneS n node).length - i) 0 _ ⟨Nat.zero_le _, UpI.start n node hh ls _⟩ (saQ rfl) (pfQ rfl) ?_
 intro i us hi6
 obtain ⟨hi, hui⟩ := hi6
 have hul := hui.1
 refine zaa (zaa (reQ 2 rfl (hvQ rfl (lnQ rfl rfl rfl (zad 1 rfl)) ?_)))
 refine zbr rfl rfl rfl rfl rfl rfl (fun h7 => ?_) (fun h7 => ?_)
 ·
  refine ntQ (zaq rfl (zcw (sbQ ?_)))
  have hci := hcr _ (zbj (d := (0 : Int)) (show i < (coneS n node).length by omega))
  rcases Bool.eq_false_or_eq_true (((coneS n node).getD i 0) == node) with hb8 | hb8
  ·
   have hb8p : (coneS n node).getD i 0 = node := beq_iff_eq.1 hb8
   have hci := hcr _ (zbj (d := (0 : Int)) (show i < (coneS n node).length by omega))
   refine zbl 23 [[], [], [], [1, 2], [3], [], [], [5, 6], [7], [], [8, 9], [10], [11], [11], [11], [11], [11], [11], [11], [11], [11], [11, 20], [0, 4]] [35, 36, 37, 38, 39, 40, 41, 42, 43, 44, 45, 46, 47, 48, 49, 50, 51, 52, 53, 54, 55, 56, 57] [.slice (some ⟨g5, 0, none⟩) ((List.replicate (n.cnt).toNat bl0).length) ((List.replicate (n.cnt).toNat bl0).length), v2, .int .i64 (i : Int), elP v2 (((i : Int)).toNat * 1), .int .i64 ((coneS n node).getD i 0), v2, .int .i64 (i : Int), elP v2 (((i : Int)).toNat * 1), .int .i64 ((coneS n node).getD i 0), .int .i64 node, .bool true, .bool true, undef, undef, undef, undef, undef, undef, undef, undef, undef, .bool true, elP (.slice (some ⟨g5, 0, none⟩) ((List.replicate (n.cnt).toNat bl0).length) ((List.replicate (n.cnt).toNat bl0).length)) (((coneS n node).getD i 0).toNat * 1)] (by kernel_rfl) rfl ?_ ?_
   ·
    exact ⟨iaQ rfl (zae rfl) rfl, iaQ rfl (zae rfl) rfl, iaQ rfl (zae rfl) rfl, iaQ rfl (riQ 1 rfl rfl rfl rfl (zad 1 rfl)) rfl, iaQ rfl (zav (u := .int .i64 ((coneS n node).getD i 0)) rfl rfl rfl (zad 1 rfl) (zcr (show _ < (coneS n node).length by omega))) rfl, iaQ rfl (zae rfl) rfl, iaQ rfl (zae rfl) rfl, iaQ rfl (riQ 1 rfl rfl rfl rfl (zad 1 rfl)) rfl, iaQ rfl (zav (u := .int .i64 ((coneS n node).getD i 0)) rfl rfl rfl (zad 1 rfl) (zcr (show _ < (coneS n node).length by omega))) rfl, iaQ rfl (zae rfl) rfl, .inl ⟨rfl, zcq (zbo rfl rfl rfl rfl) hb8⟩, iaQ rfl (zae rfl) rfl, .inr ⟨rfl, rfl⟩, .inr ⟨rfl, rfl⟩, .inr ⟨rfl, rfl⟩, .inr ⟨rfl, rfl⟩, .inr ⟨rfl, rfl⟩, .inr ⟨rfl, rfl⟩, .inr ⟨rfl, rfl⟩, .inr ⟨rfl, rfl⟩, .inr ⟨rfl, rfl⟩, iaQ rfl (zae rfl) rfl, iaQ rfl (riQ 1 rfl rfl rfl rfl (zad 0 rfl)) rfl, trivial⟩
   simp only [List.drop_succ_cons, List.drop_zero]
   refine zdh (i := 0) (n' := (us.set (((coneS n node).getD i 0).toNat) { us.getD (((coneS n node).getD i 0).toNat) bl0 with b := true }).length) rfl rfl rfl rfl rfl rfl rfl rfl (by first | omega | (simp only [List.length_set]; omega)) List.length_set.symm (zdb blC (fun r => .bool r.b) (fun _ => rfl) _ ({ us.getD (((coneS n node).getD i 0).toNat) bl0 with b := true }) rfl) rfl (zay (zdk (reQ 1 rfl (hvQ rfl (vaQ rfl rfl rfl) (enQ 1 rfl ?_)))))
   exact zch (i + 1) (us.set (((coneS n node).getD i 0).toNat) { us.getD (((coneS n node).getD i 0).toNat) bl0 with b := true }) ⟨by omega, hui.step (by omega) (by omega) (by first | exact ⟨fun _ => .inl (by omega), fun _ => rfl⟩ | exact ⟨fun _ => .inr (by first | assumption | omega), fun _ => rfl⟩ | exact ⟨fun h => absurd h Bool.false_ne_true, fun h => absurd h (by rintro (q | q); (omega); (have q2 : hh ≤ ls.getD ((coneS n node).getD i 0).toNat 0 := q; omega))⟩)⟩ (by omega) (saQ rfl) (pfQ rfl)
  have hb8p : (coneS n node).getD i 0 ≠ node := beq_eq_false_iff_ne.1 hb8
  have hci := hcr _ (zbj (d := (0 : Int)) (show i < (coneS n node).length by omega))
  rcases Bool.eq_false_or_eq_true (decide (hh ≤ ls.getD (((coneS n node).getD i 0).toNat) 0)) with hb9 | hb9
  ·
   have hb9p : hh ≤ ls.getD (((coneS n node).getD i 0).toNat) 0 := of_decide_eq_true hb9
   have hci := hcr _ (zbj (d := (0 : Int)) (show i < (coneS n node).length by omega))
   refine zbl 23 [[], [], [], [1, 2], [3], [], [], [5, 6], [7], [], [8, 9], [10], [11], [11], [11], [11, 13, 14], [11, 15], [11, 12, 16], [11, 17], [11], [11, 18, 19], [11, 20], [0, 4]] [35, 36, 37, 38, 39, 40, 41, 42, 43, 44, 45, 46, 47, 48, 49, 50, 51, 52, 53, 54, 55, 56, 57] [.slice (some ⟨g5, 0, none⟩) ((List.replicate (n.cnt).toNat bl0).length) ((List.replicate (n.cnt).toNat bl0).length), v2, .int .i64 (i : Int), elP v2 (((i : Int)).toNat * 1), .int .i64 ((coneS n node).getD i 0), v2, .int .i64 (i : Int), elP v2 (((i : Int)).toNat * 1), .int .i64 ((coneS n node).getD i 0), .int .i64 node, .bool false, .bool false, lv, v2, .int .i64 (i : Int), elP v2 (((i : Int)).toNat * 1), .int .i64 ((coneS n node).getD i 0), elP lv (((coneS n node).getD i 0).toNat * 1), .int .i64 (ls.getD (((coneS n node).getD i 0).toNat) 0), .int .i64 hh, .bool true, .bool true, elP (.slice (some ⟨g5, 0, none⟩) ((List.replicate (n.cnt).toNat bl0).length) ((List.replicate (n.cnt).toNat bl0).length)) (((coneS n node).getD i 0).toNat * 1)] (by kernel_rfl) rfl ?_ ?_
   ·
    exact ⟨iaQ rfl (zae rfl) rfl, iaQ rfl (zae rfl) rfl, iaQ rfl (zae rfl) rfl, iaQ rfl (riQ 1 rfl rfl rfl rfl (zad 1 rfl)) rfl, iaQ rfl (zav (u := .int .i64 ((coneS n node).getD i 0)) rfl rfl rfl (zad 1 rfl) (zcr (show _ < (coneS n node).length by omega))) rfl, iaQ rfl (zae rfl) rfl, iaQ rfl (zae rfl) rfl, iaQ rfl (riQ 1 rfl rfl rfl rfl (zad 1 rfl)) rfl, iaQ rfl (zav (u := .int .i64 ((coneS n node).getD i 0)) rfl rfl rfl (zad 1 rfl) (zcr (show _ < (coneS n node).length by omega))) rfl, iaQ rfl (zae rfl) rfl, .inl ⟨rfl, zcq (zbo rfl rfl rfl rfl) hb8⟩, iaQ rfl (zae rfl) rfl, iaQ rfl (zae rfl) rfl, iaQ rfl (zae rfl) rfl, iaQ rfl (zae rfl) rfl, iaQ rfl (riQ 1 rfl rfl rfl rfl (zad 1 rfl)) rfl, iaQ rfl (zav (u := .int .i64 ((coneS n node).getD i 0)) rfl rfl rfl (zad 1 rfl) (zcr (show _ < (coneS n node).length by omega))) rfl, iaQ rfl (riQ 1 rfl rfl rfl rfl (zac hl)) rfl, iaQ rfl (lzQ rfl rfl rfl (zac hl)) rfl, iaQ rfl (zae rfl) rfl, .inl ⟨rfl, zcq (zbo rfl rfl rfl rfl) hb9⟩, iaQ rfl (zae rfl) rfl, iaQ rfl (riQ 1 rfl rfl rfl rfl (zad 0 rfl)) rfl, trivial⟩
   simp only [List.drop_succ_cons, List.drop_zero]
   refine zdh (i := 0) (n' := (us.set (((coneS n node).getD i 0).toNat) { us.getD (((coneS n node).getD i 0).toNat) bl0 with b := true }).length) rfl rfl rfl rfl rfl rfl rfl rfl (by first | omega | (simp only [List.length_set]; omega)) List.length_set.symm (zdb blC (fun r => .bool r.b) (fun _ => rfl) _ ({ us.getD (((coneS n node).getD i 0).toNat) bl0 with b := true }) rfl) rfl (zay (zdk (reQ 1 rfl (hvQ rfl (vaQ rfl rfl rfl) (enQ 1 rfl ?_)))))
   exact zch (i + 1) (us.set (((coneS n node).getD i 0).toNat) { us.getD (((coneS n node).getD i 0).toNat) bl0 with b := true }) ⟨by omega, hui.step (by omega) (by omega) (by first | exact ⟨fun _ => .inl (by omega), fun _ => rfl⟩ | exact ⟨fun _ => .inr (by first | assumption | omega), fun _ => rfl⟩ | exact ⟨fun h => absurd h Bool.false_ne_true, fun h => absurd h (by rintro (q | q); (omega); (have q2 : hh ≤ ls.getD ((coneS n node).getD i 0).toNat 0 := q; omega))⟩)⟩ (by omega) (saQ rfl) (pfQ rfl)
  have hb9p : ¬ (hh ≤ ls.getD (((coneS n node).getD i 0).toNat) 0) := of_decide_eq_false hb9
  have hci := hcr _ (zbj (d := (0 : Int)) (show i < (coneS n node).length by omega))
  refine zbl 23 [[], [], [], [1, 2], [3], [], [], [5, 6], [7], [], [8, 9], [10], [11], [11], [11], [11, 13, 14], [11, 15], [11, 12, 16], [11, 17], [11], [11, 18, 19], [11, 20], [0, 4]] [35, 36, 37, 38, 39, 40, 41, 42, 43, 44, 45, 46, 47, 48, 49, 50, 51, 52, 53, 54, 55, 56, 57] [.slice (some ⟨g5, 0, none⟩) ((List.replicate (n.cnt).toNat bl0).length) ((List.replicate (n.cnt).toNat bl0).length), v2, .int .i64 (i : Int), elP v2 (((i : Int)).toNat * 1), .int .i64 ((coneS n node).getD i 0), v2, .int .i64 (i : Int), elP v2 (((i : Int)).toNat * 1), .int .i64 ((coneS n node).getD i 0), .int .i64 node, .bool false, .bool false, lv, v2, .int .i64 (i : Int), elP v2 (((i : Int)).toNat * 1), .int .i64 ((coneS n node).getD i 0), elP lv (((coneS n node).getD i 0).toNat * 1), .int .i64 (ls.getD (((coneS n node).getD i 0).toNat) 0), .int .i64 hh, .bool false, .bool false, elP (.slice (some ⟨g5, 0, none⟩) ((List.replicate (n.cnt).toNat bl0).length) ((List.replicate (n.cnt).toNat bl0).length)) (((coneS n node).getD i 0).toNat * 1)] (by kernel_rfl) rfl ?_ ?_
  ·
   exact ⟨iaQ rfl (zae rfl) rfl, iaQ rfl (zae rfl) rfl, iaQ rfl (zae rfl) rfl, iaQ rfl (riQ 1 rfl rfl rfl rfl (zad 1 rfl)) rfl, iaQ rfl (zav (u := .int .i64 ((coneS n node).getD i 0)) rfl rfl rfl (zad 1 rfl) (zcr (show _ < (coneS n node).length by omega))) rfl, iaQ rfl (zae rfl) rfl, iaQ rfl (zae rfl) rfl, iaQ rfl (riQ 1 rfl rfl rfl rfl (zad 1 rfl)) rfl, iaQ rfl (zav (u := .int .i64 ((coneS n node).getD i 0)) rfl rfl rfl (zad 1 rfl) (zcr (show _ < (coneS n node).length by omega))) rfl, iaQ rfl (zae rfl) rfl, .inl ⟨rfl, zcq (zbo rfl rfl rfl rfl) hb8⟩, iaQ rfl (zae rfl) rfl, iaQ rfl (zae rfl) rfl, iaQ rfl (zae rfl) rfl, iaQ rfl (zae rfl) rfl, iaQ rfl (riQ 1 rfl rfl rfl rfl (zad 1 rfl)) rfl, iaQ rfl (zav (u := .int .i64 ((coneS n node).getD i 0)) rfl rfl rfl (zad 1 rfl) (zcr (show _ < (coneS n node).length by omega))) rfl, iaQ rfl (riQ 1 rfl rfl rfl rfl (zac hl)) rfl, iaQ rfl (lzQ rfl rfl rfl (zac hl)) rfl, iaQ rfl (zae rfl) rfl, .inl ⟨rfl, zcq (zbo rfl rfl rfl rfl) hb9⟩, iaQ rfl (zae rfl) rfl, iaQ rfl (riQ 1 rfl rfl rfl rfl (zad 0 rfl)) rfl, trivial⟩
  simp only [List.drop_succ_cons, List.drop_zero]
  refine zdh (i := 0) (n' := (us.set (((coneS n node).getD i 0).toNat) { us.getD (((coneS n node).getD i 0).toNat) bl0 with b := false }).length) rfl rfl rfl rfl rfl rfl rfl rfl (by first | omega | (simp only [List.length_set]; omega)) List.length_set.symm (zdb blC (fun r => .bool r.b) (fun _ => rfl) _ ({ us.getD (((coneS n node).getD i 0).toNat) bl0 with b := false }) rfl) rfl (zay (zdk (reQ 1 rfl (hvQ rfl (vaQ rfl rfl rfl) (enQ 1 rfl ?_)))))
  exact zch (i + 1) (us.set (((coneS n node).getD i 0).toNat) { us.getD (((coneS n node).getD i 0).toNat) bl0 with b := false }) ⟨by omega, hui.step (by omega) (by omega) (by first | exact ⟨fun _ => .inl (by omega), fun _ => rfl⟩ | exact ⟨fun _ => .inr (by first | assumption | omega), fun _ => rfl⟩ | exact ⟨fun h => absurd h Bool.false_ne_true, fun h => absurd h (by rintro (q | q); (omega); (have q2 : hh ≤ ls.getD ((coneS n node).getD i 0).toNat 0 := q; omega))⟩)⟩ (by omega) (saQ rfl) (pfQ rfl)
 refine ntQ (zao rfl ?_)
 refine zbi (zep ?_)
 refine zal (zaj (srQ (hvQ rfl (zaf (cs := [.int .i64 n.ins, n.sv, n.av, n.ov]) rfl rfl rfl rfl rfl (zag 2 rfl 0 rfl)) ?_)))
 refine zdw rfl (zas rfl rfl (fun w hm => zaz (zbk n w (hr.below hm.bel) hn))) (zea rfl (zff (z := .bool false) (s := 1) (bytes := 1) (n := (List.replicate (n.cnt).toNat bl0).length) (cs := ((List.replicate (n.cnt).toNat bl0).flatMap blC)) rfl Try.underlying62 rfl (by decide) rfl rfl (by first | (rw [List.length_replicate]; done) | (rw [List.length_replicate]; omega)) (by first | (rw [List.length_replicate]; done) | (rw [List.length_replicate]; omega)) (by rw [List.length_replicate]; omega) (zfh blC 1 (fun _ => rfl) bl0 _ rfl (n.cnt).toNat)) ?_)
 intro g10
 refine zbb 1 rfl (srQ (hvQ rfl (zaf (cs := [.int .i64 n.ins, n.sv, n.av, n.ov]) rfl rfl rfl rfl rfl (zag 3 rfl 0 rfl)) ?_))
 refine zdw rfl (zas rfl rfl (fun w hm => zaz (zbk n w (hr.below hm.bel) hn))) (zea rfl (zff (z := .int .i64 0) (s := 1) (bytes := 8) (n := (List.replicate (n.cnt).toNat (0 : Int)).length) (cs := ((List.replicate (n.cnt).toNat (0 : Int)).map (Value.int .i64))) rfl Try.underlying26 rfl (by decide) rfl rfl (by first | (rw [List.length_replicate]; done) | (rw [List.length_replicate]; omega)) (by first | (rw [List.length_replicate]; done) | (rw [List.length_replicate]; omega)) (by rw [List.length_replicate]; omega) (ints_make _)) ?_)
 intro g11
 refine zbb 1 rfl (srQ ?_)
 refine zea rfl (zcl (s := 1) rfl Try.underlying26 rfl) ?_
 intro g12
 refine zbb 1 rfl (zaa (zbh 1 rfl (zba ?_)))
 have hup := hui.done hn (by omega) (by omega) (by omega)
 refine lkQ1 (α := Nat) [0, 1, 2, 3, 4, 8, 9, 10, 11, 13, 14, 15, 32] rfl (fun k => [rowE 3 1 (.slice (some ⟨g12, 0, none⟩) 0 0) 0 ([]), rowE 3 1 (.slice (some ⟨g11, 0, none⟩) ((List.replicate (n.cnt).toNat (0 : Int)).length) ((List.replicate (n.cnt).toNat (0 : Int)).length)) ((List.replicate (n.cnt).toNat (0 : Int)).length) ((List.replicate (n.cnt).toNat (0 : Int)).map (Value.int .i64)), rowE 4 1 (.slice (some ⟨g10, 0, none⟩) ((List.replicate (n.cnt).toNat bl0).length) ((List.replicate (n.cnt).toNat bl0).length)) ((List.replicate (n.cnt).toNat bl0).length) ((List.replicate (n.cnt).toNat bl0).flatMap blC), rowE 4 1 (.slice (some ⟨g5, 0, none⟩) ((List.replicate (n.cnt).toNat bl0).length) ((List.replicate (n.cnt).toNat bl0).length)) us.length (us.flatMap blC), rowE 3 1 v2 ((coneS n node).length) ((coneS n node).map (Value.int .i64)), boxE b1 #[.int .i64 n.ins, n.sv, n.av, n.ov] 28]) (fun k => [(16, .int .i64 (k : Int))]) (fun k => (k : Int) ≤ n.fst) (fun k => n.fst.toNat - k) 0 (by omega) (saQ rfl) (pfQ rfl) ?_
 intro k hi13
 have hk := hi13
 refine zaa (zaa (reQ 1 rfl (hvQ rfl (zaf (cs := [.int .i64 n.ins, n.sv, n.av, n.ov]) rfl rfl rfl rfl rfl (zag 5 rfl 0 rfl)) ?_)))
 refine zdw rfl (zas rfl rfl (fun w hm => zaz (zcs n w (hr.below hm.bel) hn))) (zbr rfl rfl rfl rfl rfl rfl (fun h14 => ?_) (fun h14 => ?_))
 ·
  refine ntQ (zaq rfl (zcw (sbQ (zaa (reQ 2 rfl (hvQ rfl (riQ 1 rfl rfl rfl rfl (zad 3 rfl)) ?_))))))
  refine hvQ rfl (zav (u := .bool ((us.getD k bl0).b)) rfl rfl rfl (zad 3 rfl) (zbm blC (fun r => .bool r.b) (fun _ => rfl) us bl0 (show k < _ by omega))) (zbc (fun h15 => absurd (((up_leaf hmo hn hup (by omega))).symm.trans h15) (by decide)) (fun h15 => ?_))
  refine ntQ (fsQ rfl (zdk (reQ 1 rfl (hvQ rfl (vaQ rfl rfl rfl) (enQ 1 rfl ?_)))))
  exact zci (k + 1) (by omega) (by omega) (saQ rfl) (pfQ rfl)
 refine ntQ (zao rfl ?_)
 refine zbi (zep ?_)
 refine zal (zaj (zaa (zbh 1 rfl (zba ?_))))
 refine lkQ3 (α := Nat) (β := List Bl) (γ := List Int) [0, 1, 2, 3, 4, 8, 9, 10, 11, 13, 14, 15, 32, 68] rfl (fun f ds ab => [rowE 3 1 (.slice (some ⟨g12, 0, none⟩) 0 0) 0 ([]), rowE 3 1 (.slice (some ⟨g11, 0, none⟩) ((List.replicate (n.cnt).toNat (0 : Int)).length) ((List.replicate (n.cnt).toNat (0 : Int)).length)) ab.length (ab.map (Value.int .i64)), rowE 4 1 (.slice (some ⟨g10, 0, none⟩) ((List.replicate (n.cnt).toNat bl0).length) ((List.replicate (n.cnt).toNat bl0).length)) ds.length (ds.flatMap blC), rowE 4 1 (.slice (some ⟨g5, 0, none⟩) ((List.replicate (n.cnt).toNat bl0).length) ((List.replicate (n.cnt).toNat bl0).length)) us.length (us.flatMap blC), rowE 3 1 v2 ((coneS n node).length) ((coneS n node).map (Value.int .i64)), boxE b1 #[.int .i64 n.ins, n.sv, n.av, n.ov] 28]) (fun f ds ab => [(17, .int .i64 (f : Int))]) (fun f ds ab => f ≤ 5 ∧ SrCtx n node hh ls us ds ab (f : Int)) (fun f ds ab => 5 - f) 0 _ _ ⟨by omega, SrCtx.start hn hmo hup hul⟩ (saQ rfl) (pfQ rfl) ?_
 intro f ds ab hi16
 obtain ⟨hf, cx⟩ := hi16
 have hab := cx.ab_
 have hab1 := hab.1
 have hdl := cx.dl
 refine zaa (zaa (reQ 1 rfl ?_))
 refine hl_leq rfl rfl rfl rfl rfl rfl (fun h17 => ?_) (fun h17 => ?_)
 ·
  refine ntQ (zaq rfl (zcw (sbQ (srQ (hvQ rfl (zaf (cs := [.int .i64 n.ins, n.sv, n.av, n.ov]) rfl rfl rfl rfl rfl (zag 5 rfl 0 rfl)) (zab 3 rfl ?_))))))
  refine hl_q rfl rfl rfl (zas rfl rfl (fun w hm => SearchS_ret n node hh ls us ds ab (f : Int) _ _ _ w (hr.below hm.bel) hn cx ((zad 3 rfl) w hm) ((zad 2 rfl) w hm) ((zad 1 rfl) w hm))) ?_
  intro v18 p19 hR20
  obtain ⟨bs, bv, at1_o, rfl, rfl, hso⟩ := hR20
  have hbl := hso.1
  have hat0 : -1 ≤ at1_o ∧ at1_o < 2 * n.cnt := by rcases hso.2 with ⟨q, -⟩ | ⟨q0, r, q1, q2⟩; omega; exact q2.rng
  refine zbb 5 rfl (zaa (zaa (reQ 1 rfl ?_)))
  refine zbr rfl rfl rfl rfl rfl rfl (fun h21 => ?_) (fun h21 => ?_)
  ·
   refine ntQ (zaq rfl (zaa (zbh 1 rfl (zba ?_))))
   refine lkQ3 (α := Nat) (β := Value) (γ := List Int) [0, 1, 2, 3, 4, 8, 9, 10, 11, 13, 14, 17, 18, 19, 32, 68, 77, 89] rfl (fun k8 ov os => [rowE 3 1 bv bs.length (bs.map (Value.int .i64)), rowE 3 1 ov os.length (os.map (Value.int .i64)), rowE 3 1 (.slice (some ⟨g11, 0, none⟩) ((List.replicate (n.cnt).toNat (0 : Int)).length) ((List.replicate (n.cnt).toNat (0 : Int)).length)) ab.length (ab.map (Value.int .i64)), rowE 4 1 (.slice (some ⟨g10, 0, none⟩) ((List.replicate (n.cnt).toNat bl0).length) ((List.replicate (n.cnt).toNat bl0).length)) ds.length (ds.flatMap blC), rowE 4 1 (.slice (some ⟨g5, 0, none⟩) ((List.replicate (n.cnt).toNat bl0).length) ((List.replicate (n.cnt).toNat bl0).length)) us.length (us.flatMap blC), rowE 3 1 v2 ((coneS n node).length) ((coneS n node).map (Value.int .i64)), boxE b1 #[.int .i64 n.ins, n.sv, n.av, n.ov] 28]) (fun k8 ov os => [(15, ov), (20, .int .i64 (k8 : Int))]) (fun k8 ov os => (k8 : Int) ≤ n.cnt ∧ os.length ≤ k8) (fun k8 ov os => n.cnt.toNat - k8) 0 _ [] ⟨by omega, by simp⟩ (saQ rfl) (pfQ rfl) ?_
   intro k8 ov os hi22
   obtain ⟨hk8, hol⟩ := hi22
   refine zaa (zaa (reQ 1 rfl (hvQ rfl (zaf (cs := [.int .i64 n.ins, n.sv, n.av, n.ov]) rfl rfl rfl rfl rfl (zag 6 rfl 0 rfl)) ?_)))
   refine zdw rfl (zas rfl rfl (fun w hm => zaz (zbk n w (hr.below hm.bel) hn))) (zbr rfl rfl rfl rfl rfl rfl (fun h23 => ?_) (fun h23 => ?_))
   ·
    refine ntQ (zaq rfl (zcw (sbQ (zaa (reQ 2 rfl (hvQ rfl (zer rfl rfl rfl (by constructor <;> omega)) (hvQ rfl (riQ 1 rfl rfl rfl rfl (zad 0 rfl)) (hvQ rfl (lzQ rfl rfl rfl (zad 0 rfl)) ?_))))))))
    refine hl_neq rfl rfl rfl rfl rfl rfl (fun h24 => ?_) (fun h24 => ?_)
    ·
     refine zab 3 rfl (hvQ rfl (zer rfl rfl rfl (by constructor <;> omega)) (hvQ rfl (vaQ rfl rfl rfl) (hvQ rfl (riQ 1 rfl rfl rfl rfl (zad 0 rfl)) (hvQ rfl (lzQ rfl rfl rfl (zad 0 rfl)) ?_))))
     refine zcj rfl rfl rfl rfl rfl rfl (fun h25 => ?_) (fun h25 => ?_)
     ·
      refine zbb 1 rfl (zaq rfl (reQ 2 rfl ?_))
      refine zea rfl (zaw (z := .int .i64 0) (s := 1) (cs := ([(k8 : Int)].map (Value.int .i64))) rfl Try.underlying26 rfl (by decide) rfl (by kernel_rfl) rfl) ?_
      intro g26
      refine zck (i := 2) (z := .int .i64 0) (bytes := 8) rfl rfl rfl rfl Try.underlying26 (by kernel_rfl) rfl rfl rfl rfl (zad 0 rfl) (zca _) (by first | omega | (simp; done) | (simp; omega)) (zcc os ([(k8 : Int)])) (zcv os ([(k8 : Int)])) (fun _ => rfl) ?_
      intro v27
      refine enQ 1 rfl (zdk (reQ 1 rfl (hvQ rfl (vaQ rfl rfl rfl) (enQ 1 rfl ?_))))
      exact zbv (k8 + 1) v27 (os ++ ([(k8 : Int)])) ⟨by omega, by rw [List.length_append, List.length_singleton]; omega⟩ (by omega) (saQ rfl) (slQ [1, 0, 0, 0, 0, 0, 0] rfl)
     refine zbb 1 rfl (fsQ rfl (zdk (reQ 1 rfl (hvQ rfl (vaQ rfl rfl rfl) (enQ 1 rfl ?_)))))
     exact zbv (k8 + 1) ov os ⟨by omega, by omega⟩ (by omega) (saQ rfl) (pfQ rfl)
    refine zbb 9 rfl (fsQ rfl (zdk ?_))
    refine reQ 1 rfl (hvQ rfl (vaQ rfl rfl rfl) (enQ 1 rfl ?_))
    exact zbv (k8 + 1) ov os ⟨by omega, by omega⟩ (by omega) (saQ rfl) (pfQ rfl)
   refine ntQ (zao rfl ?_)
   refine zbi (zep ?_)
   refine zal (zaj (zbh 3 rfl ?_))
   refine zax (zam ?_)
   refine zat (rt2Q ?_)
   refine zat (zam ?_)
   exact zdl (rs := [.tmp 8, .tmp 9]) (vs := [ov, .bool true]) (post := [rowE 3 1 ov os.length (os.map (Value.int .i64))]) rfl ⟨rfl, rfl, trivial⟩ rfl (slQ [1] rfl) ⟨os, _, _, rfl, rfl, (pBc_yes (hso.yes cx (by omega) (by omega))).symm⟩
  refine ntQ (zao rfl (zcw (zba ?_)))
  obtain ⟨r, hT, htr0⟩ : ∃ r, TreeS n.cnt.toNat bs r ∧ TrS n node hh ls us bs r ds ab (f : Int) at1_o := by rcases hso.2 with ⟨q, -⟩ | ⟨-, q⟩; omega; exact q
  refine lkQ3 (α := Int) (β := List Bl) (γ := List Int) [0, 1, 2, 3, 4, 8, 9, 10, 11, 13, 14, 15, 17, 18, 32, 68, 77, 89] rfl (fun a ds2 ab2 => [rowE 3 1 bv bs.length (bs.map (Value.int .i64)), rowE 3 1 (.slice (some ⟨g12, 0, none⟩) 0 0) 0 ([]), rowE 3 1 (.slice (some ⟨g11, 0, none⟩) ((List.replicate (n.cnt).toNat (0 : Int)).length) ((List.replicate (n.cnt).toNat (0 : Int)).length)) ab2.length (ab2.map (Value.int .i64)), rowE 4 1 (.slice (some ⟨g10, 0, none⟩) ((List.replicate (n.cnt).toNat bl0).length) ((List.replicate (n.cnt).toNat bl0).length)) ds2.length (ds2.flatMap blC), rowE 4 1 (.slice (some ⟨g5, 0, none⟩) ((List.replicate (n.cnt).toNat bl0).length) ((List.replicate (n.cnt).toNat bl0).length)) us.length (us.flatMap blC), rowE 3 1 v2 ((coneS n node).length) ((coneS n node).map (Value.int .i64)), boxE b1 #[.int .i64 n.ins, n.sv, n.av, n.ov] 28]) (fun a ds2 ab2 => [(19, .int .i64 a)]) (fun a ds2 ab2 => TrS n node hh ls us bs r ds2 ab2 (f : Int) a) (fun a ds2 ab2 => (if 0 ≤ a then r a.toNat + 1 else 0)) at1_o ds ab htr0 (saQ rfl) (pfQ rfl) ?_
  intro a ds2 ab2 hi28
  have htr := hi28
  have ha0 := htr.rng
  have hab2 := htr.ab_
  have hab21 := hab2.1
  have hdl2 := htr.dl
  refine zaa (zaa (reQ 1 rfl ?_))
  refine zeh rfl rfl rfl rfl rfl rfl (fun h29 => ?_) (fun h29 => ?_)
  ·
   refine ntQ (zaq rfl (zcw (zba (srQ ?_))))
   have hbr := hT.low a (by omega) (by omega) (htr.vis (by omega))
   refine zab 2 rfl (hvQ rfl (riQ 1 rfl rfl rfl rfl (zad 0 rfl)) (hvQ rfl (lzQ rfl rfl rfl (zad 0 rfl)) (zbb 1 rfl (zaa (reQ 1 rfl ?_)))))
   refine hvQ rfl (zdy rfl rfl rfl (by refine ⟨?_, ?_, ?_⟩ <;> omega)) ?_
   refine zbb 1 rfl ?_
   refine zfn (α := List Bl) (fun ds3 => [rowE 3 1 bv bs.length (bs.map (Value.int .i64)), rowE 3 1 (.slice (some ⟨g12, 0, none⟩) 0 0) 0 ([]), rowE 3 1 (.slice (some ⟨g11, 0, none⟩) ((List.replicate (n.cnt).toNat (0 : Int)).length) ((List.replicate (n.cnt).toNat (0 : Int)).length)) ab2.length (ab2.map (Value.int .i64)), rowE 4 1 (.slice (some ⟨g10, 0, none⟩) ((List.replicate (n.cnt).toNat bl0).length) ((List.replicate (n.cnt).toNat bl0).length)) ds3.length (ds3.flatMap blC), rowE 4 1 (.slice (some ⟨g5, 0, none⟩) ((List.replicate (n.cnt).toNat bl0).length) ((List.replicate (n.cnt).toNat bl0).length)) us.length (us.flatMap blC), rowE 3 1 v2 ((coneS n node).length) ((coneS n node).map (Value.int .i64)), boxE b1 #[.int .i64 n.ins, n.sv, n.av, n.ov] 28]) (fun ds3 => [(0, .agg #[.int .i64 n.ins, n.sv, n.av, n.ov]), (1, lv), (2, .int .i64 node), (3, .int .i64 hh), (4, .pointer (some ⟨b1, 0, none⟩)), (8, .slice none 0 0), (9, .bool false), (10, v2), (11, .slice (some ⟨g5, 0, none⟩) ((List.replicate (n.cnt).toNat bl0).length) ((List.replicate (n.cnt).toNat bl0).length)), (13, .slice (some ⟨g10, 0, none⟩) ((List.replicate (n.cnt).toNat bl0).length) ((List.replicate (n.cnt).toNat bl0).length)), (14, .slice (some ⟨g11, 0, none⟩) ((List.replicate (n.cnt).toNat (0 : Int)).length) ((List.replicate (n.cnt).toNat (0 : Int)).length)), (15, .slice (some ⟨g12, 0, none⟩) 0 0), (17, .int .i64 (f : Int)), (18, bv), (19, .int .i64 a), (21, .int .i64 (bs.getD ((a).toNat) 0)), (22, .int .i64 (a / 2)), (32, .bool false), (68, .bool false), (77, .bool true), (89, .bool false), (117, .bool true)]) (fun ds3 => ds3 = (if a % 2 = 1 ∧ bs.getD a.toNat 0 = a - 1 then ds2.set (a / 2).toNat ⟨true⟩ else ds2)) ?_ ?_
   ·
    refine zaa (reQ 1 rfl (hvQ rfl (rv_rem rfl rfl rfl (by constructor <;> omega)) ?_))
    refine zcj rfl rfl rfl rfl rfl rfl (fun h30 => ?_) (fun h30 => ?_)
    ·
     refine zab 3 rfl (hvQ rfl (vsQ rfl rfl rfl) ?_)
     refine zcj rfl rfl rfl rfl rfl rfl (fun h31 => ?_) (fun h31 => ?_)
     ·
      refine zbb 1 rfl (zaq rfl (reQ 2 rfl (hvQ rfl (riQ 1 rfl rfl rfl rfl (zad 3 rfl)) ?_)))
      refine zdh (i := 3) (n' := (ds2.set ((a / 2).toNat) { ds2.getD ((a / 2).toNat) bl0 with b := true }).length) rfl rfl rfl rfl rfl rfl rfl rfl (by first | omega | (simp only [List.length_set]; omega)) List.length_set.symm (zdb blC (fun r => .bool r.b) (fun _ => rfl) _ ({ ds2.getD ((a / 2).toNat) bl0 with b := true }) rfl) rfl (zay ?_)
      exact zcb (ds2.set ((a / 2).toNat) { ds2.getD ((a / 2).toNat) bl0 with b := true }) (by rw [if_pos (by omega)]) (saQ rfl) (pfQ rfl)
     refine zbb 1 rfl (fsQ rfl ?_)
     exact zcb ds2 (by rw [if_neg (by omega)]) (saQ rfl) (pfQ rfl)
    refine zbb 6 rfl (fsQ rfl ?_)
    exact zcb ds2 (by rw [if_neg (by omega)]) (saQ rfl) (pfQ rfl)
   intro ds3 hm32
   have hd3 := hm32
   have hdl3 : ds3.length = n.cnt.toNat := by rw [hd3]; split <;> (try rw [List.length_set]) <;> exact hdl2
   refine zfn (α := List Bl) (fun ds4 => [rowE 3 1 bv bs.length (bs.map (Value.int .i64)), rowE 3 1 (.slice (some ⟨g12, 0, none⟩) 0 0) 0 ([]), rowE 3 1 (.slice (some ⟨g11, 0, none⟩) ((List.replicate (n.cnt).toNat (0 : Int)).length) ((List.replicate (n.cnt).toNat (0 : Int)).length)) ab2.length (ab2.map (Value.int .i64)), rowE 4 1 (.slice (some ⟨g10, 0, none⟩) ((List.replicate (n.cnt).toNat bl0).length) ((List.replicate (n.cnt).toNat bl0).length)) ds4.length (ds4.flatMap blC), rowE 4 1 (.slice (some ⟨g5, 0, none⟩) ((List.replicate (n.cnt).toNat bl0).length) ((List.replicate (n.cnt).toNat bl0).length)) us.length (us.flatMap blC), rowE 3 1 v2 ((coneS n node).length) ((coneS n node).map (Value.int .i64)), boxE b1 #[.int .i64 n.ins, n.sv, n.av, n.ov] 28]) (fun ds4 => [(0, .agg #[.int .i64 n.ins, n.sv, n.av, n.ov]), (1, lv), (2, .int .i64 node), (3, .int .i64 hh), (4, .pointer (some ⟨b1, 0, none⟩)), (8, .slice none 0 0), (9, .bool false), (10, v2), (11, .slice (some ⟨g5, 0, none⟩) ((List.replicate (n.cnt).toNat bl0).length) ((List.replicate (n.cnt).toNat bl0).length)), (13, .slice (some ⟨g10, 0, none⟩) ((List.replicate (n.cnt).toNat bl0).length) ((List.replicate (n.cnt).toNat bl0).length)), (14, .slice (some ⟨g11, 0, none⟩) ((List.replicate (n.cnt).toNat (0 : Int)).length) ((List.replicate (n.cnt).toNat (0 : Int)).length)), (15, .slice (some ⟨g12, 0, none⟩) 0 0), (17, .int .i64 (f : Int)), (18, bv), (19, .int .i64 a), (21, .int .i64 (bs.getD ((a).toNat) 0)), (22, .int .i64 (a / 2)), (32, .bool false), (68, .bool false), (77, .bool true), (89, .bool false), (117, .bool true)]) (fun ds4 => ds4 = (if a % 2 = 0 ∧ bs.getD a.toNat 0 = a + 1 then ds3.set (a / 2).toNat ⟨false⟩ else ds3)) ?_ ?_
   ·
    refine zaa (reQ 1 rfl (hvQ rfl (rv_rem rfl rfl rfl (by constructor <;> omega)) ?_))
    refine zcj rfl rfl rfl rfl rfl rfl (fun h33 => ?_) (fun h33 => ?_)
    ·
     refine zab 3 rfl (hvQ rfl (vaQ rfl rfl rfl) ?_)
     refine zcj rfl rfl rfl rfl rfl rfl (fun h34 => ?_) (fun h34 => ?_)
     ·
      refine zbb 1 rfl (zaq rfl (reQ 2 rfl (hvQ rfl (riQ 1 rfl rfl rfl rfl (zad 3 rfl)) ?_)))
      refine zdh (i := 3) (n' := (ds3.set ((a / 2).toNat) { ds3.getD ((a / 2).toNat) bl0 with b := false }).length) rfl rfl rfl rfl rfl rfl rfl rfl (by first | omega | (simp only [List.length_set]; omega)) List.length_set.symm (zdb blC (fun r => .bool r.b) (fun _ => rfl) _ ({ ds3.getD ((a / 2).toNat) bl0 with b := false }) rfl) rfl (zay ?_)
      exact zcb (ds3.set ((a / 2).toNat) { ds3.getD ((a / 2).toNat) bl0 with b := false }) (by rw [if_pos (by omega)]) (saQ rfl) (pfQ rfl)
     refine zbb 1 rfl (fsQ rfl ?_)
     exact zcb ds3 (by rw [if_neg (by omega)]) (saQ rfl) (pfQ rfl)
    refine zbb 6 rfl (fsQ rfl ?_)
    exact zcb ds3 (by rw [if_neg (by omega)]) (saQ rfl) (pfQ rfl)
   intro ds4 hm35
   have hd4 := hm35
   have hdl4 : ds4.length = n.cnt.toNat := by rw [hd4]; split <;> (try rw [List.length_set]) <;> exact hdl3
   refine zfn (α := List Int) (fun ab5 => [rowE 3 1 bv bs.length (bs.map (Value.int .i64)), rowE 3 1 (.slice (some ⟨g12, 0, none⟩) 0 0) 0 ([]), rowE 3 1 (.slice (some ⟨g11, 0, none⟩) ((List.replicate (n.cnt).toNat (0 : Int)).length) ((List.replicate (n.cnt).toNat (0 : Int)).length)) ab5.length (ab5.map (Value.int .i64)), rowE 4 1 (.slice (some ⟨g10, 0, none⟩) ((List.replicate (n.cnt).toNat bl0).length) ((List.replicate (n.cnt).toNat bl0).length)) ds4.length (ds4.flatMap blC), rowE 4 1 (.slice (some ⟨g5, 0, none⟩) ((List.replicate (n.cnt).toNat bl0).length) ((List.replicate (n.cnt).toNat bl0).length)) us.length (us.flatMap blC), rowE 3 1 v2 ((coneS n node).length) ((coneS n node).map (Value.int .i64)), boxE b1 #[.int .i64 n.ins, n.sv, n.av, n.ov] 28]) (fun ab5 => [(0, .agg #[.int .i64 n.ins, n.sv, n.av, n.ov]), (1, lv), (2, .int .i64 node), (3, .int .i64 hh), (4, .pointer (some ⟨b1, 0, none⟩)), (8, .slice none 0 0), (9, .bool false), (10, v2), (11, .slice (some ⟨g5, 0, none⟩) ((List.replicate (n.cnt).toNat bl0).length) ((List.replicate (n.cnt).toNat bl0).length)), (13, .slice (some ⟨g10, 0, none⟩) ((List.replicate (n.cnt).toNat bl0).length) ((List.replicate (n.cnt).toNat bl0).length)), (14, .slice (some ⟨g11, 0, none⟩) ((List.replicate (n.cnt).toNat (0 : Int)).length) ((List.replicate (n.cnt).toNat (0 : Int)).length)), (15, .slice (some ⟨g12, 0, none⟩) 0 0), (17, .int .i64 (f : Int)), (18, bv), (19, .int .i64 a), (21, .int .i64 (bs.getD ((a).toNat) 0)), (22, .int .i64 (a / 2)), (32, .bool false), (68, .bool false), (77, .bool true), (89, .bool false), (117, .bool true)]) (fun ab5 => ab5 = (if a % 2 = 0 ∧ bs.getD a.toNat 0 = -1 then ab2.set (a / 2).toNat (-1) else ab2)) ?_ ?_
   ·
    refine zaa (reQ 1 rfl (hvQ rfl (rv_rem rfl rfl rfl (by constructor <;> omega)) ?_))
    refine zcj rfl rfl rfl rfl rfl rfl (fun h36 => ?_) (fun h36 => ?_)
    ·
     refine zab 2 rfl (zcj rfl rfl rfl rfl rfl rfl (fun h37 => ?_) (fun h37 => ?_))
     ·
      refine zbb 1 rfl (zaq rfl (reQ 2 rfl (hvQ rfl (riQ 1 rfl rfl rfl rfl (zad 2 rfl)) ?_)))
      refine zdh (i := 2) (n' := (ab2.set ((a / 2).toNat) (-1)).length) (xs' := ((ab2.set ((a / 2).toNat) (-1)).map (Value.int .i64))) rfl rfl rfl rfl rfl rfl rfl rfl (by first | omega | (simp only [List.length_set]; omega)) List.length_set.symm (zeg _ _ _) rfl (zay ?_)
      exact zcb (ab2.set ((a / 2).toNat) (-1)) (by rw [if_pos (by omega)]) (saQ rfl) (pfQ rfl)
     refine zbb 1 rfl (fsQ rfl ?_)
     exact zcb ab2 (by rw [if_neg (by omega)]) (saQ rfl) (pfQ rfl)
    refine zbb 4 rfl (fsQ rfl ?_)
    exact zcb ab2 (by rw [if_neg (by omega)]) (saQ rfl) (pfQ rfl)
   intro ab5 hm38
   have ha5 := hm38
   have hal5 : (ab5.length : Int) = n.cnt := by rw [ha5]; split <;> (try rw [List.length_set]) <;> exact hab21
   refine zfn (α := List Int) (fun ab7 => [rowE 3 1 bv bs.length (bs.map (Value.int .i64)), rowE 3 1 (.slice (some ⟨g12, 0, none⟩) 0 0) 0 ([]), rowE 3 1 (.slice (some ⟨g11, 0, none⟩) ((List.replicate (n.cnt).toNat (0 : Int)).length) ((List.replicate (n.cnt).toNat (0 : Int)).length)) ab7.length (ab7.map (Value.int .i64)), rowE 4 1 (.slice (some ⟨g10, 0, none⟩) ((List.replicate (n.cnt).toNat bl0).length) ((List.replicate (n.cnt).toNat bl0).length)) ds4.length (ds4.flatMap blC), rowE 4 1 (.slice (some ⟨g5, 0, none⟩) ((List.replicate (n.cnt).toNat bl0).length) ((List.replicate (n.cnt).toNat bl0).length)) us.length (us.flatMap blC), rowE 3 1 v2 ((coneS n node).length) ((coneS n node).map (Value.int .i64)), boxE b1 #[.int .i64 n.ins, n.sv, n.av, n.ov] 28]) (fun ab7 => [(0, .agg #[.int .i64 n.ins, n.sv, n.av, n.ov]), (1, lv), (2, .int .i64 node), (3, .int .i64 hh), (4, .pointer (some ⟨b1, 0, none⟩)), (8, .slice none 0 0), (9, .bool false), (10, v2), (11, .slice (some ⟨g5, 0, none⟩) ((List.replicate (n.cnt).toNat bl0).length) ((List.replicate (n.cnt).toNat bl0).length)), (13, .slice (some ⟨g10, 0, none⟩) ((List.replicate (n.cnt).toNat bl0).length) ((List.replicate (n.cnt).toNat bl0).length)), (14, .slice (some ⟨g11, 0, none⟩) ((List.replicate (n.cnt).toNat (0 : Int)).length) ((List.replicate (n.cnt).toNat (0 : Int)).length)), (15, .slice (some ⟨g12, 0, none⟩) 0 0), (17, .int .i64 (f : Int)), (18, bv), (19, .int .i64 a), (21, .int .i64 (bs.getD ((a).toNat) 0)), (22, .int .i64 (a / 2)), (32, .bool false), (68, .bool false), (77, .bool true), (89, .bool false), (117, .bool true)]) (fun ab7 => ab7 = (if a % 2 = 0 ∧ 0 ≤ bs.getD a.toNat 0 ∧ bs.getD a.toNat 0 ≠ a + 1 then ab5.set (a / 2).toNat (bs.getD a.toNat 0 / 2) else ab5)) ?_ ?_
   ·
    refine zaa (reQ 1 rfl (hvQ rfl (rv_rem rfl rfl rfl (by constructor <;> omega)) ?_))
    refine zcj rfl rfl rfl rfl rfl rfl (fun h39 => ?_) (fun h39 => ?_)
    ·
     refine zab 2 rfl (zeh rfl rfl rfl rfl rfl rfl (fun h40 => ?_) (fun h40 => ?_))
     ·
      refine zab 4 rfl (hvQ rfl (vaQ rfl rfl rfl) ?_)
      refine hl_neq rfl rfl rfl rfl rfl rfl (fun h41 => ?_) (fun h41 => ?_)
      ·
       refine zbb 1 rfl (zaq rfl (reQ 3 rfl ?_))
       refine hvQ rfl (zdy rfl rfl rfl (by refine ⟨?_, ?_, ?_⟩ <;> omega)) ?_
       refine hvQ rfl (riQ 1 rfl rfl rfl rfl (zad 2 rfl)) (zdh (i := 2) (n' := (ab5.set ((a / 2).toNat) ((bs.getD ((a).toNat) 0) / 2)).length) (xs' := ((ab5.set ((a / 2).toNat) ((bs.getD ((a).toNat) 0) / 2)).map (Value.int .i64))) rfl rfl rfl rfl rfl rfl rfl rfl (by first | omega | (simp only [List.length_set]; omega)) List.length_set.symm (zeg _ _ _) rfl ?_)
       exact zay (zcb (ab5.set ((a / 2).toNat) ((bs.getD ((a).toNat) 0) / 2)) (by rw [if_pos (by omega)]) (saQ rfl) (pfQ rfl))
      refine zbb 1 rfl (fsQ rfl ?_)
      exact zcb ab5 (by rw [if_neg (by omega)]) (saQ rfl) (pfQ rfl)
     refine zbb 7 rfl (fsQ rfl ?_)
     exact zcb ab5 (by rw [if_neg (by omega)]) (saQ rfl) (pfQ rfl)
    refine zbb 10 rfl (fsQ rfl ?_)
    exact zcb ab5 (by rw [if_neg (by omega)]) (saQ rfl) (pfQ rfl)
   intro ab7 hm42
   have ha7 := hm42
   have hal7 : (ab7.length : Int) = n.cnt := by rw [ha7]; split <;> (try rw [List.length_set]) <;> exact hal5
   refine zai (enQ 2 rfl (zap ?_))
   exact zbv (bs.getD a.toNat 0) ds4 ab7 (tr_to (htr.step hn hT (by omega)).1 (dsN_eq hd3 hd4) (abN_eq ha5 ha7)) (rankS_dec (by omega) (fun h => (htr.step hn hT (by omega)).2 h)) (saQ rfl) (pfQ rfl)
  refine ntQ (zao rfl ?_)
  refine zbi (zep ?_)
  refine zal (zdk (reQ 1 rfl (hvQ rfl (vaQ rfl rfl rfl) (enQ 1 rfl ?_))))
  exact zbv (f + 1) ds2 ab2 ⟨by omega, (by have h8 := htr.rng; have h9 : a = -1 := (by omega); subst h9; exact htr.done cx)⟩ (by omega) (saQ rfl) (slQ [1, 0, 0, 0, 0, 0] rfl)
 refine ntQ (zao rfl ?_)
 refine zbi (zep ?_)
 refine zal (zaj (zbh 3 rfl ?_))
 exact zax (zdl (rs := [.tmp 8, .tmp 9]) (vs := [.slice (some ⟨g12, 0, none⟩) 0 0, .bool false]) (post := [rowE 3 1 (.slice (some ⟨g12, 0, none⟩) 0 0) 0 ([])]) rfl ⟨rfl, rfl, trivial⟩ rfl (slQ [0] rfl) ⟨[], _, _, rfl, rfl, (pBc_no (cx.no (by omega))).symm⟩)
theorem LabelsS_ret (n : Nt) (w : World) (hr : RdsNt w n) (hn : NtOk n) :
   Calls Try.prog 6 #[.agg #[.int .i64 n.ins, n.sv, n.av, n.ov]] w (Ret w (fun u_ p_ => ∃ ls : List Int, p_ = [rowE 3 1 u_ ls.length (ls.map (Value.int .i64))] ∧ (ls.length : Int) = n.cnt ∧ LabL n n.cnt ls)) := by
 have hi0 := hn.i0
 have hi1 := hn.i1
 have hs1 := hn.s1
 have ha1 := hn.a1
 have ho1 := hn.o1
 have hcnt : n.cnt = 1 + n.ins + n.ss.length + n.gs.length := rfl
 have hfst : n.fst = 1 + n.ins + n.ss.length := rfl
 refine zbg (N := 66) (args := [.agg #[.int .i64 n.ins, n.sv, n.av, n.ov]]) Try.func6 rfl rfl (srQ ?_)
 refine zei rfl (zco rfl rfl) ?_
 intro b1
 refine zbb 1 rfl (ssrQ (hvQ rfl (zaf (cs := [.int .i64 n.ins, n.sv, n.av, n.ov]) rfl rfl rfl rfl rfl (zag 0 rfl 0 rfl)) ?_))
 refine zdw rfl (zas rfl rfl (fun w hm => zaz (zey n w (hr.below hm.bel) hn))) (zbb 1 rfl (zao rfl (zcw (srQ (hvQ rfl (zaf (cs := [.int .i64 n.ins, n.sv, n.av, n.ov]) rfl rfl rfl rfl rfl (zag 0 rfl 0 rfl)) ?_)))))
 refine zdw rfl (zas rfl rfl (fun w hm => zaz (zbk n w (hr.below hm.bel) hn))) (zea rfl (zff (z := .int .i64 0) (s := 1) (bytes := 8) (n := (List.replicate (n.cnt).toNat (0 : Int)).length) (cs := ((List.replicate (n.cnt).toNat (0 : Int)).map (Value.int .i64))) rfl Try.underlying26 rfl (by decide) rfl rfl (by first | (rw [List.length_replicate]; done) | (rw [List.length_replicate]; omega)) (by first | (rw [List.length_replicate]; done) | (rw [List.length_replicate]; omega)) (by rw [List.length_replicate]; omega) (ints_make _)) ?_)
 intro g2
 refine zbb 1 rfl (ssrQ (hvQ rfl (zaf (cs := [.int .i64 n.ins, n.sv, n.av, n.ov]) rfl rfl rfl rfl rfl (zag 1 rfl 0 rfl)) ?_))
 refine zdw rfl (zas rfl rfl (fun w hm => zaz (zcs n w (hr.below hm.bel) hn))) (zbb 1 rfl (zba ?_))
 refine hc_loop2 (α := Nat) (β := List Int) (fun i ls => [rowE 3 1 (.slice (some ⟨g2, 0, none⟩) ((List.replicate (n.cnt).toNat (0 : Int)).length) ((List.replicate (n.cnt).toNat (0 : Int)).length)) ls.length (ls.map (Value.int .i64)), boxE b1 #[.int .i64 n.ins, n.sv, n.av, n.ov] 28]) (fun i ls => [(0, .agg #[.int .i64 n.ins, n.sv, n.av, n.ov]), (1, .pointer (some ⟨b1, 0, none⟩)), (2, .slice none 0 0), (3, .slice (some ⟨g2, 0, none⟩) ((List.replicate (n.cnt).toNat (0 : Int)).length) ((List.replicate (n.cnt).toNat (0 : Int)).length)), (4, .int .i64 (n.fst + (i : Int))), (11, .bool false)]) (fun i ls => i ≤ n.gs.length ∧ (ls.length : Int) = n.cnt ∧ LabL n (n.fst + (i : Int)) ls) (fun i ls => n.gs.length - i) 0 _ ⟨Nat.zero_le _, by rw [List.length_replicate]; omega, by have h9 := LabL.start n n.cnt.toNat; rwa [show n.fst + ((0 : Nat) : Int) = n.fst by omega]⟩ (zbx [3, 2, 1, 0] _ (sk 4 (congrArg (fun x => some (Value.int .i64 x)) (by simp)) (zau [11] rfl)) rfl) (pfQ rfl) ?_
 intro i ls hi3
 obtain ⟨hi, hll, hL⟩ := hi3
 refine zaa (zaa (reQ 1 rfl (hvQ rfl (zaf (cs := [.int .i64 n.ins, n.sv, n.av, n.ov]) rfl rfl rfl rfl rfl (zag 1 rfl 0 rfl)) ?_)))
 refine zdw rfl (zas rfl rfl (fun w hm => zaz (zbk n w (hr.below hm.bel) hn))) (zbr rfl rfl rfl rfl rfl rfl (fun h4 => ?_) (fun h4 => ?_))
 ·
  refine ntQ (zaq rfl (zcw (sbQ (zaa ?_))))
  have hani := hn.an ((n.fst + (i : Int)) - n.fst).toNat (by omega)
  unfold LtOk at hani
  have hkd := zfv hn (k := n.fst + (i : Int)) (by omega) (by omega)
  have hl1 := hL.nn hn hkd.2.1 hkd.2.2.1
  have hl2 := hL.nn hn hkd.2.2.2.1 hkd.2.2.2.2
  have hs1 := hL.small hn (by omega) _ _ (Nat.lt_succ_self _) hkd.2.1 hkd.2.2.1
  have hs2 := hL.small hn (by omega) _ _ (Nat.lt_succ_self _) hkd.2.2.2.1 hkd.2.2.2.2
  refine zfq rfl 9 [0, 1, 2, 3, 4, 5, 6, 7, 8] (List.take 9 _) (List.drop 9 _) [[], [0], [], [], [3], [2, 4], [1, 5], [6], []] [24, 25, 26, 27, 28, 29, 30, 31, 5] (fun i_ vs_ v_ p_ => match i_ with | 0 => v_ = .pointer (some ⟨b1, 0 + 2, none⟩) ∧ p_ = [] | 1 => v_ = n.av ∧ p_ = [] | 2 => v_ = .int .i64 (n.fst + (i : Int)) ∧ p_ = [] | 3 => v_ = .agg #[.int .i64 n.ins, n.sv, n.av, n.ov] ∧ p_ = [] | 4 => v_ = .int .i64 n.fst ∧ p_ = [] | 5 => v_ = .int .i64 ((n.fst + (i : Int)) - n.fst) ∧ p_ = [] | 6 => v_ = elP n.av (((n.fst + (i : Int)) - n.fst).toNat * 2) ∧ p_ = [] | 7 => v_ = .agg #[.int .i64 ((n.gs.getD (((n.fst + (i : Int)) - n.fst).toNat) an0).a), .int .i64 ((n.gs.getD (((n.fst + (i : Int)) - n.fst).toNat) an0).b)] ∧ p_ = [] | 8 => IsBox #[.int .i64 0, .int .i64 0] 47 v_ p_ | _ => True) (List.take_append_drop 9 _).symm (by kernel_rfl) (by kernel_rfl) rfl rfl ?_ ?_
  ·
   refine ⟨?_, ?_, ?_, ?_, ?_, ?_, ?_, ?_, ?_, trivial⟩
   ·
    intro vf pf hR
    exact ovQ rfl (zau [1] rfl) (zbz (fdQ 2 rfl rfl rfl))
   ·
    intro vf pf hR
    have e0 := hR 0 (by decide)
    exact olQ rfl (sk 24 (congrArg some e0.1) (zak _)) (zbz (zan rfl rfl rfl (zah 1 rfl rfl)))
   ·
    intro vf pf hR
    exact ovQ rfl (zau [4] rfl) (zbz (zae rfl))
   ·
    intro vf pf hR
    exact olQ rfl (zau [1] rfl) (zbz (zaf (cs := [.int .i64 n.ins, n.sv, n.av, n.ov]) rfl rfl rfl rfl rfl (zag 1 rfl 0 rfl)))
   ·
    intro vf pf hR
    have e3 := hR 3 (by decide)
    exact olQ rfl (sk 27 (congrArg some e3.1) (zak _)) (zas rfl rfl (fun w hm => zaz (zcs n w (hr.below hm.bel) hn)))
   ·
    intro vf pf hR
    have e2 := hR 2 (by decide)
    have e4 := hR 4 (by decide)
    exact ovQ rfl (sk 26 (congrArg some e2.1) (sk 28 (congrArg some e4.1) (zak _))) (zbz (vsQ rfl rfl rfl))
   ·
    intro vf pf hR
    have e1 := hR 1 (by decide)
    have e5 := hR 5 (by decide)
    exact olQ rfl (sk 25 (congrArg some e1.1) (sk 29 (congrArg some e5.1) (zak _))) (zbz (riQ 2 rfl rfl rfl rfl (zac hr.an)))
   ·
    intro vf pf hR
    have e6 := hR 6 (by decide)
    exact olQ rfl (sk 30 (congrArg some e6.1) (zak _)) (zbz (zdj (us := [.int .i64 ((n.gs.getD (((n.fst + (i : Int)) - n.fst).toNat) an0).a), .int .i64 ((n.gs.getD (((n.fst + (i : Int)) - n.fst).toNat) an0).b)]) rfl rfl rfl rfl (zac hr.an) (by omega) rfl (zeo anC 2 (fun _ => rfl) n.gs an0 (show ((n.fst + (i : Int)) - n.fst).toNat < _ by omega) rfl)))
   intro vf pf hR
   exact olQ rfl (zak _) (zbq (z := .agg #[.int .i64 0, .int .i64 0]) rfl rfl)
  intro vf pf hR
  have e7 := hR 7 (by decide)
  have e8 : IsBox #[.int .i64 0, .int .i64 0] 47 (vf 8) (pf 8) := hR 8 (by decide)
  obtain ⟨b5, vE8, pE8⟩ := e8
  have q0 := hR 0 (by decide)
  have q1 := hR 1 (by decide)
  have q2 := hR 2 (by decide)
  have q3 := hR 3 (by decide)
  have q4 := hR 4 (by decide)
  have q5 := hR 5 (by decide)
  have q6 := hR 6 (by decide)
  have q7 := hR 7 (by decide)
  refine zcx (zbx [4, 3, 2, 1, 0] _ (sk 5 (congrArg some vE8) (sk 11 rfl (sk 21 rfl (sk 31 (congrArg some e7.1) (zak _))))) rfl) (by simp only [pE8, vE8, q0.2, q1.2, q2.2, q3.2, q4.2, q5.2, q6.2, q7.2, fS] <;> rfl) ?_
  simp only [List.drop_succ_cons, List.drop_zero]
  refine zbu (cs' := #[.int .i64 ((n.gs.getD (((n.fst + (i : Int)) - n.fst).toNat) an0).a), .int .i64 ((n.gs.getD (((n.fst + (i : Int)) - n.fst).toNat) an0).b)]) (i := 0) (off := 0) (us := [.int .i64 ((n.gs.getD (((n.fst + (i : Int)) - n.fst).toNat) an0).a), .int .i64 ((n.gs.getD (((n.fst + (i : Int)) - n.fst).toNat) an0).b)]) rfl rfl rfl rfl rfl rfl rfl (zar rfl (zar rfl zbs)) rfl rfl rfl (ntQ (zaa ?_))
  refine zbl 13 [[], [], [1], [2], [0, 3], [4], [], [], [7], [8], [6, 9], [10], [5, 11]] [32, 33, 34, 35, 36, 37, 38, 39, 40, 41, 42, 43, 44] [.slice (some ⟨g2, 0, none⟩) ((List.replicate (n.cnt).toNat (0 : Int)).length) ((List.replicate (n.cnt).toNat (0 : Int)).length), .pointer (some ⟨b5, 0 + 0, none⟩), .int .i64 ((n.gs.getD (((n.fst + (i : Int)) - n.fst).toNat) an0).a), .int .i64 (((n.gs.getD (((n.fst + (i : Int)) - n.fst).toNat) an0).a) / 2), elP (.slice (some ⟨g2, 0, none⟩) ((List.replicate (n.cnt).toNat (0 : Int)).length) ((List.replicate (n.cnt).toNat (0 : Int)).length)) ((((n.gs.getD (((n.fst + (i : Int)) - n.fst).toNat) an0).a) / 2).toNat * 1), .int .i64 (ls.getD ((((n.gs.getD (((n.fst + (i : Int)) - n.fst).toNat) an0).a) / 2).toNat) 0), .slice (some ⟨g2, 0, none⟩) ((List.replicate (n.cnt).toNat (0 : Int)).length) ((List.replicate (n.cnt).toNat (0 : Int)).length), .pointer (some ⟨b5, 0 + 1, none⟩), .int .i64 ((n.gs.getD (((n.fst + (i : Int)) - n.fst).toNat) an0).b), .int .i64 (((n.gs.getD (((n.fst + (i : Int)) - n.fst).toNat) an0).b) / 2), elP (.slice (some ⟨g2, 0, none⟩) ((List.replicate (n.cnt).toNat (0 : Int)).length) ((List.replicate (n.cnt).toNat (0 : Int)).length)) ((((n.gs.getD (((n.fst + (i : Int)) - n.fst).toNat) an0).b) / 2).toNat * 1), .int .i64 (ls.getD ((((n.gs.getD (((n.fst + (i : Int)) - n.fst).toNat) an0).b) / 2).toNat) 0), .int .i64 (if ls.getD ((((n.gs.getD (((n.fst + (i : Int)) - n.fst).toNat) an0).a) / 2).toNat) 0 < ls.getD ((((n.gs.getD (((n.fst + (i : Int)) - n.fst).toNat) an0).b) / 2).toNat) 0 then ls.getD ((((n.gs.getD (((n.fst + (i : Int)) - n.fst).toNat) an0).b) / 2).toNat) 0 else ls.getD ((((n.gs.getD (((n.fst + (i : Int)) - n.fst).toNat) an0).a) / 2).toNat) 0)] (by kernel_rfl) rfl ?_ ?_
  ·
   exact ⟨iaQ rfl (zae rfl) rfl, iaQ rfl (fdQ 0 rfl rfl rfl) rfl, iaQ rfl (zan rfl rfl rfl (zah 0 rfl rfl)) rfl, iaQ rfl (zdy rfl rfl rfl (by refine ⟨?_, ?_, ?_⟩ <;> omega)) rfl, iaQ rfl (riQ 1 rfl rfl rfl rfl (zad 1 rfl)) rfl, iaQ rfl (lzQ rfl rfl rfl (zad 1 rfl)) rfl, iaQ rfl (zae rfl) rfl, iaQ rfl (fdQ 1 rfl rfl rfl) rfl, iaQ rfl (zan rfl rfl rfl (zah 0 rfl rfl)) rfl, iaQ rfl (zdy rfl rfl rfl (by refine ⟨?_, ?_, ?_⟩ <;> omega)) rfl, iaQ rfl (riQ 1 rfl rfl rfl rfl (zad 1 rfl)) rfl, iaQ rfl (lzQ rfl rfl rfl (zad 1 rfl)) rfl, iaQ rfl (rv_max rfl rfl rfl) rfl, trivial⟩
  simp only [List.drop_succ_cons, List.drop_zero]
  refine zbb 1 rfl (srQ ?_)
  obtain ⟨p, hp⟩ : ∃ x, (if ls.getD ((((n.gs.getD (((n.fst + (i : Int)) - n.fst).toNat) an0).a) / 2).toNat) 0 < ls.getD ((((n.gs.getD (((n.fst + (i : Int)) - n.fst).toNat) an0).b) / 2).toNat) 0 then ls.getD ((((n.gs.getD (((n.fst + (i : Int)) - n.fst).toNat) an0).b) / 2).toNat) 0 else ls.getD ((((n.gs.getD (((n.fst + (i : Int)) - n.fst).toNat) an0).a) / 2).toNat) 0) = x := ⟨_, rfl⟩
  rw [hp]
  have hpm : p = max (lbI ls (kdA n (n.fst + (i : Int)))) (lbI ls (kdB n (n.fst + (i : Int)))) := by rw [← hp]; unfold lbI kdA kdB ndA ndB; split <;> omega
  have hp2 : 0 ≤ p ∧ p ≤ n.fst + (i : Int) := by omega
  refine zab 3 rfl (hvQ rfl (vaQ rfl rfl rfl) (hvQ rfl (riQ 1 rfl rfl rfl rfl (zad 1 rfl)) ?_))
  refine zdh (i := 1) (n' := (ls.set ((n.fst + (i : Int)).toNat) (p + 1)).length) (xs' := ((ls.set ((n.fst + (i : Int)).toNat) (p + 1)).map (Value.int .i64))) rfl rfl rfl rfl rfl rfl rfl rfl (by first | omega | (simp only [List.length_set]; omega)) List.length_set.symm (zeg _ _ _) rfl (ntQ (zaa (reQ 1 rfl ?_)))
  refine zes rfl rfl rfl rfl rfl rfl (fun h6 => ?_) (fun h6 => ?_)
  ·
   refine ntQ (zaq rfl (srQ (hvQ rfl (zaf (cs := [.int .i64 n.ins, n.sv, n.av, n.ov]) rfl rfl rfl rfl rfl (zag 2 rfl 0 rfl)) (zab 3 rfl ?_))))
   refine hl_q rfl rfl rfl (zas rfl rfl (fun w hm => l17CutS_ret n (ls.set ((n.fst + (i : Int)).toNat) (p + 1)) _ (n.fst + (i : Int)) p w (hr.below hm.bel) hn ((zad 1 rfl) w hm) (by first | omega | (simp only [List.length_set]; omega)) (monL_set hn hL (by omega) (by omega) (by omega) _))) ?_
   intro v7 p8 hR9
   obtain ⟨xs, cv, okb, rfl, rfl, hok⟩ := hR9
   refine zab 3 rfl (zbc (fun h10 => ?_) (fun h10 => ?_))
   ·
    refine zbb 2 rfl (zbh 1 rfl (zaq rfl (reQ 3 rfl (hvQ rfl (riQ 1 rfl rfl rfl rfl (zad 2 rfl) (by omega) (by first | omega | (simp only [List.length_set]; omega))) ?_))))
    refine zdh (i := 2) (n' := ((ls.set ((n.fst + (i : Int)).toNat) (p + 1)).set ((n.fst + (i : Int)).toNat) p).length) (xs' := (((ls.set ((n.fst + (i : Int)).toNat) (p + 1)).set ((n.fst + (i : Int)).toNat) p).map (Value.int .i64))) rfl rfl rfl rfl rfl rfl rfl rfl (by first | omega | (simp only [List.length_set]; omega)) List.length_set.symm (zeg _ _ _) rfl (zay (zdk (reQ 1 rfl (hvQ rfl (vaQ rfl rfl rfl) (enQ 1 rfl ?_)))))
    exact zch (i + 1) ((ls.set ((n.fst + (i : Int)).toNat) (p + 1)).set ((n.fst + (i : Int)).toNat) p) ⟨by omega, by simp only [List.length_set]; exact hll, by rw [show n.fst + ((i + 1 : Nat) : Int) = n.fst + (i : Int) + 1 by omega]; exact lab_p1 hn hL (by omega) (by omega) hll hpm (by omega) _ (of_pBc (hok.symm.trans (by assumption)))⟩ (by omega) (zbx [3, 2, 1, 0] _ (sk 4 (congrArg (fun x => some (Value.int .i64 x)) (by omega)) (zau [11] rfl)) rfl) (slQ [2, 0] rfl)
   refine zbb 2 rfl (zbh 1 rfl (fsQ rfl (zdk ?_)))
   refine reQ 1 rfl (hvQ rfl (vaQ rfl rfl rfl) (enQ 1 rfl ?_))
   exact zch (i + 1) (ls.set ((n.fst + (i : Int)).toNat) (p + 1)) ⟨by omega, by simp only [List.length_set]; exact hll, by rw [show n.fst + ((i + 1 : Nat) : Int) = n.fst + (i : Int) + 1 by omega]; exact (by first | exact lab_p0 hn hL (by omega) (by omega) hll hpm (by omega) | exact lab_p2 hn hL (by omega) (by omega) hll hpm (by omega) _ (of_pBcn (hok.symm.trans (by assumption))))⟩ (by omega) (zbx [3, 2, 1, 0] _ (sk 4 (congrArg (fun x => some (Value.int .i64 x)) (by omega)) (zau [11] rfl)) rfl) (slQ [2, 0] rfl)
  refine ntQ (fsQ rfl (zdk (reQ 1 rfl (hvQ rfl (vaQ rfl rfl rfl) (enQ 1 rfl ?_)))))
  exact zch (i + 1) (ls.set ((n.fst + (i : Int)).toNat) (p + 1)) ⟨by omega, by simp only [List.length_set]; exact hll, by rw [show n.fst + ((i + 1 : Nat) : Int) = n.fst + (i : Int) + 1 by omega]; exact (by first | exact lab_p0 hn hL (by omega) (by omega) hll hpm (by omega) | exact lab_p2 hn hL (by omega) (by omega) hll hpm (by omega) _ (of_pBcn (hok.symm.trans (by assumption))))⟩ (by omega) (zbx [3, 2, 1, 0] _ (sk 4 (congrArg (fun x => some (Value.int .i64 x)) (by omega)) (zau [11] rfl)) rfl) (slQ [1, 0] rfl)
 refine ntQ (zao rfl ?_)
 refine zbi (zep ?_)
 refine zal (zaj (zbh 2 rfl ?_))
 exact zax (zct (post := [rowE 3 1 (.slice (some ⟨g2, 0, none⟩) ((List.replicate (n.cnt).toNat (0 : Int)).length) ((List.replicate (n.cnt).toNat (0 : Int)).length)) ls.length (ls.map (Value.int .i64))]) rfl rfl (slQ [0] rfl) ⟨_, rfl, hll, by rw [show n.cnt = n.fst + (i : Int) by omega]; exact hL⟩)
open Go.RowKit
theorem fbW_of {w0 : World} {l : List HP} {fb : Nat} {n : Nt} {node : Int} {cv frv iv : Value} {eb : Nat} {t : TypeId} (i : Nat) (h : l[i]? = some (boxE fb #[.int .i64 n.ins, n.sv, n.av, n.ov, .int .i64 node, cv, frv, iv, .map (some eb)] t)) (w : World) (hm : Mem w0 l w) : FbW w fb n node cv frv iv eb :=
  ⟨fun j u hj => (zdc (hm.holds _ (zbw h))).trans (by simpa using hj), box_lt i h hm⟩
def mapBk : Value → Nat
  | .map (some b) => b
  | _ => 0
def FrI (n : Nt) (nd : Nat) (hh : Int) (ls : List Int) (bs fs : List Bl) (k : Nat) : Prop := fs.length = n.cnt.toNat ∧ ∀ j, j < k → (frB fs j ↔ (j = nd ∨ (frB bs j ∧ hh ≤ ls.getD j 0)))
theorem FrI.step {n : Nt} {nd : Nat} {hh : Int} {ls : List Int} {bs fs : List Bl} {k : Nat} (h : FrI n nd hh ls bs fs k) (hk : k < n.cnt.toNat) {e : Bl} (he : e.b = true ↔ (k = nd ∨ (frB bs k ∧ hh ≤ ls.getD k 0))) : FrI n nd hh ls bs (fs.set k e) (k + 1) := by
  refine ⟨by rw [List.length_set]; exact h.1, fun j hj => ?_⟩
  by_cases c : j = k
  · subst c
    unfold frB at *
    rw [zbn (by have := h.1; omega)]; exact he
  · have := h.2 j (by omega)
    unfold frB at *
    rw [zga (by omega)]; exact this
theorem getD_repI {N k : Nat} : (List.replicate N (0 : Int)).getD k 0 = 0 := by
  rw [List.getD_eq_getElem?_getD, List.getElem?_replicate]; split <;> rfl
theorem FiCtx.start {n : Nt} {nd : Nat} {hh : Int} {ls : List Int} {bs fs : List Bl} {k : Nat} (hn : NtOk n) (hnd : n.fst ≤ (nd : Int) ∧ (nd : Int) < n.cnt) (hbl : bs.length = n.cnt.toNat) (hmk : MkOk n (nd : Int) (List.replicate n.cnt.toNat bl0) bs) (hf : FrI n nd hh ls bs fs k) (hk : n.cnt.toNat ≤ k) : FiCtx n (nd : Int) hh ls fs (List.replicate n.cnt.toNat 0) (fun _ _ => 0) 0 := by
  have hf1 : 1 ≤ n.fst := by have := hn.i0; unfold Nt.fst; omega
  refine ⟨hn, hnd, hf.1, ?_, fun j hj hfr => ?_, fun j hj hr hl => ?_, by rw [List.length_replicate], ?_, getD_repI⟩
  · rw [Int.toNat_natCast]; exact (hf.2 nd (by omega)).2 (.inl rfl)
  · rcases (hf.2 j (by omega)).1 hfr with e | ⟨-, e⟩
    · left; omega
    · right; unfold lbI; rw [Int.toNat_natCast]; exact e
  · refine (hf.2 j (by omega)).2 (.inr ⟨?_, ?_⟩)
    · have h1 := cone_rch (cone_of hn (by omega) hnd.2 hbl hmk) hr
      have h2 : (bs.getD ((j : Int)).toNat bl0).b = true := (mkL_mem.1 h1).2
      rwa [Int.toNat_natCast] at h2
    · unfold lbI at hl; rwa [Int.toNat_natCast] at hl
  · have e : insF (List.replicate n.cnt.toNat 0) = fun _ => 0 := funext fun _ => getD_repI
    rw [e]; exact Fl.start _
theorem BdI.start (N : Nat) : BdI (List.replicate N 0) (fun _ _ => 0) 0 := ⟨fun _ => by rw [getD_repI]; omega, fun _ _ => by show (0 : Int) ≤ 0; omega⟩
theorem EgOk.start : EgOk (fun _ => none) (fun _ _ => 0) := fun _ _ => rfl
theorem endP_yes (bx : Nat) : endP true bx = .pointer (some ⟨bx, 0, none⟩) := rfl
theorem nb_yes {fd : Bool} (h : (!fd) = true) : fd = false := by cases fd <;> first | rfl | cases h
theorem nb_no {fd : Bool} (h : (!fd) = false) : fd = true := by cases fd <;> first | rfl | cases h
structure CutH (n : Nt) (ls : List Int) (node h : Int) (xs : List Int) : Prop where
  sep : SepC n ls node h xs
  rch : ∀ k ∈ xs, Rch n node k
  asc : xs.Pairwise (· < ·)
  len : xs.length ≤ 4
  least : ∀ C, SepC n ls node h C → xs.length ≤ C.length
theorem CutH.of {n : Nt} {node h : Int} {ls : List Int} {fr : List Bl} {ins : List Int} {E : Nat → Nat → Int} {v : Int} {vs : List Vx} {q : Nat} {F : Vx → Option Vx} (cx : FiCtx n node h ls fr ins E v) (hs : SrI n node fr ins E vs q F) (hq : vs.length ≤ q) (hh : 1 ≤ h) (hv : v ≤ 4) : CutH n ls node h (cutF F n.cnt.toNat) := by
  obtain ⟨a, b, c⟩ := hs.cut cx hq hh
  exact ⟨b, c, cutF_asc _, by omega, fun C hC => by have := cx.weak hC; omega⟩
theorem CutH.ex {n : Nt} {node h : Int} {ls xs : List Int} (hc : CutH n ls node h xs) : SepEx n ls node h := ⟨xs, hc.len, hc.sep⟩
theorem cut_no {n : Nt} {node h : Int} {ls : List Int} {fr : List Bl} {ins : List Int} {E : Nat → Nat → Int} {v : Int} {vs : List Vx} {q : Nat} {F : Vx → Option Vx} (cx : FiCtx n node h ls fr ins E v) (hs : SrI n node fr ins E vs q F) {k : Nat} (hk : (k, false) ∈ vs) (hl : 1 ≤ k ∧ (k : Int) < n.fst) (hv : 4 ≤ v) : ¬ SepEx n ls node h := by
  rintro ⟨C, h1, h2⟩
  obtain ⟨i2, E2, c2⟩ := TrI.all cx (hs.from_ cx) _ _ _ _ (Nat.lt_succ_self _) (hs.found cx hk hl)
  have := c2.weak h2; omega
end Go.Proofs.Ytdagfahfgpjglaa
