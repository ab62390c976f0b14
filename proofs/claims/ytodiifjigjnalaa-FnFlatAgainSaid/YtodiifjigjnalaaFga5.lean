/- Texts of the law FnFlatAgain, part 5: what it uses. -/
import Derived.Test.YtodiifjigjnalaaFga4
set_option linter.unusedVariables false
set_option linter.unusedSimpArgs false
set_option maxHeartbeats 4000000
set_option maxRecDepth 100000
namespace Go.Proofs.Ytodiifjigjnalaa
open Go.RowKit Go.ChangeShapes
open Go.RowKit
theorem implAdd_step (D : List Md) (f k b : Nat) (p : Int) (t : Bool) (P : List Int) (F : Fz) (gs : List As) (v uP sv av mv : Value) (ps : List HP) (w0 : World) (l : List HP) (w : World) (hm0 : Mem w0 (bigE (fbQ b v sv av mv F.ss gs F.ms ps) :: l) w) (hd : ∀ w, Mem w0 l w → RdsDs w v D) (hP : ∀ w, Mem w0 l w → RdsW w uP 1 P.length (P.map (Value.int .i64))) (hdp : DesP D) (hkl : k < D.length) (hF : F.Ok) (hPo : PoP (D.getD k md0) (!t) P F.ss.length) (hgs : gs.map asV = F.gs) (hps : ∀ w, (bigE ps).holds w → OpsR w gs) (IH : ∀ (kx : Nat) (p2 : Int) (P2 : List Int) (F2 : Fz) (gs2 : List As) (ux sv2 av2 mv2 : Value) (ps2 l2 : List HP) (w2 : World), kx < k → F2.Ok → PoP (D.getD kx md0) true P2 F2.ss.length → gs2.map asV = F2.gs → (∀ w, (bigE ps2).holds w → OpsR w gs2) → (∀ w, Mem w0 l2 w → RdsDs w v D) → (∀ w, Mem w0 l2 w → RdsW w ux 1 P2.length (P2.map (Value.int .i64))) → Mem w0 (bigE (fbQ b v sv2 av2 mv2 F2.ss gs2 F2.ms ps2) :: l2) w2 → Calls Try.prog 72 #[.pointer (some ⟨b, 0, none⟩), .int .i64 (kx : Int), .int .i64 p2, ux, .bool false] w2 (fun e_ w_ => ∃ v_ p_, e_ = .returned v_ ∧ AddB (addF D f kx p2 true P2 F2) b v v_ p_ ∧ Mem w0 (p_ :: l2) w_)) :
   Calls Try.prog 72 #[.pointer (some ⟨b, 0, none⟩), .int .i64 (k : Int), .int .i64 p, uP, .bool t] w (fun e_ w_ => ∃ v_ p_, e_ = .returned v_ ∧ (fun u_ p_ => AddB (addF D (f + 1) k p (!t) P F) b v u_ p_) v_ p_ ∧ Mem w0 (p_ :: l) w_) := by
 have hd9 := hd w (hm0.sub (List.sublist_cons_self _ _))
 have hm9 := hd9.at (k := k) hkl
 have hP9 := sml (hP w (hm0.sub (List.sublist_cons_self _ _)))
 have hmod := hdp.2 k hkl
 have hln := hmod.cnt.md k hkl
 obtain ⟨hF1, hF2, hF3⟩ := hF
 obtain ⟨hln1, hln2, hln3, hln4⟩ := id hln
 have hdl := hmod.cnt.len
 have hfl9 : F.gs.length = gs.length := by rw [← hgs, List.length_map]
 refine zfa (N := 279) (args := [.pointer (some ⟨b, 0, none⟩), .int .i64 (k : Int), .int .i64 p, uP, .bool t]) Try.func72 rfl rfl (l := (boxE b #[v, sv, av, .slice none 0 0, mv] 114 :: rowE 38 3 sv F.ss.length (F.ss.flatMap sgC) :: rowE 89 2 av gs.length (gs.flatMap asC) :: rowE 94 4 mv F.ms.length (F.ms.flatMap mmC) :: bigE ps :: l)) hm0.unbig (zbg 1 rfl (zag (reQ 1 rfl (hvQ rfl (zch rfl rfl) (hvQ rfl (fdQ 0 rfl rfl rfl) (hvQ rfl (fdQ 0 rfl rfl rfl) (hvQ rfl (zac rfl rfl rfl (zaa 0 rfl rfl)) ?_)))))))
 refine zam 1 rfl (hvQ rfl (riQ 4 rfl rfl rfl rfl (fun w hm => ((hd w (hm.sub (.cons _ (.cons _ (.cons _ (.cons _ (.cons _ (.refl _)))))))).row))) ?_)
 refine hvQ rfl (zbb (us := [(D.getD k md0).sv, (D.getD k md0).av, (D.getD k md0).iv, (D.getD k md0).mv]) rfl rfl rfl rfl (fun w hm => ((hd w (hm.sub (.cons _ (.cons _ (.cons _ (.cons _ (.cons _ (.refl _)))))))).row)) (by omega) rfl (zbr mdC 4 (fun _ => rfl) D md0 (show k < _ by omega) rfl)) (zdn rfl (zbl (z := .agg #[.slice none 0 0, .slice none 0 0, .slice none 0 0, .slice none 0 0]) rfl rfl) ?_)
 intro b1
 refine zbh (cs' := #[(D.getD k md0).sv, (D.getD k md0).av, (D.getD k md0).iv, (D.getD k md0).mv]) (i := 0) (off := 0) (us := [(D.getD k md0).sv, (D.getD k md0).av, (D.getD k md0).iv, (D.getD k md0).mv]) rfl rfl rfl rfl rfl rfl rfl (zab hm9.s.one (zab hm9.g.one (zab hm9.x.one (zab hm9.m.one zbc)))) rfl rfl rfl (ntQ (srQ (hvQ rfl (fdQ 0 rfl rfl rfl) (hvQ rfl (zac rfl rfl rfl (zaa 0 rfl rfl)) ?_))))
 refine hvQ rfl (lnQ rfl rfl rfl (fun w hm => (((hd w (hm.sub (.cons _ (.cons _ (.cons _ (.cons _ (.cons _ (.cons _ (.refl _))))))))).at (k := k) hkl).s))) (zea rfl (rq_make (z := .int .i64 0) (s := 1) (bytes := 8) (n := (List.replicate (((D.getD k md0).ss).length) (0 : Int)).length) (cs := ((List.replicate (((D.getD k md0).ss).length) (0 : Int)).map (Value.int .i64))) rfl Try.underlying48 rfl (by decide) rfl rfl (by first | (rw [List.length_replicate]; done) | (rw [List.length_replicate]; omega)) (by first | (rw [List.length_replicate]; done) | (rw [List.length_replicate]; omega)) (by rw [List.length_replicate]; omega) (ints_make _)) ?_)
 intro g2
 refine zay 1 rfl (srQ (hvQ rfl (zax (cs := [(D.getD k md0).sv, (D.getD k md0).av, (D.getD k md0).iv, (D.getD k md0).mv]) rfl rfl rfl rfl rfl (zat 1 rfl 0 rfl)) ?_))
 refine hl_q rfl rfl rfl (zaw rfl rfl (fun w hm => zeq (D.getD k md0) w ((hd w (hm.sub (.cons _ (.cons _ (.cons _ (.cons _ (.cons _ (.cons _ (.cons _ (.refl _)))))))))).at (k := k) hkl))) ?_
 intro v3 p4 hR5
 subst hR5
 refine zay 1 rfl (zbg 1 rfl (zfi (hvQ rfl (fdQ 0 rfl rfl rfl) ?_)))
 refine hvQ rfl (zac rfl rfl rfl (zaa 2 rfl rfl)) (hvQ rfl (lnQ rfl rfl rfl (fun w hm => (((hd w (hm.sub (.cons _ (.cons _ (.cons _ (.cons _ (.cons _ (.cons _ (.cons _ (.cons _ (.refl _))))))))))).at (k := k) hkl).s))) ?_)
 refine zay 1 rfl (zaz ?_)
 refine zfe (rowE 3 1 v3 ((ptsK (D.getD k md0)).length) ((ptsK (D.getD k md0)).map (Value.int .i64)) :: rowE 3 1 (.slice (some ⟨g2, 0, none⟩) ((List.replicate (((D.getD k md0).ss).length) (0 : Int)).length) ((List.replicate (((D.getD k md0).ss).length) (0 : Int)).length)) ((([] : List Int) ++ List.replicate ((D.getD k md0).ss.length - 0) 0).length) ((([] : List Int) ++ List.replicate ((D.getD k md0).ss.length - 0) 0).map (Value.int .i64)) :: boxE b1 #[(D.getD k md0).sv, (D.getD k md0).av, (D.getD k md0).iv, (D.getD k md0).mv] 35 :: boxE b #[v, sv, av, .slice none 0 0, mv] 114 :: rowE 38 3 sv F.ss.length (F.ss.flatMap sgC) :: rowE 89 2 av gs.length (gs.flatMap asC) :: rowE 94 4 mv F.ms.length (F.ms.flatMap mmC) :: bigE ps :: l) (fun w hm => by rw [Nat.sub_zero, List.nil_append]; exact hm) ?_
 refine hc_loop5 (α := Nat) (β := Nat) (γ := List Int) (δ := List Sg) (fun i n ids S sq => (rowE 3 1 v3 ((ptsK (D.getD k md0)).length) ((ptsK (D.getD k md0)).map (Value.int .i64)) :: rowE 3 1 (.slice (some ⟨g2, 0, none⟩) ((List.replicate (((D.getD k md0).ss).length) (0 : Int)).length) ((List.replicate (((D.getD k md0).ss).length) (0 : Int)).length)) ((ids ++ List.replicate ((D.getD k md0).ss.length - i) 0).length) ((ids ++ List.replicate ((D.getD k md0).ss.length - i) 0).map (Value.int .i64)) :: boxE b1 #[(D.getD k md0).sv, (D.getD k md0).av, (D.getD k md0).iv, (D.getD k md0).mv] 35 :: boxE b #[v, sq, av, .slice none 0 0, mv] 114 :: rowE 38 3 sq S.length (S.flatMap sgC) :: rowE 89 2 av gs.length (gs.flatMap asC) :: rowE 94 4 mv F.ms.length (F.ms.flatMap mmC) :: bigE ps :: l)) (fun i n ids S sq => [(0, .pointer (some ⟨b, 0, none⟩)), (1, .int .i64 (k : Int)), (2, .int .i64 p), (3, uP), (4, .bool t), (10, .bool false), (11, .pointer (some ⟨b1, 0, none⟩)), (12, .slice (some ⟨g2, 0, none⟩) ((List.replicate (((D.getD k md0).ss).length) (0 : Int)).length) ((List.replicate (((D.getD k md0).ss).length) (0 : Int)).length)), (13, v3), (14, .int .i64 (n : Int)), (46, (D.getD k md0).sv), (47, .int .i64 (((D.getD k md0).ss).length : Int)), (48, .int .i64 (i : Int))]) (fun i n ids S sq => i ≤ (D.getD k md0).ss.length ∧ sgF (D.getD k md0) p (!t) P F.ss i = some (ids, n, S)) (fun i n ids S sq => (D.getD k md0).ss.length - i) 0 0 [] F.ss sv ⟨Nat.zero_le _, rfl⟩ (zar [48, 47, 46, 14, 13, 12, 11, 10, 4, 3, 2, 1, 0] rfl) (.refl _) ?_
 intro i n ids S sq hi6
 obtain ⟨hi, hs⟩ := hi6
 obtain ⟨hil, hin, hnn, hsl, hsu⟩ := sgF_ok hPo hln.1 i _ hi hs
 have hil : ids.length = i := hil
 have hin : InN S.length ids := hin
 have hnn : n = ptN _ (!t) i := hnn
 have hsl : F.ss.length ≤ S.length := hsl
 have hsu : S.length ≤ F.ss.length + i := hsu
 have hpl9 : (ids ++ List.replicate ((D.getD k md0).ss.length - i) 0).length = (D.getD k md0).ss.length := fill_len hil hi
 have hpk := zfx (D.getD k md0)
 refine srQ ?_
 refine zbq rfl rfl rfl rfl rfl rfl (fun h7 => ?_) (fun h7 => ?_)
 ·
  refine ntQ (tcQ rfl (zcv (sbQ (zag (reQ 1 rfl ?_)))))
  refine hvQ rfl (riQ 3 rfl rfl rfl rfl (fun w hm => (((hd w (hm.sub (.cons _ (.cons _ (.cons _ (.cons _ (.cons _ (.cons _ (.cons _ (.cons _ (.refl _))))))))))).at (k := k) hkl).s))) (hvQ rfl (zbb (us := [.int .i64 ((((D.getD k md0).ss).getD i sg0).k), .int .i64 ((((D.getD k md0).ss).getD i sg0).w), .int .i64 ((((D.getD k md0).ss).getD i sg0).i)]) rfl rfl rfl rfl (fun w hm => (((hd w (hm.sub (.cons _ (.cons _ (.cons _ (.cons _ (.cons _ (.cons _ (.cons _ (.cons _ (.refl _))))))))))).at (k := k) hkl).s)) (by omega) rfl (zbr sgC 3 (fun _ => rfl) ((D.getD k md0).ss) sg0 (show i < _ by omega) rfl)) ?_)
  refine zdn rfl (zbl (z := .agg #[.int .i64 0, .int .i64 0, .int .i64 0]) rfl rfl) ?_
  intro b8
  refine zam 1 rfl (zbh (cs' := #[.int .i64 ((((D.getD k md0).ss).getD i sg0).k), .int .i64 ((((D.getD k md0).ss).getD i sg0).w), .int .i64 ((((D.getD k md0).ss).getD i sg0).i)]) (i := 0) (off := 0) (us := [.int .i64 ((((D.getD k md0).ss).getD i sg0).k), .int .i64 ((((D.getD k md0).ss).getD i sg0).w), .int .i64 ((((D.getD k md0).ss).getD i sg0).i)]) rfl rfl rfl rfl rfl rfl rfl (zab rfl (zab rfl (zab rfl zbc))) rfl rfl rfl ?_)
  refine ntQ (srQ (hvQ rfl (fdQ 1 rfl rfl rfl) (hvQ rfl (zac rfl rfl rfl (zaa 0 rfl rfl)) (zay 1 rfl ?_))))
  refine zfg (α := Int) (fun wd => (boxE b8 #[.int .i64 ((((D.getD k md0).ss).getD i sg0).k), .int .i64 ((((D.getD k md0).ss).getD i sg0).w), .int .i64 ((((D.getD k md0).ss).getD i sg0).i)] 38 :: rowE 3 1 v3 ((ptsK (D.getD k md0)).length) ((ptsK (D.getD k md0)).map (Value.int .i64)) :: rowE 3 1 (.slice (some ⟨g2, 0, none⟩) ((List.replicate (((D.getD k md0).ss).length) (0 : Int)).length) ((List.replicate (((D.getD k md0).ss).length) (0 : Int)).length)) ((ids ++ List.replicate ((D.getD k md0).ss.length - i) 0).length) ((ids ++ List.replicate ((D.getD k md0).ss.length - i) 0).map (Value.int .i64)) :: boxE b1 #[(D.getD k md0).sv, (D.getD k md0).av, (D.getD k md0).iv, (D.getD k md0).mv] 35 :: boxE b #[v, sq, av, .slice none 0 0, mv] 114 :: rowE 38 3 sq S.length (S.flatMap sgC) :: rowE 89 2 av gs.length (gs.flatMap asC) :: rowE 94 4 mv F.ms.length (F.ms.flatMap mmC) :: bigE ps :: l)) (fun wd => [(0, .pointer (some ⟨b, 0, none⟩)), (1, .int .i64 (k : Int)), (2, .int .i64 p), (3, uP), (4, .bool t), (10, .bool false), (11, .pointer (some ⟨b1, 0, none⟩)), (12, .slice (some ⟨g2, 0, none⟩) ((List.replicate (((D.getD k md0).ss).length) (0 : Int)).length) ((List.replicate (((D.getD k md0).ss).length) (0 : Int)).length)), (13, v3), (14, .int .i64 (n : Int)), (15, .int .i64 (i : Int)), (16, .pointer (some ⟨b8, 0, none⟩)), (17, .int .i64 wd), (46, (D.getD k md0).sv), (47, .int .i64 (((D.getD k md0).ss).length : Int)), (48, .int .i64 (i : Int)), (49, .bool true)]) (fun wd => wd = wdF p ((D.getD k md0).ss.getD i sg0)) ?_ ?_
  ·
   refine zag (reQ 1 rfl ?_)
   refine zbu rfl rfl rfl rfl rfl rfl (fun h9 => ?_) (fun h9 => ?_)
   ·
    refine ntQ (zah rfl (zas (enQ 2 rfl ?_)))
    exact zde p (by unfold wdF; first | rw [if_pos (by omega)] | rw [if_neg (by omega)]) (saQ rfl) (.refl _)
   refine ntQ (fsQ rfl ?_)
   exact zde ((((D.getD k md0).ss).getD i sg0).w) (by unfold wdF; first | rw [if_pos (by omega)] | rw [if_neg (by omega)]) (saQ rfl) (.refl _)
  intro wd hm10
  have hwd := hm10
  have hpi : t = false → (isPt ((D.getD k md0).ss.getD i sg0) = true ↔ n < (ptsK (D.getD k md0)).length ∧ (ptsK (D.getD k md0)).getD n 0 = (i : Int)) := fun h9 => pts_iff hln.1 (by omega) (by rw [hnn]; unfold ptN; rw [h9]; rfl)
  refine zag (zag (reQ 1 rfl ?_))
  refine zbm (fun h11 => ?_) (fun h11 => ?_)
  ·
   refine zay 15 rfl (fsQ rfl ?_)
   refine zba (zag (reQ 3 rfl (hvQ rfl (zch rfl rfl) (hvQ rfl (fdQ 1 rfl rfl rfl) (hvQ rfl (fdQ 0 rfl rfl rfl) (hvQ rfl (zac rfl rfl rfl (zaa 4 rfl rfl)) (hvQ rfl (lnQ rfl rfl rfl (zaj 5 rfl)) (hvQ rfl (riQ 1 rfl rfl rfl rfl (zaj 2 rfl)) ?_))))))))
   refine hl_stE (i := 2) (n' := ((ids ++ List.replicate ((D.getD k md0).ss.length - i) 0).set i (S.length : Int)).length) (xs' := (((ids ++ List.replicate ((D.getD k md0).ss.length - i) 0).set i (S.length : Int)).map (Value.int .i64))) rfl rfl rfl rfl rfl rfl rfl rfl (by first | omega | (simp only [List.length_set]; omega)) List.length_set.symm (ints_set _ _ _) rfl (ntQ ?_)
   refine zey 9 [8, 7, 6, 4, 3, 2, 1, 0, 5] rfl rfl (by decide) ?_
   refine hc_draw4 (l := (boxE b8 #[.int .i64 ((((D.getD k md0).ss).getD i sg0).k), .int .i64 ((((D.getD k md0).ss).getD i sg0).w), .int .i64 ((((D.getD k md0).ss).getD i sg0).i)] 38 :: rowE 3 1 v3 ((ptsK (D.getD k md0)).length) ((ptsK (D.getD k md0)).map (Value.int .i64)) :: rowE 3 1 (.slice (some ⟨g2, 0, none⟩) ((List.replicate (((D.getD k md0).ss).length) (0 : Int)).length) ((List.replicate (((D.getD k md0).ss).length) (0 : Int)).length)) (((ids ++ List.replicate ((D.getD k md0).ss.length - i) 0).set i (S.length : Int)).length) (((ids ++ List.replicate ((D.getD k md0).ss.length - i) 0).set i (S.length : Int)).map (Value.int .i64)) :: boxE b1 #[(D.getD k md0).sv, (D.getD k md0).av, (D.getD k md0).iv, (D.getD k md0).mv] 35 :: boxE b #[v, sq, av, .slice none 0 0, mv] 114 :: rowE 89 2 av gs.length (gs.flatMap asC) :: rowE 94 4 mv F.ms.length (F.ms.flatMap mmC) :: bigE ps :: l)) (by kernel_rfl) 14 [0, 1, 2, 3, 4, 5, 6, 7, 8, 9, 10, 11, 12, 13] (List.take 14 _) (List.drop 14 _) [[], [], [1], [2], [3], [4], [], [6], [], [], [9], [7, 8, 10], [11], [5, 12]] [some 106, some 107, some 108, some 109, some 110, some 111, some 112, some 113, some 114, some 115, some 116, some 117, some 118, some 119] (fun i_ vs_ v_ p_ => match i_ with | 0 => v_ = .pointer (some ⟨b, 0, none⟩) ∧ p_ = [] | 1 => v_ = .pointer (some ⟨b, 0, none⟩) ∧ p_ = [] | 2 => v_ = .pointer (some ⟨b, 0, none⟩) ∧ p_ = [] | 3 => v_ = .pointer (some ⟨b, 0 + 1, none⟩) ∧ p_ = [] | 4 => v_ = .pointer (some ⟨b, 0 + 1 + 0, none⟩) ∧ p_ = [] | 5 => v_ = sq ∧ p_ = [] | 6 => v_ = .pointer (some ⟨b8, 0 + 0, none⟩) ∧ p_ = [] | 7 => v_ = .int .i64 ((((D.getD k md0).ss).getD i sg0).k) ∧ p_ = [] | 8 => v_ = .int .i64 wd ∧ p_ = [] | 9 => v_ = .pointer (some ⟨b8, 0 + 2, none⟩) ∧ p_ = [] | 10 => v_ = .int .i64 ((((D.getD k md0).ss).getD i sg0).i) ∧ p_ = [] | 11 => v_ = .agg #[.int .i64 ((((D.getD k md0).ss).getD i sg0).k), .int .i64 wd, .int .i64 ((((D.getD k md0).ss).getD i sg0).i)] ∧ p_ = [] | 12 => IsRow 38 3 1 ([(((D.getD k md0).ss).getD i sg0).k, wd, (((D.getD k md0).ss).getD i sg0).i].map (Value.int .i64)) v_ p_ | 13 => (∃ pm_, p_ = [pm_] ∧ (fun u_ p_ => p_ = rowE 38 3 u_ ((S ++ [(Sg.mk ((((D.getD k md0).ss).getD i sg0).k) wd ((((D.getD k md0).ss).getD i sg0).i))]).length) ((S ++ [(Sg.mk ((((D.getD k md0).ss).getD i sg0).k) wd ((((D.getD k md0).ss).getD i sg0).i))]).flatMap sgC)) v_ pm_) | _ => True) [[], [], [1], [2], [3], [4], [], [6], [], [], [9], [7, 8, 10], [11], [5, 12]] [none, none, none, none, none, none, none, none, none, none, none, none, none, some 18] [[rowE 38 3 sq S.length (S.flatMap sgC)]] [0, 1, 2, 3, 4, 5, 6, 7, 8, 9, 10, 11, 12, 13] 18 (List.take_append_drop 14 _).symm (by kernel_rfl) (by kernel_rfl) (by kernel_rfl) ?_ ?_ ?_ ?_
   · rfl
   · rfl
   ·
    refine ⟨?_, ?_, ?_, ?_, ?_, ?_, ?_, ?_, ?_, ?_, ?_, ?_, ?_, ?_, trivial⟩
    ·
     intro vf pf hmu hR
     refine zdw [] [] rfl (zbo (zar [0] rfl) ?_)
     exact zbt (zau rfl)
    ·
     intro vf pf hmu hR
     refine zdw [] [] rfl (zbo (zar [0] rfl) ?_)
     exact zbt (zau rfl)
    ·
     intro vf pf hmu hR
     have e1 := hR 1 (by decide)
     refine zdw [1] [1] rfl (zbo (sk 107 (congrArg some e1.1) (zai _)) ?_)
     exact zbt (zch rfl rfl)
    ·
     intro vf pf hmu hR
     have e2 := hR 2 (by decide)
     refine zdw [2] [2] rfl (zbo (sk 108 (congrArg some e2.1) (zai _)) ?_)
     exact zbt (fdQ 1 rfl rfl rfl)
    ·
     intro vf pf hmu hR
     have e3 := hR 3 (by decide)
     refine zdw [3] [3] rfl (zbo (sk 109 (congrArg some e3.1) (zai _)) ?_)
     exact zbt (fdQ 0 rfl rfl rfl)
    ·
     intro vf pf hmu hR
     have e4 := hR 4 (by decide)
     refine zdw [4] [4] rfl (zbe (sk 110 (congrArg some e4.1) (zai _)) (List.sublist_append_right _ _) ?_)
     exact zbt (zac rfl rfl rfl (zaa 4 rfl rfl))
    ·
     intro vf pf hmu hR
     refine zdw [] [] rfl (zbo (zar [16] rfl) ?_)
     exact zbt (fdQ 0 rfl rfl rfl)
    ·
     intro vf pf hmu hR
     have e6 := hR 6 (by decide)
     refine zdw [6] [6] rfl (zbe (sk 112 (congrArg some e6.1) (zai _)) (List.sublist_append_right _ _) ?_)
     exact zbt (zac rfl rfl rfl (zaa 0 rfl rfl))
    ·
     intro vf pf hmu hR
     refine zdw [] [] rfl (zbo (zar [17] rfl) ?_)
     exact zbt (zau rfl)
    ·
     intro vf pf hmu hR
     refine zdw [] [] rfl (zbo (zar [16] rfl) ?_)
     exact zbt (fdQ 2 rfl rfl rfl)
    ·
     intro vf pf hmu hR
     have e9 := hR 9 (by decide)
     refine zdw [9] [9] rfl (zbe (sk 115 (congrArg some e9.1) (zai _)) (List.sublist_append_right _ _) ?_)
     exact zbt (zac rfl rfl rfl (zaa 0 rfl rfl))
    ·
     intro vf pf hmu hR
     have e7 := hR 7 (by decide)
     have e8 := hR 8 (by decide)
     have e10 := hR 10 (by decide)
     refine zdw [7, 8, 10] [7, 8, 10] rfl (zbo (sk 113 (congrArg some e7.1) (sk 114 (congrArg some e8.1) (sk 116 (congrArg some e10.1) (zai _)))) ?_)
     exact zbt (zbk (cs := #[.int .i64 ((((D.getD k md0).ss).getD i sg0).k), .int .i64 wd, .int .i64 ((((D.getD k md0).ss).getD i sg0).i)]) rfl rfl rfl)
    ·
     intro vf pf hmu hR
     have e11 := hR 11 (by decide)
     refine zdw [11] [11] rfl (zbe (sk 117 (congrArg some e11.1) (zai _)) (List.sublist_append_right _ _) ?_)
     exact zak (z := .agg #[.int .i64 0, .int .i64 0, .int .i64 0]) (s := 3) (cs := ([(((D.getD k md0).ss).getD i sg0).k, wd, (((D.getD k md0).ss).getD i sg0).i].map (Value.int .i64))) rfl Try.underlying30 rfl (by decide) rfl (by kernel_rfl) rfl
    intro vf pf hmu hR
    have e5 := hR 5 (by decide)
    have e12 : IsRow 38 3 1 ([(((D.getD k md0).ss).getD i sg0).k, wd, (((D.getD k md0).ss).getD i sg0).i].map (Value.int .i64)) (vf 12) (pf 12) := hR 12 (by decide)
    obtain ⟨g12, vE12, pE12⟩ := e12
    refine Or.inl ⟨rfl, ?_⟩
    show RunM _ _ _ (pf 18) (([5, 12] : List Nat).flatMap pf ++ _) (envOf3 _ vf [5, 12] ++ _) _ _
    have hmu0 : pf 18 = [rowE 38 3 sq S.length (S.flatMap sgC)] := hmu 0 (show 0 < 1 by omega)
    rw [hmu0]
    exact zda (sk 111 (congrArg some e5.1) (sk 118 (congrArg some vE12) (zai _))) (by simp only [pE12, vE12, e5.2, fS] <;> rfl) (rm_append (d := 0) (z := .agg #[.int .i64 0, .int .i64 0, .int .i64 0]) (bytes := 24) (n' := (S ++ [(Sg.mk ((((D.getD k md0).ss).getD i sg0).k) wd ((((D.getD k md0).ss).getD i sg0).i))]).length) (xs' := ((S ++ [(Sg.mk ((((D.getD k md0).ss).getD i sg0).k) wd ((((D.getD k md0).ss).getD i sg0).i))]).flatMap sgC)) rfl Try.underlying30 rfl rfl rfl rfl (zaj 0 rfl) (zbx _) (by first | omega | (simp only [List.length_append, List.length_cons, List.length_nil]; omega)) (zcc S [(Sg.mk ((((D.getD k md0).ss).getD i sg0).k) wd ((((D.getD k md0).ss).getD i sg0).i))]) (zcz sgC S (Sg.mk ((((D.getD k md0).ss).getD i sg0).k) wd ((((D.getD k md0).ss).getD i sg0).i)) _ rfl))
   intro vf pf hmu hR
   have e0 := hR 0 (by decide)
   have e12 : IsRow 38 3 1 ([(((D.getD k md0).ss).getD i sg0).k, wd, (((D.getD k md0).ss).getD i sg0).i].map (Value.int .i64)) (vf 12) (pf 12) := hR 12 (by decide)
   obtain ⟨g12, vE12, pE12⟩ := e12
   have e13 : (∃ pm_, (pf 13) = [pm_] ∧ (fun u_ p_ => p_ = rowE 38 3 u_ ((S ++ [(Sg.mk ((((D.getD k md0).ss).getD i sg0).k) wd ((((D.getD k md0).ss).getD i sg0).i))]).length) ((S ++ [(Sg.mk ((((D.getD k md0).ss).getD i sg0).k) wd ((((D.getD k md0).ss).getD i sg0).i))]).flatMap sgC)) (vf 13) pm_) := hR 13 (by decide)
   obtain ⟨p14, pE13, hR15⟩ := e13
   obtain ⟨v13, vE13⟩ : ∃ x, vf 13 = x := ⟨_, rfl⟩
   rw [vE13] at hR15
   subst hR15
   have q0 := hR 0 (by decide)
   have q1 := hR 1 (by decide)
   have q2 := hR 2 (by decide)
   have q3 := hR 3 (by decide)
   have q4 := hR 4 (by decide)
   have q5 := hR 5 (by decide)
   have q6 := hR 6 (by decide)
   have q7 := hR 7 (by decide)
   have q8 := hR 8 (by decide)
   have q9 := hR 9 (by decide)
   have q10 := hR 10 (by decide)
   have q11 := hR 11 (by decide)
   refine zdf (zci [73, 49, 48, 47, 46, 17, 16, 15, 14, 13, 12, 11, 10, 4, 3, 2, 1, 0] _ (sk 106 (congrArg some e0.1) (sk 119 (congrArg some vE13) (zai _))) rfl) (by simp only [pE12, vE12, pE13, vE13, q0.2, q1.2, q2.2, q3.2, q4.2, q5.2, q6.2, q7.2, q8.2, q9.2, q10.2, q11.2, fS] <;> rfl) ?_
   simp only [List.drop_succ_cons, List.drop_zero]
   refine hvQ rfl (zch rfl rfl) (hvQ rfl (fdQ 1 rfl rfl rfl) (hvQ rfl (fdQ 0 rfl rfl rfl) ?_))
   refine zct (i := 1) rfl (fun ho16 => ?_)
   refine zdo (i := 6) (cs' := #[v, v13, av, .slice none 0 0, mv]) rfl rfl rfl rfl rfl rfl ho16 rfl rfl rfl rfl (zcu (zdh (zas (hvQ rfl (vaQ rfl rfl rfl) (enQ 1 rfl ?_)))))
   have hset : (ids ++ List.replicate ((D.getD k md0).ss.length - i) 0).set i (S.length : Int) = (ids ++ [(S.length : Int)]) ++ List.replicate ((D.getD k md0).ss.length - (i + 1)) 0 := set_fill hil (by omega)
   rw [hset]
   refine zbn 10 [9, 8, 7, 1, 6, 5, 4, 3] rfl rfl (by decide) ?_
   exact zen (i + 1) n (ids ++ [(S.length : Int)]) (S ++ [(Sg.mk ((((D.getD k md0).ss).getD i sg0).k) wd ((((D.getD k md0).ss).getD i sg0).i))]) v13 ⟨by omega, by rw [hwd]; exact sgF_new hs (fun h9 => by first | exact absurd (h9.1.symm.trans (show (!t) = false by rw [show t = true by assumption]; rfl)) (by decide) | (have h8 := (hpi (by assumption)).1 h9.2; omega))⟩ (by omega) (zar [48, 47, 46, 14, 13, 12, 11, 10, 4, 3, 2, 1, 0] rfl) (.refl _)
  refine zam 4 rfl (hvQ rfl (lnQ rfl rfl rfl (zaj 1 rfl)) ?_)
  refine zbq rfl rfl rfl rfl rfl rfl (fun h17 => ?_) (fun h17 => ?_)
  ·
   refine zam 4 rfl (hvQ rfl (riQ 1 rfl rfl rfl rfl (zaj 1 rfl)) (hvQ rfl (zan (u := .int .i64 ((ptsK (D.getD k md0)).getD n 0)) rfl rfl rfl (zaj 1 rfl) (zcn (show _ < (ptsK (D.getD k md0)).length by omega))) (zam 1 rfl ?_)))
   refine zbu rfl rfl rfl rfl rfl rfl (fun h18 => ?_) (fun h18 => ?_)
   ·
    refine zay 1 rfl (zah rfl (srQ ?_))
    have hpt : isPt ((D.getD k md0).ss.getD i sg0) = true := (hpi (by assumption)).2 ⟨by omega, by omega⟩
    have hc9 : (!t) = true := by rw [show t = false by assumption]; rfl
    have hnp : n < P.length := by rw [hnn]; exact ptN_lt hPo hln.1 (by omega) hc9 hpt
    have hpr := (hPo hc9).2.at hnp
    refine zam 4 rfl (hvQ rfl (riQ 1 rfl rfl rfl rfl (fun w hm => hP w (hm.sub (.cons _ (.cons _ (.cons _ (.cons _ (.cons _ (.cons _ (.cons _ (.cons _ (.cons _ (.refl _))))))))))))) ?_)
    refine hvQ rfl (liQ rfl rfl rfl (fun w hm => hP w (hm.sub (.cons _ (.cons _ (.cons _ (.cons _ (.cons _ (.cons _ (.cons _ (.cons _ (.cons _ (.refl _))))))))))))) (hvQ rfl (riQ 1 rfl rfl rfl rfl (zaj 2 rfl)) ?_)
    refine hl_stE (i := 2) (n' := ((ids ++ List.replicate ((D.getD k md0).ss.length - i) 0).set i (P.getD n 0)).length) (xs' := (((ids ++ List.replicate ((D.getD k md0).ss.length - i) 0).set i (P.getD n 0)).map (Value.int .i64))) rfl rfl rfl rfl rfl rfl rfl rfl (by first | omega | (simp only [List.length_set]; omega)) List.length_set.symm (ints_set _ _ _) rfl (ntQ (zag (reQ 1 rfl (hvQ rfl (vaQ rfl rfl rfl) (zay 1 rfl (zag (zag ?_)))))))
    have hgi : ((ids ++ List.replicate ((D.getD k md0).ss.length - i) 0).set i (P.getD n 0)).getD i 0 = P.getD n 0 := getD_set_self' (by omega)
    rcases Bool.eq_false_or_eq_true (((S.getD ((((ids ++ List.replicate ((D.getD k md0).ss.length - i) 0).set i (P.getD n 0)).getD i 0).toNat) sg0).w) != wd) with hb19 | hb19
    ·
     have hb19p : (S.getD ((((ids ++ List.replicate ((D.getD k md0).ss.length - i) 0).set i (P.getD n 0)).getD i 0).toNat) sg0).w ≠ wd := bne_iff_ne.1 hb19
     refine zbz 14 [[], [0], [1], [2], [3], [], [], [5, 6], [7], [4, 8], [9], [10], [], [11, 12]] [83, 84, 85, 86, 87, 88, 89, 90, 91, 92, 93, 94, 95, 96] [.pointer (some ⟨b, 0, none⟩), .pointer (some ⟨b, 0, none⟩), .pointer (some ⟨b, 0 + 1, none⟩), .pointer (some ⟨b, 0 + 1 + 0, none⟩), sq, .slice (some ⟨g2, 0, none⟩) ((List.replicate (((D.getD k md0).ss).length) (0 : Int)).length) ((List.replicate (((D.getD k md0).ss).length) (0 : Int)).length), .int .i64 (i : Int), elP (.slice (some ⟨g2, 0, none⟩) ((List.replicate (((D.getD k md0).ss).length) (0 : Int)).length) ((List.replicate (((D.getD k md0).ss).length) (0 : Int)).length)) (((i : Int)).toNat * 1), .int .i64 (((ids ++ List.replicate ((D.getD k md0).ss.length - i) 0).set i (P.getD n 0)).getD i 0), elP sq ((((ids ++ List.replicate ((D.getD k md0).ss.length - i) 0).set i (P.getD n 0)).getD i 0).toNat * 3), elP sq ((((ids ++ List.replicate ((D.getD k md0).ss.length - i) 0).set i (P.getD n 0)).getD i 0).toNat * 3 + 1), .int .i64 ((S.getD ((((ids ++ List.replicate ((D.getD k md0).ss.length - i) 0).set i (P.getD n 0)).getD i 0).toNat) sg0).w), .int .i64 wd, .bool true] (by kernel_rfl) rfl ?_ ?_
     ·
      exact ⟨iaQ rfl (zau rfl) rfl, iaQ rfl (zch rfl rfl) rfl, iaQ rfl (fdQ 1 rfl rfl rfl) rfl, iaQ rfl (fdQ 0 rfl rfl rfl) rfl, iaQ rfl (zac rfl rfl rfl (zaa 4 rfl rfl)) rfl, iaQ rfl (zau rfl) rfl, iaQ rfl (zau rfl) rfl, iaQ rfl (riQ 1 rfl rfl rfl rfl (zaj 2 rfl) (by omega) (by first | omega | (simp only [List.length_set]; omega))) rfl, iaQ rfl (zan (u := .int .i64 (((ids ++ List.replicate ((D.getD k md0).ss.length - i) 0).set i (P.getD n 0)).getD i 0)) rfl rfl rfl (zaj 2 rfl) (zcn (show _ < ((ids ++ List.replicate ((D.getD k md0).ss.length - i) 0).set i (P.getD n 0)).length by first | omega | (simp only [List.length_set]; omega)))) rfl, iaQ rfl (riQ 3 rfl rfl rfl rfl (zaj 5 rfl)) rfl, iaQ rfl (zaq (k0 := 1) rfl rfl rfl (zaj 5 rfl) (by omega)) rfl, iaQ rfl (zan (u := .int .i64 ((S.getD ((((ids ++ List.replicate ((D.getD k md0).ss.length - i) 0).set i (P.getD n 0)).getD i 0).toNat) sg0).w)) rfl rfl rfl (zaj 5 rfl) ((zbd sgC 3 (fun _ => rfl) S sg0 (show (((ids ++ List.replicate ((D.getD k md0).ss.length - i) 0).set i (P.getD n 0)).getD i 0).toNat < _ by omega) (by decide)).trans rfl)) rfl, iaQ rfl (zau rfl) rfl, .inl ⟨rfl, zdl (zcf rfl rfl rfl rfl) hb19⟩, trivial⟩
     simp only [List.drop_succ_cons, List.drop_zero]
     refine ntQ (zah rfl (zbg 1 rfl ?_))
     refine zao (zdv ?_)
     refine zad (zdv ?_)
     refine zad (zae ?_)
     refine zco (bigE [] :: boxE b8 #[.int .i64 ((((D.getD k md0).ss).getD i sg0).k), .int .i64 ((((D.getD k md0).ss).getD i sg0).w), .int .i64 ((((D.getD k md0).ss).getD i sg0).i)] 38 :: rowE 3 1 v3 ((ptsK (D.getD k md0)).length) ((ptsK (D.getD k md0)).map (Value.int .i64)) :: rowE 3 1 (.slice (some ⟨g2, 0, none⟩) ((List.replicate (((D.getD k md0).ss).length) (0 : Int)).length) ((List.replicate (((D.getD k md0).ss).length) (0 : Int)).length)) (((ids ++ List.replicate ((D.getD k md0).ss.length - i) 0).set i (P.getD n 0)).length) (((ids ++ List.replicate ((D.getD k md0).ss.length - i) 0).set i (P.getD n 0)).map (Value.int .i64)) :: boxE b1 #[(D.getD k md0).sv, (D.getD k md0).av, (D.getD k md0).iv, (D.getD k md0).mv] 35 :: boxE b #[v, sq, av, .slice none 0 0, mv] 114 :: rowE 38 3 sq S.length (S.flatMap sgC) :: rowE 89 2 av gs.length (gs.flatMap asC) :: rowE 94 4 mv F.ms.length (F.ms.flatMap mmC) :: bigE ps :: l) zdj ?_
     exact zcx (rs := [.tmp 10]) (vs := [.bool false]) rfl ⟨rfl, trivial⟩ rfl (fun w hm => ⟨_, bigE [], rfl, ⟨false, _, rfl, rfl, (fun h => by cases h), fun _ => by first | exact zer (zfn hs hc9 hpt (by rw [← hgi]; omega)) (by omega) | exact zfc hsF (fun h9 => by have h8 := hoi.1 h9; omega) | exact (zfb hsF hokF).trans (zep (i := xu + 1) (by rw [zeh hH, hk2, ← hzp, ← hpp]; exact hnoNone (by assumption)) _ (by omega))⟩, hm.sub (.cons_cons _ (.cons _ (.cons _ (.cons _ (.cons _ (.cons _ (.cons _ (.cons _ (.cons _ (.cons _ (.refl _)))))))))))⟩)
    have hb19p : (S.getD ((((ids ++ List.replicate ((D.getD k md0).ss.length - i) 0).set i (P.getD n 0)).getD i 0).toNat) sg0).w = wd := (bne_eq_false_iff_eq.1 hb19)
    refine zbz 14 [[], [0], [1], [2], [3], [], [], [5, 6], [7], [4, 8], [9], [10], [], [11, 12]] [83, 84, 85, 86, 87, 88, 89, 90, 91, 92, 93, 94, 95, 96] [.pointer (some ⟨b, 0, none⟩), .pointer (some ⟨b, 0, none⟩), .pointer (some ⟨b, 0 + 1, none⟩), .pointer (some ⟨b, 0 + 1 + 0, none⟩), sq, .slice (some ⟨g2, 0, none⟩) ((List.replicate (((D.getD k md0).ss).length) (0 : Int)).length) ((List.replicate (((D.getD k md0).ss).length) (0 : Int)).length), .int .i64 (i : Int), elP (.slice (some ⟨g2, 0, none⟩) ((List.replicate (((D.getD k md0).ss).length) (0 : Int)).length) ((List.replicate (((D.getD k md0).ss).length) (0 : Int)).length)) (((i : Int)).toNat * 1), .int .i64 (((ids ++ List.replicate ((D.getD k md0).ss.length - i) 0).set i (P.getD n 0)).getD i 0), elP sq ((((ids ++ List.replicate ((D.getD k md0).ss.length - i) 0).set i (P.getD n 0)).getD i 0).toNat * 3), elP sq ((((ids ++ List.replicate ((D.getD k md0).ss.length - i) 0).set i (P.getD n 0)).getD i 0).toNat * 3 + 1), .int .i64 ((S.getD ((((ids ++ List.replicate ((D.getD k md0).ss.length - i) 0).set i (P.getD n 0)).getD i 0).toNat) sg0).w), .int .i64 wd, .bool false] (by kernel_rfl) rfl ?_ ?_
    ·
     exact ⟨iaQ rfl (zau rfl) rfl, iaQ rfl (zch rfl rfl) rfl, iaQ rfl (fdQ 1 rfl rfl rfl) rfl, iaQ rfl (fdQ 0 rfl rfl rfl) rfl, iaQ rfl (zac rfl rfl rfl (zaa 4 rfl rfl)) rfl, iaQ rfl (zau rfl) rfl, iaQ rfl (zau rfl) rfl, iaQ rfl (riQ 1 rfl rfl rfl rfl (zaj 2 rfl) (by omega) (by first | omega | (simp only [List.length_set]; omega))) rfl, iaQ rfl (zan (u := .int .i64 (((ids ++ List.replicate ((D.getD k md0).ss.length - i) 0).set i (P.getD n 0)).getD i 0)) rfl rfl rfl (zaj 2 rfl) (zcn (show _ < ((ids ++ List.replicate ((D.getD k md0).ss.length - i) 0).set i (P.getD n 0)).length by first | omega | (simp only [List.length_set]; omega)))) rfl, iaQ rfl (riQ 3 rfl rfl rfl rfl (zaj 5 rfl)) rfl, iaQ rfl (zaq (k0 := 1) rfl rfl rfl (zaj 5 rfl) (by omega)) rfl, iaQ rfl (zan (u := .int .i64 ((S.getD ((((ids ++ List.replicate ((D.getD k md0).ss.length - i) 0).set i (P.getD n 0)).getD i 0).toNat) sg0).w)) rfl rfl rfl (zaj 5 rfl) ((zbd sgC 3 (fun _ => rfl) S sg0 (show (((ids ++ List.replicate ((D.getD k md0).ss.length - i) 0).set i (P.getD n 0)).getD i 0).toNat < _ by omega) (by decide)).trans rfl)) rfl, iaQ rfl (zau rfl) rfl, .inl ⟨rfl, zdl (zcf rfl rfl rfl rfl) hb19⟩, trivial⟩
    simp only [List.drop_succ_cons, List.drop_zero]
    refine ntQ (zap rfl (zcv ?_))
    refine zbj (zfp ?_)
    refine zal (zba (zas (hvQ rfl (vaQ rfl rfl rfl) (enQ 1 rfl ?_))))
    have hset : (ids ++ List.replicate ((D.getD k md0).ss.length - i) 0).set i (P.getD n 0) = (ids ++ [P.getD n 0]) ++ List.replicate ((D.getD k md0).ss.length - (i + 1)) 0 := set_fill hil (by omega)
    rw [hset]
    exact zen (i + 1) (n + 1) (ids ++ [P.getD n 0]) S sq ⟨by omega, sgF_port hs hc9 hpt (by rw [← hgi]; omega)⟩ (by omega) (zar [48, 47, 46, 14, 13, 12, 11, 10, 4, 3, 2, 1, 0] rfl) (.cons _ (.refl _))
   refine zay 1 rfl (zap rfl (zcv (zag (reQ 3 rfl (hvQ rfl (zch rfl rfl) (hvQ rfl (fdQ 1 rfl rfl rfl) (hvQ rfl (fdQ 0 rfl rfl rfl) (hvQ rfl (zac rfl rfl rfl (zaa 4 rfl rfl)) ?_))))))))
   refine hvQ rfl (lnQ rfl rfl rfl (zaj 5 rfl)) (hvQ rfl (riQ 1 rfl rfl rfl rfl (zaj 2 rfl)) ?_)
   refine hl_stE (i := 2) (n' := ((ids ++ List.replicate ((D.getD k md0).ss.length - i) 0).set i (S.length : Int)).length) (xs' := (((ids ++ List.replicate ((D.getD k md0).ss.length - i) 0).set i (S.length : Int)).map (Value.int .i64))) rfl rfl rfl rfl rfl rfl rfl rfl (by first | omega | (simp only [List.length_set]; omega)) List.length_set.symm (ints_set _ _ _) rfl (ntQ ?_)
   refine zey 9 [8, 7, 6, 4, 3, 2, 1, 0, 5] rfl rfl (by decide) ?_
   refine hc_draw4 (l := (boxE b8 #[.int .i64 ((((D.getD k md0).ss).getD i sg0).k), .int .i64 ((((D.getD k md0).ss).getD i sg0).w), .int .i64 ((((D.getD k md0).ss).getD i sg0).i)] 38 :: rowE 3 1 v3 ((ptsK (D.getD k md0)).length) ((ptsK (D.getD k md0)).map (Value.int .i64)) :: rowE 3 1 (.slice (some ⟨g2, 0, none⟩) ((List.replicate (((D.getD k md0).ss).length) (0 : Int)).length) ((List.replicate (((D.getD k md0).ss).length) (0 : Int)).length)) (((ids ++ List.replicate ((D.getD k md0).ss.length - i) 0).set i (S.length : Int)).length) (((ids ++ List.replicate ((D.getD k md0).ss.length - i) 0).set i (S.length : Int)).map (Value.int .i64)) :: boxE b1 #[(D.getD k md0).sv, (D.getD k md0).av, (D.getD k md0).iv, (D.getD k md0).mv] 35 :: boxE b #[v, sq, av, .slice none 0 0, mv] 114 :: rowE 89 2 av gs.length (gs.flatMap asC) :: rowE 94 4 mv F.ms.length (F.ms.flatMap mmC) :: bigE ps :: l)) (by kernel_rfl) 14 [0, 1, 2, 3, 4, 5, 6, 7, 8, 9, 10, 11, 12, 13] (List.take 14 _) (List.drop 14 _) [[], [], [1], [2], [3], [4], [], [6], [], [], [9], [7, 8, 10], [11], [5, 12]] [some 106, some 107, some 108, some 109, some 110, some 111, some 112, some 113, some 114, some 115, some 116, some 117, some 118, some 119] (fun i_ vs_ v_ p_ => match i_ with | 0 => v_ = .pointer (some ⟨b, 0, none⟩) ∧ p_ = [] | 1 => v_ = .pointer (some ⟨b, 0, none⟩) ∧ p_ = [] | 2 => v_ = .pointer (some ⟨b, 0, none⟩) ∧ p_ = [] | 3 => v_ = .pointer (some ⟨b, 0 + 1, none⟩) ∧ p_ = [] | 4 => v_ = .pointer (some ⟨b, 0 + 1 + 0, none⟩) ∧ p_ = [] | 5 => v_ = sq ∧ p_ = [] | 6 => v_ = .pointer (some ⟨b8, 0 + 0, none⟩) ∧ p_ = [] | 7 => v_ = .int .i64 ((((D.getD k md0).ss).getD i sg0).k) ∧ p_ = [] | 8 => v_ = .int .i64 wd ∧ p_ = [] | 9 => v_ = .pointer (some ⟨b8, 0 + 2, none⟩) ∧ p_ = [] | 10 => v_ = .int .i64 ((((D.getD k md0).ss).getD i sg0).i) ∧ p_ = [] | 11 => v_ = .agg #[.int .i64 ((((D.getD k md0).ss).getD i sg0).k), .int .i64 wd, .int .i64 ((((D.getD k md0).ss).getD i sg0).i)] ∧ p_ = [] | 12 => IsRow 38 3 1 ([(((D.getD k md0).ss).getD i sg0).k, wd, (((D.getD k md0).ss).getD i sg0).i].map (Value.int .i64)) v_ p_ | 13 => (∃ pm_, p_ = [pm_] ∧ (fun u_ p_ => p_ = rowE 38 3 u_ ((S ++ [(Sg.mk ((((D.getD k md0).ss).getD i sg0).k) wd ((((D.getD k md0).ss).getD i sg0).i))]).length) ((S ++ [(Sg.mk ((((D.getD k md0).ss).getD i sg0).k) wd ((((D.getD k md0).ss).getD i sg0).i))]).flatMap sgC)) v_ pm_) | _ => True) [[], [], [1], [2], [3], [4], [], [6], [], [], [9], [7, 8, 10], [11], [5, 12]] [none, none, none, none, none, none, none, none, none, none, none, none, none, some 18] [[rowE 38 3 sq S.length (S.flatMap sgC)]] [0, 1, 2, 3, 4, 5, 6, 7, 8, 9, 10, 11, 12, 13] 18 (List.take_append_drop 14 _).symm (by kernel_rfl) (by kernel_rfl) (by kernel_rfl) ?_ ?_ ?_ ?_
   · rfl
   · rfl
   ·
    refine ⟨?_, ?_, ?_, ?_, ?_, ?_, ?_, ?_, ?_, ?_, ?_, ?_, ?_, ?_, trivial⟩
    ·
     intro vf pf hmu hR
     refine zdw [] [] rfl (zbo (zar [0] rfl) ?_)
     exact zbt (zau rfl)
    ·
     intro vf pf hmu hR
     refine zdw [] [] rfl (zbo (zar [0] rfl) ?_)
     exact zbt (zau rfl)
    ·
     intro vf pf hmu hR
     have e1 := hR 1 (by decide)
     refine zdw [1] [1] rfl (zbo (sk 107 (congrArg some e1.1) (zai _)) ?_)
     exact zbt (zch rfl rfl)
    ·
     intro vf pf hmu hR
     have e2 := hR 2 (by decide)
     refine zdw [2] [2] rfl (zbo (sk 108 (congrArg some e2.1) (zai _)) ?_)
     exact zbt (fdQ 1 rfl rfl rfl)
    ·
     intro vf pf hmu hR
     have e3 := hR 3 (by decide)
     refine zdw [3] [3] rfl (zbo (sk 109 (congrArg some e3.1) (zai _)) ?_)
     exact zbt (fdQ 0 rfl rfl rfl)
    ·
     intro vf pf hmu hR
     have e4 := hR 4 (by decide)
     refine zdw [4] [4] rfl (zbe (sk 110 (congrArg some e4.1) (zai _)) (List.sublist_append_right _ _) ?_)
     exact zbt (zac rfl rfl rfl (zaa 4 rfl rfl))
    ·
     intro vf pf hmu hR
     refine zdw [] [] rfl (zbo (zar [16] rfl) ?_)
     exact zbt (fdQ 0 rfl rfl rfl)
    ·
     intro vf pf hmu hR
     have e6 := hR 6 (by decide)
     refine zdw [6] [6] rfl (zbe (sk 112 (congrArg some e6.1) (zai _)) (List.sublist_append_right _ _) ?_)
     exact zbt (zac rfl rfl rfl (zaa 0 rfl rfl))
    ·
     intro vf pf hmu hR
     refine zdw [] [] rfl (zbo (zar [17] rfl) ?_)
     exact zbt (zau rfl)
    ·
     intro vf pf hmu hR
     refine zdw [] [] rfl (zbo (zar [16] rfl) ?_)
     exact zbt (fdQ 2 rfl rfl rfl)
    ·
     intro vf pf hmu hR
     have e9 := hR 9 (by decide)
     refine zdw [9] [9] rfl (zbe (sk 115 (congrArg some e9.1) (zai _)) (List.sublist_append_right _ _) ?_)
     exact zbt (zac rfl rfl rfl (zaa 0 rfl rfl))
    ·
     intro vf pf hmu hR
     have e7 := hR 7 (by decide)
     have e8 := hR 8 (by decide)
     have e10 := hR 10 (by decide)
     refine zdw [7, 8, 10] [7, 8, 10] rfl (zbo (sk 113 (congrArg some e7.1) (sk 114 (congrArg some e8.1) (sk 116 (congrArg some e10.1) (zai _)))) ?_)
     exact zbt (zbk (cs := #[.int .i64 ((((D.getD k md0).ss).getD i sg0).k), .int .i64 wd, .int .i64 ((((D.getD k md0).ss).getD i sg0).i)]) rfl rfl rfl)
    ·
     intro vf pf hmu hR
     have e11 := hR 11 (by decide)
     refine zdw [11] [11] rfl (zbe (sk 117 (congrArg some e11.1) (zai _)) (List.sublist_append_right _ _) ?_)
     exact zak (z := .agg #[.int .i64 0, .int .i64 0, .int .i64 0]) (s := 3) (cs := ([(((D.getD k md0).ss).getD i sg0).k, wd, (((D.getD k md0).ss).getD i sg0).i].map (Value.int .i64))) rfl Try.underlying30 rfl (by decide) rfl (by kernel_rfl) rfl
    intro vf pf hmu hR
    have e5 := hR 5 (by decide)
    have e12 : IsRow 38 3 1 ([(((D.getD k md0).ss).getD i sg0).k, wd, (((D.getD k md0).ss).getD i sg0).i].map (Value.int .i64)) (vf 12) (pf 12) := hR 12 (by decide)
    obtain ⟨g20, vE12, pE12⟩ := e12
    refine Or.inl ⟨rfl, ?_⟩
    show RunM _ _ _ (pf 18) (([5, 12] : List Nat).flatMap pf ++ _) (envOf3 _ vf [5, 12] ++ _) _ _
    have hmu0 : pf 18 = [rowE 38 3 sq S.length (S.flatMap sgC)] := hmu 0 (show 0 < 1 by omega)
    rw [hmu0]
    exact zda (sk 111 (congrArg some e5.1) (sk 118 (congrArg some vE12) (zai _))) (by simp only [pE12, vE12, e5.2, fS] <;> rfl) (rm_append (d := 0) (z := .agg #[.int .i64 0, .int .i64 0, .int .i64 0]) (bytes := 24) (n' := (S ++ [(Sg.mk ((((D.getD k md0).ss).getD i sg0).k) wd ((((D.getD k md0).ss).getD i sg0).i))]).length) (xs' := ((S ++ [(Sg.mk ((((D.getD k md0).ss).getD i sg0).k) wd ((((D.getD k md0).ss).getD i sg0).i))]).flatMap sgC)) rfl Try.underlying30 rfl rfl rfl rfl (zaj 0 rfl) (zbx _) (by first | omega | (simp only [List.length_append, List.length_cons, List.length_nil]; omega)) (zcc S [(Sg.mk ((((D.getD k md0).ss).getD i sg0).k) wd ((((D.getD k md0).ss).getD i sg0).i))]) (zcz sgC S (Sg.mk ((((D.getD k md0).ss).getD i sg0).k) wd ((((D.getD k md0).ss).getD i sg0).i)) _ rfl))
   intro vf pf hmu hR
   have e0 := hR 0 (by decide)
   have e12 : IsRow 38 3 1 ([(((D.getD k md0).ss).getD i sg0).k, wd, (((D.getD k md0).ss).getD i sg0).i].map (Value.int .i64)) (vf 12) (pf 12) := hR 12 (by decide)
   obtain ⟨g20, vE12, pE12⟩ := e12
   have e13 : (∃ pm_, (pf 13) = [pm_] ∧ (fun u_ p_ => p_ = rowE 38 3 u_ ((S ++ [(Sg.mk ((((D.getD k md0).ss).getD i sg0).k) wd ((((D.getD k md0).ss).getD i sg0).i))]).length) ((S ++ [(Sg.mk ((((D.getD k md0).ss).getD i sg0).k) wd ((((D.getD k md0).ss).getD i sg0).i))]).flatMap sgC)) (vf 13) pm_) := hR 13 (by decide)
   obtain ⟨p22, pE13, hR23⟩ := e13
   obtain ⟨v21, vE13⟩ : ∃ x, vf 13 = x := ⟨_, rfl⟩
   rw [vE13] at hR23
   subst hR23
   have q0 := hR 0 (by decide)
   have q1 := hR 1 (by decide)
   have q2 := hR 2 (by decide)
   have q3 := hR 3 (by decide)
   have q4 := hR 4 (by decide)
   have q5 := hR 5 (by decide)
   have q6 := hR 6 (by decide)
   have q7 := hR 7 (by decide)
   have q8 := hR 8 (by decide)
   have q9 := hR 9 (by decide)
   have q10 := hR 10 (by decide)
   have q11 := hR 11 (by decide)
   refine zdf (zci [73, 49, 48, 47, 46, 17, 16, 15, 14, 13, 12, 11, 10, 4, 3, 2, 1, 0] _ (sk 106 (congrArg some e0.1) (sk 119 (congrArg some vE13) (zai _))) rfl) (by simp only [pE12, vE12, pE13, vE13, q0.2, q1.2, q2.2, q3.2, q4.2, q5.2, q6.2, q7.2, q8.2, q9.2, q10.2, q11.2, fS] <;> rfl) ?_
   simp only [List.drop_succ_cons, List.drop_zero]
   refine hvQ rfl (zch rfl rfl) (hvQ rfl (fdQ 1 rfl rfl rfl) (hvQ rfl (fdQ 0 rfl rfl rfl) ?_))
   refine zct (i := 1) rfl (fun ho24 => ?_)
   refine zdo (i := 6) (cs' := #[v, v21, av, .slice none 0 0, mv]) rfl rfl rfl rfl rfl rfl ho24 rfl rfl rfl rfl (zcu (zdh (zas (hvQ rfl (vaQ rfl rfl rfl) (enQ 1 rfl ?_)))))
   have hset : (ids ++ List.replicate ((D.getD k md0).ss.length - i) 0).set i (S.length : Int) = (ids ++ [(S.length : Int)]) ++ List.replicate ((D.getD k md0).ss.length - (i + 1)) 0 := set_fill hil (by omega)
   rw [hset]
   refine zbn 10 [9, 8, 7, 1, 6, 5, 4, 3] rfl rfl (by decide) ?_
   exact zen (i + 1) n (ids ++ [(S.length : Int)]) (S ++ [(Sg.mk ((((D.getD k md0).ss).getD i sg0).k) wd ((((D.getD k md0).ss).getD i sg0).i))]) v21 ⟨by omega, by rw [hwd]; exact sgF_new hs (fun h9 => by first | exact absurd (h9.1.symm.trans (show (!t) = false by rw [show t = true by assumption]; rfl)) (by decide) | (have h8 := (hpi (by assumption)).1 h9.2; omega))⟩ (by omega) (zar [48, 47, 46, 14, 13, 12, 11, 10, 4, 3, 2, 1, 0] rfl) (.refl _)
  refine zay 9 rfl (zap rfl (zcv (srQ ?_)))
  refine zam 3 rfl (hvQ rfl (zch rfl rfl) (hvQ rfl (fdQ 1 rfl rfl rfl) (hvQ rfl (fdQ 0 rfl rfl rfl) (hvQ rfl (zac rfl rfl rfl (zaa 4 rfl rfl)) (hvQ rfl (lnQ rfl rfl rfl (zaj 5 rfl)) (hvQ rfl (riQ 1 rfl rfl rfl rfl (zaj 2 rfl)) ?_))))))
  refine hl_stE (i := 2) (n' := ((ids ++ List.replicate ((D.getD k md0).ss.length - i) 0).set i (S.length : Int)).length) (xs' := (((ids ++ List.replicate ((D.getD k md0).ss.length - i) 0).set i (S.length : Int)).map (Value.int .i64))) rfl rfl rfl rfl rfl rfl rfl rfl (by first | omega | (simp only [List.length_set]; omega)) List.length_set.symm (ints_set _ _ _) rfl (ntQ ?_)
  refine zey 9 [8, 7, 6, 4, 3, 2, 1, 0, 5] rfl rfl (by decide) ?_
  refine hc_draw4 (l := (boxE b8 #[.int .i64 ((((D.getD k md0).ss).getD i sg0).k), .int .i64 ((((D.getD k md0).ss).getD i sg0).w), .int .i64 ((((D.getD k md0).ss).getD i sg0).i)] 38 :: rowE 3 1 v3 ((ptsK (D.getD k md0)).length) ((ptsK (D.getD k md0)).map (Value.int .i64)) :: rowE 3 1 (.slice (some ⟨g2, 0, none⟩) ((List.replicate (((D.getD k md0).ss).length) (0 : Int)).length) ((List.replicate (((D.getD k md0).ss).length) (0 : Int)).length)) (((ids ++ List.replicate ((D.getD k md0).ss.length - i) 0).set i (S.length : Int)).length) (((ids ++ List.replicate ((D.getD k md0).ss.length - i) 0).set i (S.length : Int)).map (Value.int .i64)) :: boxE b1 #[(D.getD k md0).sv, (D.getD k md0).av, (D.getD k md0).iv, (D.getD k md0).mv] 35 :: boxE b #[v, sq, av, .slice none 0 0, mv] 114 :: rowE 89 2 av gs.length (gs.flatMap asC) :: rowE 94 4 mv F.ms.length (F.ms.flatMap mmC) :: bigE ps :: l)) (by kernel_rfl) 14 [0, 1, 2, 3, 4, 5, 6, 7, 8, 9, 10, 11, 12, 13] (List.take 14 _) (List.drop 14 _) [[], [], [1], [2], [3], [4], [], [6], [], [], [9], [7, 8, 10], [11], [5, 12]] [some 106, some 107, some 108, some 109, some 110, some 111, some 112, some 113, some 114, some 115, some 116, some 117, some 118, some 119] (fun i_ vs_ v_ p_ => match i_ with | 0 => v_ = .pointer (some ⟨b, 0, none⟩) ∧ p_ = [] | 1 => v_ = .pointer (some ⟨b, 0, none⟩) ∧ p_ = [] | 2 => v_ = .pointer (some ⟨b, 0, none⟩) ∧ p_ = [] | 3 => v_ = .pointer (some ⟨b, 0 + 1, none⟩) ∧ p_ = [] | 4 => v_ = .pointer (some ⟨b, 0 + 1 + 0, none⟩) ∧ p_ = [] | 5 => v_ = sq ∧ p_ = [] | 6 => v_ = .pointer (some ⟨b8, 0 + 0, none⟩) ∧ p_ = [] | 7 => v_ = .int .i64 ((((D.getD k md0).ss).getD i sg0).k) ∧ p_ = [] | 8 => v_ = .int .i64 wd ∧ p_ = [] | 9 => v_ = .pointer (some ⟨b8, 0 + 2, none⟩) ∧ p_ = [] | 10 => v_ = .int .i64 ((((D.getD k md0).ss).getD i sg0).i) ∧ p_ = [] | 11 => v_ = .agg #[.int .i64 ((((D.getD k md0).ss).getD i sg0).k), .int .i64 wd, .int .i64 ((((D.getD k md0).ss).getD i sg0).i)] ∧ p_ = [] | 12 => IsRow 38 3 1 ([(((D.getD k md0).ss).getD i sg0).k, wd, (((D.getD k md0).ss).getD i sg0).i].map (Value.int .i64)) v_ p_ | 13 => (∃ pm_, p_ = [pm_] ∧ (fun u_ p_ => p_ = rowE 38 3 u_ ((S ++ [(Sg.mk ((((D.getD k md0).ss).getD i sg0).k) wd ((((D.getD k md0).ss).getD i sg0).i))]).length) ((S ++ [(Sg.mk ((((D.getD k md0).ss).getD i sg0).k) wd ((((D.getD k md0).ss).getD i sg0).i))]).flatMap sgC)) v_ pm_) | _ => True) [[], [], [1], [2], [3], [4], [], [6], [], [], [9], [7, 8, 10], [11], [5, 12]] [none, none, none, none, none, none, none, none, none, none, none, none, none, some 18] [[rowE 38 3 sq S.length (S.flatMap sgC)]] [0, 1, 2, 3, 4, 5, 6, 7, 8, 9, 10, 11, 12, 13] 18 (List.take_append_drop 14 _).symm (by kernel_rfl) (by kernel_rfl) (by kernel_rfl) ?_ ?_ ?_ ?_
  · rfl
  · rfl
  ·
   refine ⟨?_, ?_, ?_, ?_, ?_, ?_, ?_, ?_, ?_, ?_, ?_, ?_, ?_, ?_, trivial⟩
   ·
    intro vf pf hmu hR
    refine zdw [] [] rfl (zbo (zar [0] rfl) ?_)
    exact zbt (zau rfl)
   ·
    intro vf pf hmu hR
    refine zdw [] [] rfl (zbo (zar [0] rfl) ?_)
    exact zbt (zau rfl)
   ·
    intro vf pf hmu hR
    have e1 := hR 1 (by decide)
    refine zdw [1] [1] rfl (zbo (sk 107 (congrArg some e1.1) (zai _)) ?_)
    exact zbt (zch rfl rfl)
   ·
    intro vf pf hmu hR
    have e2 := hR 2 (by decide)
    refine zdw [2] [2] rfl (zbo (sk 108 (congrArg some e2.1) (zai _)) ?_)
    exact zbt (fdQ 1 rfl rfl rfl)
   ·
    intro vf pf hmu hR
    have e3 := hR 3 (by decide)
    refine zdw [3] [3] rfl (zbo (sk 109 (congrArg some e3.1) (zai _)) ?_)
    exact zbt (fdQ 0 rfl rfl rfl)
   ·
    intro vf pf hmu hR
    have e4 := hR 4 (by decide)
    refine zdw [4] [4] rfl (zbe (sk 110 (congrArg some e4.1) (zai _)) (List.sublist_append_right _ _) ?_)
    exact zbt (zac rfl rfl rfl (zaa 4 rfl rfl))
   ·
    intro vf pf hmu hR
    refine zdw [] [] rfl (zbo (zar [16] rfl) ?_)
    exact zbt (fdQ 0 rfl rfl rfl)
   ·
    intro vf pf hmu hR
    have e6 := hR 6 (by decide)
    refine zdw [6] [6] rfl (zbe (sk 112 (congrArg some e6.1) (zai _)) (List.sublist_append_right _ _) ?_)
    exact zbt (zac rfl rfl rfl (zaa 0 rfl rfl))
   ·
    intro vf pf hmu hR
    refine zdw [] [] rfl (zbo (zar [17] rfl) ?_)
    exact zbt (zau rfl)
   ·
    intro vf pf hmu hR
    refine zdw [] [] rfl (zbo (zar [16] rfl) ?_)
    exact zbt (fdQ 2 rfl rfl rfl)
   ·
    intro vf pf hmu hR
    have e9 := hR 9 (by decide)
    refine zdw [9] [9] rfl (zbe (sk 115 (congrArg some e9.1) (zai _)) (List.sublist_append_right _ _) ?_)
    exact zbt (zac rfl rfl rfl (zaa 0 rfl rfl))
   ·
    intro vf pf hmu hR
    have e7 := hR 7 (by decide)
    have e8 := hR 8 (by decide)
    have e10 := hR 10 (by decide)
    refine zdw [7, 8, 10] [7, 8, 10] rfl (zbo (sk 113 (congrArg some e7.1) (sk 114 (congrArg some e8.1) (sk 116 (congrArg some e10.1) (zai _)))) ?_)
    exact zbt (zbk (cs := #[.int .i64 ((((D.getD k md0).ss).getD i sg0).k), .int .i64 wd, .int .i64 ((((D.getD k md0).ss).getD i sg0).i)]) rfl rfl rfl)
   ·
    intro vf pf hmu hR
    have e11 := hR 11 (by decide)
    refine zdw [11] [11] rfl (zbe (sk 117 (congrArg some e11.1) (zai _)) (List.sublist_append_right _ _) ?_)
    exact zak (z := .agg #[.int .i64 0, .int .i64 0, .int .i64 0]) (s := 3) (cs := ([(((D.getD k md0).ss).getD i sg0).k, wd, (((D.getD k md0).ss).getD i sg0).i].map (Value.int .i64))) rfl Try.underlying30 rfl (by decide) rfl (by kernel_rfl) rfl
   intro vf pf hmu hR
   have e5 := hR 5 (by decide)
   have e12 : IsRow 38 3 1 ([(((D.getD k md0).ss).getD i sg0).k, wd, (((D.getD k md0).ss).getD i sg0).i].map (Value.int .i64)) (vf 12) (pf 12) := hR 12 (by decide)
   obtain ⟨g25, vE12, pE12⟩ := e12
   refine Or.inl ⟨rfl, ?_⟩
   show RunM _ _ _ (pf 18) (([5, 12] : List Nat).flatMap pf ++ _) (envOf3 _ vf [5, 12] ++ _) _ _
   have hmu0 : pf 18 = [rowE 38 3 sq S.length (S.flatMap sgC)] := hmu 0 (show 0 < 1 by omega)
   rw [hmu0]
   exact zda (sk 111 (congrArg some e5.1) (sk 118 (congrArg some vE12) (zai _))) (by simp only [pE12, vE12, e5.2, fS] <;> rfl) (rm_append (d := 0) (z := .agg #[.int .i64 0, .int .i64 0, .int .i64 0]) (bytes := 24) (n' := (S ++ [(Sg.mk ((((D.getD k md0).ss).getD i sg0).k) wd ((((D.getD k md0).ss).getD i sg0).i))]).length) (xs' := ((S ++ [(Sg.mk ((((D.getD k md0).ss).getD i sg0).k) wd ((((D.getD k md0).ss).getD i sg0).i))]).flatMap sgC)) rfl Try.underlying30 rfl rfl rfl rfl (zaj 0 rfl) (zbx _) (by first | omega | (simp only [List.length_append, List.length_cons, List.length_nil]; omega)) (zcc S [(Sg.mk ((((D.getD k md0).ss).getD i sg0).k) wd ((((D.getD k md0).ss).getD i sg0).i))]) (zcz sgC S (Sg.mk ((((D.getD k md0).ss).getD i sg0).k) wd ((((D.getD k md0).ss).getD i sg0).i)) _ rfl))
  intro vf pf hmu hR
  have e0 := hR 0 (by decide)
  have e12 : IsRow 38 3 1 ([(((D.getD k md0).ss).getD i sg0).k, wd, (((D.getD k md0).ss).getD i sg0).i].map (Value.int .i64)) (vf 12) (pf 12) := hR 12 (by decide)
  obtain ⟨g25, vE12, pE12⟩ := e12
  have e13 : (∃ pm_, (pf 13) = [pm_] ∧ (fun u_ p_ => p_ = rowE 38 3 u_ ((S ++ [(Sg.mk ((((D.getD k md0).ss).getD i sg0).k) wd ((((D.getD k md0).ss).getD i sg0).i))]).length) ((S ++ [(Sg.mk ((((D.getD k md0).ss).getD i sg0).k) wd ((((D.getD k md0).ss).getD i sg0).i))]).flatMap sgC)) (vf 13) pm_) := hR 13 (by decide)
  obtain ⟨p27, pE13, hR28⟩ := e13
  obtain ⟨v26, vE13⟩ : ∃ x, vf 13 = x := ⟨_, rfl⟩
  rw [vE13] at hR28
  subst hR28
  have q0 := hR 0 (by decide)
  have q1 := hR 1 (by decide)
  have q2 := hR 2 (by decide)
  have q3 := hR 3 (by decide)
  have q4 := hR 4 (by decide)
  have q5 := hR 5 (by decide)
  have q6 := hR 6 (by decide)
  have q7 := hR 7 (by decide)
  have q8 := hR 8 (by decide)
  have q9 := hR 9 (by decide)
  have q10 := hR 10 (by decide)
  have q11 := hR 11 (by decide)
  refine zdf (zci [73, 49, 48, 47, 46, 17, 16, 15, 14, 13, 12, 11, 10, 4, 3, 2, 1, 0] _ (sk 106 (congrArg some e0.1) (sk 119 (congrArg some vE13) (zai _))) rfl) (by simp only [pE12, vE12, pE13, vE13, q0.2, q1.2, q2.2, q3.2, q4.2, q5.2, q6.2, q7.2, q8.2, q9.2, q10.2, q11.2, fS] <;> rfl) ?_
  simp only [List.drop_succ_cons, List.drop_zero]
  refine hvQ rfl (zch rfl rfl) (hvQ rfl (fdQ 1 rfl rfl rfl) (hvQ rfl (fdQ 0 rfl rfl rfl) ?_))
  refine zct (i := 1) rfl (fun ho29 => ?_)
  refine zdo (i := 6) (cs' := #[v, v26, av, .slice none 0 0, mv]) rfl rfl rfl rfl rfl rfl ho29 rfl rfl rfl rfl (zcu (zdh (zas (hvQ rfl (vaQ rfl rfl rfl) (enQ 1 rfl ?_)))))
  have hset : (ids ++ List.replicate ((D.getD k md0).ss.length - i) 0).set i (S.length : Int) = (ids ++ [(S.length : Int)]) ++ List.replicate ((D.getD k md0).ss.length - (i + 1)) 0 := set_fill hil (by omega)
  rw [hset]
  refine zbn 10 [9, 8, 7, 1, 6, 5, 4, 3] rfl rfl (by decide) ?_
  exact zen (i + 1) n (ids ++ [(S.length : Int)]) (S ++ [(Sg.mk ((((D.getD k md0).ss).getD i sg0).k) wd ((((D.getD k md0).ss).getD i sg0).i))]) v26 ⟨by omega, by rw [hwd]; exact sgF_new hs (fun h9 => by first | exact absurd (h9.1.symm.trans (show (!t) = false by rw [show t = true by assumption]; rfl)) (by decide) | (have h8 := (hpi (by assumption)).1 h9.2; omega))⟩ (by omega) (zar [48, 47, 46, 14, 13, 12, 11, 10, 4, 3, 2, 1, 0] rfl) (.refl _)
 refine ntQ (fcQ rfl ?_)
 refine zbj (zeb ?_)
 refine zal (zba (zfi (hvQ rfl (fdQ 1 rfl rfl rfl) (hvQ rfl (zac rfl rfl rfl (zaa 2 rfl rfl)) ?_))))
 refine hvQ rfl (lnQ rfl rfl rfl (fun w hm => (((hd w (hm.sub (.cons _ (.cons _ (.cons _ (.cons _ (.cons _ (.cons _ (.cons _ (.cons _ (.refl _))))))))))).at (k := k) hkl).g))) (zay 1 rfl (zaz ?_))
 have hsF : sgF (D.getD k md0) p (!t) P F.ss (D.getD k md0).ss.length = some (ids, n, S) := by rw [show (D.getD k md0).ss.length = i by omega]; exact hs
 have hze : (ids ++ List.replicate ((D.getD k md0).ss.length - i) 0) = ids := fill_end (by omega)
 rw [hze]
 refine lkQ4 (α := Nat) (β := List As) (γ := Value) (δ := List HP) [0, 1, 2, 3, 4, 10, 11, 12, 13, 14, 46, 47, 48, 49, 125, 126] rfl (fun ax G av2 ps2 => (rowE 3 1 (.slice (some ⟨g2, 0, none⟩) ((List.replicate (((D.getD k md0).ss).length) (0 : Int)).length) ((List.replicate (((D.getD k md0).ss).length) (0 : Int)).length)) ids.length (ids.map (Value.int .i64)) :: boxE b1 #[(D.getD k md0).sv, (D.getD k md0).av, (D.getD k md0).iv, (D.getD k md0).mv] 35 :: boxE b #[v, sq, av2, .slice none 0 0, mv] 114 :: rowE 38 3 sq S.length (S.flatMap sgC) :: rowE 89 2 av2 G.length (G.flatMap asC) :: rowE 94 4 mv F.ms.length (F.ms.flatMap mmC) :: bigE ps2 :: l)) (fun ax G av2 ps2 => [(127, .int .i64 (ax : Int))]) (fun ax G av2 ps2 => ax ≤ (D.getD k md0).gs.length ∧ G.map asV = F.gs ++ ((D.getD k md0).gs.take ax).map (asF ids p) ∧ ∀ w, (bigE ps2).holds w → OpsR w G) (fun ax G av2 ps2 => (D.getD k md0).gs.length - ax) 0 gs av ps ⟨Nat.zero_le _, by simp [hgs], hps⟩ (saQ rfl) (.cons _ (.refl _)) ?_
 intro ax G av2 ps2 hi30
 obtain ⟨ha, hG, hpq⟩ := hi30
 have hGl : G.length = F.gs.length + ax := by have h9 := congrArg List.length hG; rw [List.length_map, List.length_append, List.length_map, List.length_take] at h9; omega
 refine srQ ?_
 refine zbq rfl rfl rfl rfl rfl rfl (fun h31 => ?_) (fun h31 => ?_)
 ·
  refine ntQ (tcQ rfl (zcv (sbQ (srQ ?_))))
  refine hvQ rfl (riQ 2 rfl rfl rfl rfl (fun w hm => (((hd w (hm.sub (.cons _ (.cons _ (.cons _ (.cons _ (.cons _ (.cons _ (.cons _ (.refl _)))))))))).at (k := k) hkl).g))) (hvQ rfl (zbb (us := [.int .i64 ((((D.getD k md0).gs).getD ax as0).t), (((D.getD k md0).gs).getD ax as0).ov]) rfl rfl rfl rfl (fun w hm => (((hd w (hm.sub (.cons _ (.cons _ (.cons _ (.cons _ (.cons _ (.cons _ (.cons _ (.refl _)))))))))).at (k := k) hkl).g)) (by omega) rfl (zbr asC 2 (fun _ => rfl) ((D.getD k md0).gs) as0 (show ax < _ by omega) rfl)) ?_)
  refine zdn rfl (zbl (z := .agg #[.int .i64 0, .slice none 0 0]) rfl rfl) ?_
  intro b32
  refine zbh (cs' := #[.int .i64 ((((D.getD k md0).gs).getD ax as0).t), (((D.getD k md0).gs).getD ax as0).ov]) (i := 0) (off := 0) (us := [.int .i64 ((((D.getD k md0).gs).getD ax as0).t), (((D.getD k md0).gs).getD ax as0).ov]) rfl rfl rfl rfl rfl rfl rfl (zab rfl (zab (hm9.o.at (k := ax) (by omega)).one zbc)) rfl rfl rfl (ntQ (srQ ?_))
  obtain ⟨⟨hgt, -⟩, hgo9⟩ := (show (_ ∧ _) ∧ OpsP (D.getD k md0).ss.length ((D.getD k md0).gs.getD ax as0).os from ⟨(hmod.gs ax (by omega)).tgt, (hmod.gs ax (by omega)).2⟩)
  refine zam 1 rfl (hvQ rfl (fdQ 0 rfl rfl rfl) (hvQ rfl (zac rfl rfl rfl (zaa 0 rfl rfl)) (hvQ rfl (riQ 1 rfl rfl rfl rfl (zaj 1 rfl)) (hvQ rfl (lzQ rfl rfl rfl (zaj 1 rfl)) (hvQ rfl (zbk (cs := #[.int .i64 (ids.getD (((((D.getD k md0).gs).getD ax as0).t).toNat) 0), .slice none 0 0]) rfl rfl rfl) ?_)))))
  refine zdn rfl (zbl (z := .agg #[.int .i64 0, .slice none 0 0]) rfl rfl) ?_
  intro b33
  refine zbh (cs' := #[.int .i64 (ids.getD (((((D.getD k md0).gs).getD ax as0).t).toNat) 0), .slice none 0 0]) (i := 0) (off := 0) (us := [.int .i64 (ids.getD (((((D.getD k md0).gs).getD ax as0).t).toNat) 0), .slice none 0 0]) rfl rfl rfl rfl rfl rfl rfl (zab rfl (zab rfl zbc)) rfl rfl rfl (ntQ (zfi (hvQ rfl (fdQ 1 rfl rfl rfl) (hvQ rfl (zac rfl rfl rfl (zaa 1 rfl rfl)) ?_))))
  refine hvQ rfl (lnQ rfl rfl rfl (fun w hm => (((hd w (hm.sub (.cons _ (.cons _ (.cons _ (.cons _ (.cons _ (.cons _ (.cons _ (.cons _ (.cons _ (.refl _)))))))))))).at (k := k) hkl).o.at (k := ax) (by omega)))) (zay 1 rfl (zaz ?_))
  refine zfe (rowE 97 3 (.slice none 0 0) (([] : List Oq).length) (([] : List Oq).flatMap oqC) :: boxE b33 #[.int .i64 (ids.getD (((((D.getD k md0).gs).getD ax as0).t).toNat) 0), .slice none 0 0] 89 :: boxE b32 #[.int .i64 ((((D.getD k md0).gs).getD ax as0).t), (((D.getD k md0).gs).getD ax as0).ov] 89 :: rowE 3 1 (.slice (some ⟨g2, 0, none⟩) ((List.replicate (((D.getD k md0).ss).length) (0 : Int)).length) ((List.replicate (((D.getD k md0).ss).length) (0 : Int)).length)) ids.length (ids.map (Value.int .i64)) :: boxE b1 #[(D.getD k md0).sv, (D.getD k md0).av, (D.getD k md0).iv, (D.getD k md0).mv] 35 :: boxE b #[v, sq, av2, .slice none 0 0, mv] 114 :: rowE 38 3 sq S.length (S.flatMap sgC) :: rowE 89 2 av2 G.length (G.flatMap asC) :: rowE 94 4 mv F.ms.length (F.ms.flatMap mmC) :: bigE ps2 :: l) (fun w hm => hm.nilRow 97 3) ?_
  refine lkQ3 (α := Nat) (β := List Oq) (γ := Value) [0, 1, 2, 3, 4, 10, 11, 12, 13, 14, 19, 20, 46, 47, 48, 49, 125, 126, 127, 128, 138, 139] rfl (fun bq os ov => (rowE 97 3 ov os.length (os.flatMap oqC) :: boxE b33 #[.int .i64 (ids.getD (((((D.getD k md0).gs).getD ax as0).t).toNat) 0), ov] 89 :: boxE b32 #[.int .i64 ((((D.getD k md0).gs).getD ax as0).t), (((D.getD k md0).gs).getD ax as0).ov] 89 :: rowE 3 1 (.slice (some ⟨g2, 0, none⟩) ((List.replicate (((D.getD k md0).ss).length) (0 : Int)).length) ((List.replicate (((D.getD k md0).ss).length) (0 : Int)).length)) ids.length (ids.map (Value.int .i64)) :: boxE b1 #[(D.getD k md0).sv, (D.getD k md0).av, (D.getD k md0).iv, (D.getD k md0).mv] 35 :: boxE b #[v, sq, av2, .slice none 0 0, mv] 114 :: rowE 38 3 sq S.length (S.flatMap sgC) :: rowE 89 2 av2 G.length (G.flatMap asC) :: rowE 94 4 mv F.ms.length (F.ms.flatMap mmC) :: bigE ps2 :: l)) (fun bq os ov => [(140, .int .i64 (bq : Int))]) (fun bq os ov => bq ≤ ((D.getD k md0).gs.getD ax as0).os.length ∧ os = (((D.getD k md0).gs.getD ax as0).os.take bq).map (opF ids p)) (fun bq os ov => ((D.getD k md0).gs.getD ax as0).os.length - bq) 0 [] _ ⟨Nat.zero_le _, rfl⟩ (saQ rfl) (.refl _) ?_
  intro bq os ov hi34
  obtain ⟨hb, hos⟩ := hi34
  have hol : os.length = bq := by rw [hos, List.length_map, List.length_take]; omega
  have hgl15 := hgo9.len
  refine srQ ?_
  refine zbq rfl rfl rfl rfl rfl rfl (fun h35 => ?_) (fun h35 => ?_)
  ·
   refine ntQ (tcQ rfl (zcv (sbQ (srQ ?_))))
   refine hvQ rfl (riQ 3 rfl rfl rfl rfl (fun w hm => (((hd w (hm.sub (.cons _ (.cons _ (.cons _ (.cons _ (.cons _ (.cons _ (.cons _ (.cons _ (.cons _ (.cons _ (.refl _))))))))))))).at (k := k) hkl).o.at (k := ax) (by omega)))) (hvQ rfl (zbb (us := [.int .i64 ((((((D.getD k md0).gs).getD ax as0).os).getD bq oq0).k), .int .i64 ((((((D.getD k md0).gs).getD ax as0).os).getD bq oq0).a), .int .i64 ((((((D.getD k md0).gs).getD ax as0).os).getD bq oq0).b)]) rfl rfl rfl rfl (fun w hm => (((hd w (hm.sub (.cons _ (.cons _ (.cons _ (.cons _ (.cons _ (.cons _ (.cons _ (.cons _ (.cons _ (.cons _ (.refl _))))))))))))).at (k := k) hkl).o.at (k := ax) (by omega))) (by omega) rfl (zbr oqC 3 (fun _ => rfl) ((((D.getD k md0).gs).getD ax as0).os) oq0 (show bq < _ by omega) rfl)) ?_)
   refine zdn rfl (zbl (z := .agg #[.int .i64 0, .int .i64 0, .int .i64 0]) rfl rfl) ?_
   intro b36
   refine zbh (cs' := #[.int .i64 ((((((D.getD k md0).gs).getD ax as0).os).getD bq oq0).k), .int .i64 ((((((D.getD k md0).gs).getD ax as0).os).getD bq oq0).a), .int .i64 ((((((D.getD k md0).gs).getD ax as0).os).getD bq oq0).b)]) (i := 0) (off := 0) (us := [.int .i64 ((((((D.getD k md0).gs).getD ax as0).os).getD bq oq0).k), .int .i64 ((((((D.getD k md0).gs).getD ax as0).os).getD bq oq0).a), .int .i64 ((((((D.getD k md0).gs).getD ax as0).os).getD bq oq0).b)]) rfl rfl rfl rfl rfl rfl rfl (zab rfl (zab rfl (zab rfl zbc))) rfl rfl rfl (ntQ ?_)
   refine zfg (α := Oq) (fun oo => (boxE b36 #[.int .i64 oo.k, .int .i64 oo.a, .int .i64 oo.b] 97 :: rowE 97 3 ov os.length (os.flatMap oqC) :: boxE b33 #[.int .i64 (ids.getD (((((D.getD k md0).gs).getD ax as0).t).toNat) 0), ov] 89 :: boxE b32 #[.int .i64 ((((D.getD k md0).gs).getD ax as0).t), (((D.getD k md0).gs).getD ax as0).ov] 89 :: rowE 3 1 (.slice (some ⟨g2, 0, none⟩) ((List.replicate (((D.getD k md0).ss).length) (0 : Int)).length) ((List.replicate (((D.getD k md0).ss).length) (0 : Int)).length)) ids.length (ids.map (Value.int .i64)) :: boxE b1 #[(D.getD k md0).sv, (D.getD k md0).av, (D.getD k md0).iv, (D.getD k md0).mv] 35 :: boxE b #[v, sq, av2, .slice none 0 0, mv] 114 :: rowE 38 3 sq S.length (S.flatMap sgC) :: rowE 89 2 av2 G.length (G.flatMap asC) :: rowE 94 4 mv F.ms.length (F.ms.flatMap mmC) :: bigE ps2 :: l)) (fun oo => [(0, .pointer (some ⟨b, 0, none⟩)), (1, .int .i64 (k : Int)), (2, .int .i64 p), (3, uP), (4, .bool t), (10, .bool false), (11, .pointer (some ⟨b1, 0, none⟩)), (12, .slice (some ⟨g2, 0, none⟩) ((List.replicate (((D.getD k md0).ss).length) (0 : Int)).length) ((List.replicate (((D.getD k md0).ss).length) (0 : Int)).length)), (13, v3), (14, .int .i64 (n : Int)), (19, .pointer (some ⟨b32, 0, none⟩)), (20, .pointer (some ⟨b33, 0, none⟩)), (22, .pointer (some ⟨b36, 0, none⟩)), (46, (D.getD k md0).sv), (47, .int .i64 (((D.getD k md0).ss).length : Int)), (48, .int .i64 (i : Int)), (49, .bool false), (125, (D.getD k md0).av), (126, .int .i64 (((D.getD k md0).gs).length : Int)), (127, .int .i64 (ax : Int)), (128, .bool true), (138, (((D.getD k md0).gs).getD ax as0).ov), (139, .int .i64 (((((D.getD k md0).gs).getD ax as0).os).length : Int)), (140, .int .i64 (bq : Int)), (141, .bool true)]) (fun oo => oo = opF ids p (((D.getD k md0).gs.getD ax as0).os.getD bq oq0)) ?_ ?_
   ·
    refine srQ (hvQ rfl (fdQ 0 rfl rfl rfl) (hvQ rfl (zac rfl rfl rfl (zaa 0 rfl rfl)) (ntQ (zaz (srQ ?_)))))
    refine zbu rfl rfl rfl rfl rfl rfl (fun h37 => ?_) (fun h37 => ?_)
    ·
     refine zay 1 rfl (zah rfl (reQ 1 rfl (hvQ rfl (zbk (cs := #[.int .i64 0, .int .i64 p, .int .i64 0]) rfl rfl rfl) ?_)))
     refine zbh (cs' := #[.int .i64 0, .int .i64 p, .int .i64 0]) (i := 0) (off := 0) (us := [.int .i64 0, .int .i64 p, .int .i64 0]) rfl rfl rfl rfl rfl rfl rfl (zab rfl (zab rfl (zab rfl zbc))) rfl rfl rfl (zcu (zcr ?_))
     exact zde (Oq.mk 0 p 0) (by unfold opF; (repeat' split) <;> first | rfl | (exfalso; omega)) (saQ rfl) (.refl _)
    refine zay 1 rfl (zap rfl (zfi ?_))
    refine zbu rfl rfl rfl rfl rfl rfl (fun h38 => ?_) (fun h38 => ?_)
    ·
     refine zay 1 rfl (zah rfl (zcv (zah rfl (zas ?_))))
     have hra := rds_rng hgo9 (show bq < ((D.getD k md0).gs.getD ax as0).os.length by omega) (by omega)
     refine zam 1 rfl (hvQ rfl (fdQ 1 rfl rfl rfl) (hvQ rfl (zac rfl rfl rfl (zaa 0 rfl rfl)) (hvQ rfl (riQ 1 rfl rfl rfl rfl (zaj 4 rfl)) (hvQ rfl (lzQ rfl rfl rfl (zaj 4 rfl)) (hvQ rfl (fdQ 1 rfl rfl rfl) ?_)))))
     refine zdo (i := 0) (cs' := #[.int .i64 ((((((D.getD k md0).gs).getD ax as0).os).getD bq oq0).k), .int .i64 (ids.getD (((((((D.getD k md0).gs).getD ax as0).os).getD bq oq0).a).toNat) 0), .int .i64 ((((((D.getD k md0).gs).getD ax as0).os).getD bq oq0).b)]) rfl rfl rfl rfl rfl rfl rfl rfl rfl rfl rfl (zcu (zcr ?_))
     exact zde (Oq.mk ((((((D.getD k md0).gs).getD ax as0).os).getD bq oq0).k) (ids.getD (((((((D.getD k md0).gs).getD ax as0).os).getD bq oq0).a).toNat) 0) ((((((D.getD k md0).gs).getD ax as0).os).getD bq oq0).b)) (by unfold opF; (repeat' split) <;> first | rfl | (exfalso; omega)) (saQ rfl) (.refl _)
    refine zay 1 rfl (zap rfl (zas ?_))
    refine zbu rfl rfl rfl rfl rfl rfl (fun h39 => ?_) (fun h39 => ?_)
    ·
     refine zay 1 rfl (zah rfl (zas ?_))
     have hra := rds_rng hgo9 (show bq < ((D.getD k md0).gs.getD ax as0).os.length by omega) (by omega)
     refine zam 1 rfl (hvQ rfl (fdQ 1 rfl rfl rfl) (hvQ rfl (zac rfl rfl rfl (zaa 0 rfl rfl)) (hvQ rfl (riQ 1 rfl rfl rfl rfl (zaj 4 rfl)) (hvQ rfl (lzQ rfl rfl rfl (zaj 4 rfl)) (hvQ rfl (fdQ 1 rfl rfl rfl) ?_)))))
     refine zdo (i := 0) (cs' := #[.int .i64 ((((((D.getD k md0).gs).getD ax as0).os).getD bq oq0).k), .int .i64 (ids.getD (((((((D.getD k md0).gs).getD ax as0).os).getD bq oq0).a).toNat) 0), .int .i64 ((((((D.getD k md0).gs).getD ax as0).os).getD bq oq0).b)]) rfl rfl rfl rfl rfl rfl rfl rfl rfl rfl rfl (zcu (zcr ?_))
     exact zde (Oq.mk ((((((D.getD k md0).gs).getD ax as0).os).getD bq oq0).k) (ids.getD (((((((D.getD k md0).gs).getD ax as0).os).getD bq oq0).a).toNat) 0) ((((((D.getD k md0).gs).getD ax as0).os).getD bq oq0).b)) (by unfold opF; (repeat' split) <;> first | rfl | (exfalso; omega)) (saQ rfl) (.refl _)
    refine zay 1 rfl (fsQ rfl (zcr ?_))
    exact zde (Oq.mk ((((((D.getD k md0).gs).getD ax as0).os).getD bq oq0).k) ((((((D.getD k md0).gs).getD ax as0).os).getD bq oq0).a) ((((((D.getD k md0).gs).getD ax as0).os).getD bq oq0).b)) (by unfold opF; (repeat' split) <;> first | rfl | (exfalso; omega)) (saQ rfl) (.refl _)
   intro oo hm40
   have hoo := hm40
   refine zas (hvQ rfl (fdQ 1 rfl rfl rfl) (hvQ rfl (zac rfl rfl rfl (zaa 2 rfl rfl)) (hvQ rfl (zax (cs := [.int .i64 oo.k, .int .i64 oo.a, .int .i64 oo.b]) rfl rfl rfl rfl rfl (zat 0 rfl 0 rfl)) ?_)))
   refine zea rfl (zak (z := .agg #[.int .i64 0, .int .i64 0, .int .i64 0]) (s := 3) (cs := ([oo.k, oo.a, oo.b].map (Value.int .i64))) rfl Try.underlying71 rfl (by decide) rfl (by kernel_rfl) rfl) ?_
   intro g41
   refine zcs (i := 2) (z := .agg #[.int .i64 0, .int .i64 0, .int .i64 0]) (bytes := 24) rfl rfl rfl rfl Try.underlying71 (by kernel_rfl) rfl rfl rfl rfl (zaj 0 rfl) (zbx _) (by first | omega | (simp only [List.length_append, List.length_cons, List.length_nil]; omega)) (zcc os [oo]) (zcz oqC os oo _ rfl) (fun _ => rfl) ?_
   intro v42
   refine hvQ rfl (fdQ 1 rfl rfl rfl) (zct (i := 2) rfl (fun ho43 => ?_))
   refine zdo (i := 3) (cs' := #[.int .i64 (ids.getD (((((D.getD k md0).gs).getD ax as0).t).toNat) 0), v42]) rfl rfl rfl rfl rfl rfl ho43 rfl rfl rfl rfl (zcu (zdh (zas (hvQ rfl (vaQ rfl rfl rfl) (enQ 1 rfl ?_)))))
   exact zcq (bq + 1) (os ++ [oo]) v42 ⟨by omega, by rw [zec oq0 (show bq < ((D.getD k md0).gs.getD ax as0).os.length by omega), List.map_append, ← hos, hoo]; rfl⟩ (by omega) (saQ rfl) (.cons _ (.cons _ (.refl _)))
  refine ntQ (fcQ rfl ?_)
  refine zbj (zeb ?_)
  refine zal (zba ?_)
  refine hc_know (fun w hm => (zaj 0 rfl w hm).one) (fun hov9 => ?_)
  refine zey 10 [9, 8, 6, 5, 4, 3, 2, 1, 0, 7] rfl rfl (by decide) ?_
  refine hc_draw4 (l := (rowE 97 3 ov os.length (os.flatMap oqC) :: boxE b33 #[.int .i64 (ids.getD (((((D.getD k md0).gs).getD ax as0).t).toNat) 0), ov] 89 :: boxE b32 #[.int .i64 ((((D.getD k md0).gs).getD ax as0).t), (((D.getD k md0).gs).getD ax as0).ov] 89 :: rowE 3 1 (.slice (some ⟨g2, 0, none⟩) ((List.replicate (((D.getD k md0).ss).length) (0 : Int)).length) ((List.replicate (((D.getD k md0).ss).length) (0 : Int)).length)) ids.length (ids.map (Value.int .i64)) :: boxE b1 #[(D.getD k md0).sv, (D.getD k md0).av, (D.getD k md0).iv, (D.getD k md0).mv] 35 :: boxE b #[v, sq, av2, .slice none 0 0, mv] 114 :: rowE 38 3 sq S.length (S.flatMap sgC) :: rowE 94 4 mv F.ms.length (F.ms.flatMap mmC) :: bigE ps2 :: l)) (by kernel_rfl) 9 [0, 1, 2, 3, 4, 5, 6, 7, 8] (List.take 9 _) (List.drop 9 _) [[], [], [1], [2], [3], [4], [], [6], [5, 7]] [some 166, some 167, some 168, some 169, some 170, some 171, some 172, some 173, some 174] (fun i_ vs_ v_ p_ => match i_ with | 0 => v_ = .pointer (some ⟨b, 0, none⟩) ∧ p_ = [] | 1 => v_ = .pointer (some ⟨b, 0, none⟩) ∧ p_ = [] | 2 => v_ = .pointer (some ⟨b, 0, none⟩) ∧ p_ = [] | 3 => v_ = .pointer (some ⟨b, 0 + 1, none⟩) ∧ p_ = [] | 4 => v_ = .pointer (some ⟨b, 0 + 1 + 1, none⟩) ∧ p_ = [] | 5 => v_ = av2 ∧ p_ = [] | 6 => v_ = .agg #[.int .i64 (ids.getD (((((D.getD k md0).gs).getD ax as0).t).toNat) 0), ov] ∧ p_ = [] | 7 => IsRow 89 2 1 ([.int .i64 (ids.getD (((((D.getD k md0).gs).getD ax as0).t).toNat) 0), ov]) v_ p_ | 8 => (∃ pm_, p_ = [pm_] ∧ (fun u_ p_ => p_ = rowE 89 2 u_ ((G ++ [(As.mk (ids.getD (((((D.getD k md0).gs).getD ax as0).t).toNat) 0) ov os)]).length) ((G ++ [(As.mk (ids.getD (((((D.getD k md0).gs).getD ax as0).t).toNat) 0) ov os)]).flatMap asC)) v_ pm_) | _ => True) [[], [], [1], [2], [3], [4], [], [6], [5, 7]] [none, none, none, none, none, none, none, none, some 13] [[rowE 89 2 av2 G.length (G.flatMap asC)]] [0, 1, 2, 3, 4, 5, 6, 7, 8] 13 (List.take_append_drop 9 _).symm (by kernel_rfl) (by kernel_rfl) (by kernel_rfl) ?_ ?_ ?_ ?_
  · rfl
  · rfl
  ·
   refine ⟨?_, ?_, ?_, ?_, ?_, ?_, ?_, ?_, ?_, trivial⟩
   ·
    intro vf pf hmu hR
    refine zdw [] [] rfl (zbo (zar [0] rfl) ?_)
    exact zbt (zau rfl)
   ·
    intro vf pf hmu hR
    refine zdw [] [] rfl (zbo (zar [0] rfl) ?_)
    exact zbt (zau rfl)
   ·
    intro vf pf hmu hR
    have e1 := hR 1 (by decide)
    refine zdw [1] [1] rfl (zbo (sk 167 (congrArg some e1.1) (zai _)) ?_)
    exact zbt (zch rfl rfl)
   ·
    intro vf pf hmu hR
    have e2 := hR 2 (by decide)
    refine zdw [2] [2] rfl (zbo (sk 168 (congrArg some e2.1) (zai _)) ?_)
    exact zbt (fdQ 1 rfl rfl rfl)
   ·
    intro vf pf hmu hR
    have e3 := hR 3 (by decide)
    refine zdw [3] [3] rfl (zbo (sk 169 (congrArg some e3.1) (zai _)) ?_)
    exact zbt (fdQ 1 rfl rfl rfl)
   ·
    intro vf pf hmu hR
    have e4 := hR 4 (by decide)
    refine zdw [4] [4] rfl (zbe (sk 170 (congrArg some e4.1) (zai _)) (List.sublist_append_right _ _) ?_)
    exact zbt (zac rfl rfl rfl (zaa 5 rfl rfl))
   ·
    intro vf pf hmu hR
    refine zdw [] [] rfl (zbe (zar [20] rfl) (List.sublist_append_right _ _) ?_)
    exact zbt (zax (cs := [.int .i64 (ids.getD (((((D.getD k md0).gs).getD ax as0).t).toNat) 0), ov]) rfl rfl rfl rfl rfl (zat 1 rfl 0 rfl))
   ·
    intro vf pf hmu hR
    have e6 := hR 6 (by decide)
    refine zdw [6] [6] rfl (zbe (sk 172 (congrArg some e6.1) (zai _)) (List.sublist_append_right _ _) ?_)
    exact zak (z := .agg #[.int .i64 0, .slice none 0 0]) (s := 2) (cs := [.int .i64 (ids.getD (((((D.getD k md0).gs).getD ax as0).t).toNat) 0), ov]) rfl Try.underlying31 rfl (by decide) rfl (by kernel_rfl) rfl
   intro vf pf hmu hR
   have e5 := hR 5 (by decide)
   have e7 : IsRow 89 2 1 ([.int .i64 (ids.getD (((((D.getD k md0).gs).getD ax as0).t).toNat) 0), ov]) (vf 7) (pf 7) := hR 7 (by decide)
   obtain ⟨g44, vE7, pE7⟩ := e7
   refine Or.inl ⟨rfl, ?_⟩
   show RunM _ _ _ (pf 13) (([5, 7] : List Nat).flatMap pf ++ _) (envOf3 _ vf [5, 7] ++ _) _ _
   have hmu0 : pf 13 = [rowE 89 2 av2 G.length (G.flatMap asC)] := hmu 0 (show 0 < 1 by omega)
   rw [hmu0]
   exact zda (sk 171 (congrArg some e5.1) (sk 173 (congrArg some vE7) (zai _))) (by simp only [pE7, vE7, e5.2, fS] <;> rfl) (rm_append (d := 0) (z := .agg #[.int .i64 0, .slice none 0 0]) (bytes := 32) (n' := (G ++ [(As.mk (ids.getD (((((D.getD k md0).gs).getD ax as0).t).toNat) 0) ov os)]).length) (xs' := ((G ++ [(As.mk (ids.getD (((((D.getD k md0).gs).getD ax as0).t).toNat) 0) ov os)]).flatMap asC)) rfl Try.underlying31 rfl rfl rfl rfl (zaj 0 rfl) (zab rfl (zab hov9 zbc)) (by first | omega | (simp only [List.length_append, List.length_cons, List.length_nil]; omega)) (zcc G [(As.mk (ids.getD (((((D.getD k md0).gs).getD ax as0).t).toNat) 0) ov os)]) (zcz asC G (As.mk (ids.getD (((((D.getD k md0).gs).getD ax as0).t).toNat) 0) ov os) _ rfl))
  intro vf pf hmu hR
  have e0 := hR 0 (by decide)
  have e7 : IsRow 89 2 1 ([.int .i64 (ids.getD (((((D.getD k md0).gs).getD ax as0).t).toNat) 0), ov]) (vf 7) (pf 7) := hR 7 (by decide)
  obtain ⟨g44, vE7, pE7⟩ := e7
  have e8 : (∃ pm_, (pf 8) = [pm_] ∧ (fun u_ p_ => p_ = rowE 89 2 u_ ((G ++ [(As.mk (ids.getD (((((D.getD k md0).gs).getD ax as0).t).toNat) 0) ov os)]).length) ((G ++ [(As.mk (ids.getD (((((D.getD k md0).gs).getD ax as0).t).toNat) 0) ov os)]).flatMap asC)) (vf 8) pm_) := hR 8 (by decide)
  obtain ⟨p46, pE8, hR47⟩ := e8
  obtain ⟨v45, vE8⟩ : ∃ x, vf 8 = x := ⟨_, rfl⟩
  rw [vE8] at hR47
  subst hR47
  have q0 := hR 0 (by decide)
  have q1 := hR 1 (by decide)
  have q2 := hR 2 (by decide)
  have q3 := hR 3 (by decide)
  have q4 := hR 4 (by decide)
  have q5 := hR 5 (by decide)
  have q6 := hR 6 (by decide)
  refine zdf (zci [141, 140, 139, 138, 128, 127, 126, 125, 49, 48, 47, 46, 20, 19, 14, 13, 12, 11, 10, 4, 3, 2, 1, 0] _ (sk 166 (congrArg some e0.1) (sk 174 (congrArg some vE8) (zai _))) rfl) (by simp only [pE7, vE7, pE8, vE8, q0.2, q1.2, q2.2, q3.2, q4.2, q5.2, q6.2, fS] <;> rfl) ?_
  simp only [List.drop_succ_cons, List.drop_zero]
  refine hvQ rfl (zch rfl rfl) (hvQ rfl (fdQ 1 rfl rfl rfl) (hvQ rfl (fdQ 1 rfl rfl rfl) ?_))
  refine zct (i := 1) rfl (fun ho48 => ?_)
  refine zdo (i := 7) (cs' := #[v, sq, v45, .slice none 0 0, mv]) rfl rfl rfl rfl rfl rfl ho48 rfl rfl rfl rfl (zcu (zdh (zas (hvQ rfl (vaQ rfl rfl rfl) (enQ 1 rfl ?_)))))
  refine zbn 11 [9, 8, 7, 6, 5, 1, 2, 10] rfl rfl (by decide) ?_
  refine zcd 2 rfl ?_
  refine zbn 7 [0, 6, 1, 5, 4, 3, 2] rfl rfl (by decide) ?_
  exact zdq (ax + 1) (G ++ [(As.mk (ids.getD (((((D.getD k md0).gs).getD ax as0).t).toNat) 0) ov os)]) v45 [bigE ps2, rowE 97 3 ov os.length (os.flatMap oqC)] ⟨by omega, by rw [List.map_append, hG, zec as0 (show ax < (D.getD k md0).gs.length by omega), List.map_append, ← List.append_assoc]; congr 1; show [(_, os)] = [asF ids p ((D.getD k md0).gs.getD ax as0)]; rw [hos, show bq = ((D.getD k md0).gs.getD ax as0).os.length by omega, List.take_length]; rfl, fun w hw => (hpq w (zbi hw List.mem_cons_self)).app (zdk (zbi hw (List.mem_cons_of_mem _ List.mem_cons_self)))⟩ (by omega) (saQ rfl) (.refl _)
 refine ntQ (fcQ rfl ?_)
 refine zbj (zeb ?_)
 refine zal (zba (zfi (hvQ rfl (fdQ 3 rfl rfl rfl) (hvQ rfl (zac rfl rfl rfl (zaa 1 rfl rfl)) ?_))))
 refine hvQ rfl (lnQ rfl rfl rfl (fun w hm => (((hd w (hm.sub (.cons _ (.cons _ (.cons _ (.cons _ (.cons _ (.cons _ (.cons _ (.refl _)))))))))).at (k := k) hkl).m))) (zay 1 rfl (zaz ?_))
 have hGq : G.map asV = F.gs ++ (D.getD k md0).gs.map (asF ids p) := by rw [hG, show ax = (D.getD k md0).gs.length by omega, List.take_length]
 have hGl2 : G.length = F.gs.length + (D.getD k md0).gs.length := by omega
 refine lkQ3 (α := Nat) (β := List Mm) (γ := Value) [0, 1, 2, 3, 4, 10, 11, 12, 13, 14, 46, 47, 48, 49, 125, 126, 127, 128, 180, 181] rfl (fun mx ms2 mw => (rowE 3 1 (.slice (some ⟨g2, 0, none⟩) ((List.replicate (((D.getD k md0).ss).length) (0 : Int)).length) ((List.replicate (((D.getD k md0).ss).length) (0 : Int)).length)) ids.length (ids.map (Value.int .i64)) :: boxE b1 #[(D.getD k md0).sv, (D.getD k md0).av, (D.getD k md0).iv, (D.getD k md0).mv] 35 :: boxE b #[v, sq, av2, .slice none 0 0, mw] 114 :: rowE 38 3 sq S.length (S.flatMap sgC) :: rowE 89 2 av2 G.length (G.flatMap asC) :: rowE 94 4 mw ms2.length (ms2.flatMap mmC) :: bigE ps2 :: l)) (fun mx ms2 mw => [(182, .int .i64 (mx : Int))]) (fun mx ms2 mw => mx ≤ (D.getD k md0).ms.length ∧ ms2 = F.ms ++ ((D.getD k md0).ms.take mx).map (mmF ids)) (fun mx ms2 mw => (D.getD k md0).ms.length - mx) 0 F.ms mv ⟨Nat.zero_le _, by simp⟩ (saQ rfl) (.refl _) ?_
 intro mx ms2 mw hi49
 obtain ⟨he, hM⟩ := hi49
 have hMl : ms2.length = F.ms.length + mx := by rw [hM, List.length_append, List.length_map, List.length_take]; omega
 refine srQ ?_
 refine zbq rfl rfl rfl rfl rfl rfl (fun h50 => ?_) (fun h50 => ?_)
 ·
  refine ntQ (tcQ rfl (zcv (sbQ (srQ ?_))))
  refine hvQ rfl (riQ 4 rfl rfl rfl rfl (fun w hm => (((hd w (hm.sub (.cons _ (.cons _ (.cons _ (.cons _ (.cons _ (.cons _ (.cons _ (.refl _)))))))))).at (k := k) hkl).m))) (hvQ rfl (zbb (us := [.int .i64 ((((D.getD k md0).ms).getD mx mm0).a), .int .i64 ((((D.getD k md0).ms).getD mx mm0).d), .int .i64 ((((D.getD k md0).ms).getD mx mm0).w), .int .i64 ((((D.getD k md0).ms).getD mx mm0).o)]) rfl rfl rfl rfl (fun w hm => (((hd w (hm.sub (.cons _ (.cons _ (.cons _ (.cons _ (.cons _ (.cons _ (.cons _ (.refl _)))))))))).at (k := k) hkl).m)) (by omega) rfl (zbr mmC 4 (fun _ => rfl) ((D.getD k md0).ms) mm0 (show mx < _ by omega) rfl)) ?_)
  refine zdn rfl (zbl (z := .agg #[.int .i64 0, .int .i64 0, .int .i64 0, .int .i64 0]) rfl rfl) ?_
  intro b51
  refine zbh (cs' := #[.int .i64 ((((D.getD k md0).ms).getD mx mm0).a), .int .i64 ((((D.getD k md0).ms).getD mx mm0).d), .int .i64 ((((D.getD k md0).ms).getD mx mm0).w), .int .i64 ((((D.getD k md0).ms).getD mx mm0).o)]) (i := 0) (off := 0) (us := [.int .i64 ((((D.getD k md0).ms).getD mx mm0).a), .int .i64 ((((D.getD k md0).ms).getD mx mm0).d), .int .i64 ((((D.getD k md0).ms).getD mx mm0).w), .int .i64 ((((D.getD k md0).ms).getD mx mm0).o)]) rfl rfl rfl rfl rfl rfl rfl (zab rfl (zab rfl (zab rfl (zab rfl zbc)))) rfl rfl rfl (ntQ ?_)
  obtain ⟨⟨hma, hmd, hmw⟩, hmo⟩ := hmod.ms mx (by omega)
  have hmo := hmo.inn
  unfold Inn at hma hmd hmw hmo
  refine zey 8 [7, 5, 4, 3, 2, 1, 0, 6] rfl rfl (by decide) ?_
  refine hc_draw4 (l := (boxE b51 #[.int .i64 ((((D.getD k md0).ms).getD mx mm0).a), .int .i64 ((((D.getD k md0).ms).getD mx mm0).d), .int .i64 ((((D.getD k md0).ms).getD mx mm0).w), .int .i64 ((((D.getD k md0).ms).getD mx mm0).o)] 94 :: rowE 3 1 (.slice (some ⟨g2, 0, none⟩) ((List.replicate (((D.getD k md0).ss).length) (0 : Int)).length) ((List.replicate (((D.getD k md0).ss).length) (0 : Int)).length)) ids.length (ids.map (Value.int .i64)) :: boxE b1 #[(D.getD k md0).sv, (D.getD k md0).av, (D.getD k md0).iv, (D.getD k md0).mv] 35 :: boxE b #[v, sq, av2, .slice none 0 0, mw] 114 :: rowE 38 3 sq S.length (S.flatMap sgC) :: rowE 89 2 av2 G.length (G.flatMap asC) :: bigE ps2 :: l)) (by kernel_rfl) 29 [0, 1, 2, 3, 4, 5, 6, 7, 8, 9, 10, 11, 12, 13, 14, 15, 16, 17, 18, 19, 20, 21, 22, 23, 24, 25, 26, 27, 28] (List.take 29 _) (List.drop 29 _) [[], [], [1], [2], [3], [4], [], [], [7], [6, 8], [9], [], [], [12], [11, 13], [14], [], [], [17], [16, 18], [19], [], [], [22], [21, 23], [24], [10, 15, 20, 25], [26], [5, 27]] [some 186, some 187, some 188, some 189, some 190, some 191, some 192, some 193, some 194, some 195, some 196, some 197, some 198, some 199, some 200, some 201, some 202, some 203, some 204, some 205, some 206, some 207, some 208, some 209, some 210, some 211, some 212, some 213, some 214] (fun i_ vs_ v_ p_ => match i_ with | 0 => v_ = .pointer (some ⟨b, 0, none⟩) ∧ p_ = [] | 1 => v_ = .pointer (some ⟨b, 0, none⟩) ∧ p_ = [] | 2 => v_ = .pointer (some ⟨b, 0, none⟩) ∧ p_ = [] | 3 => v_ = .pointer (some ⟨b, 0 + 1, none⟩) ∧ p_ = [] | 4 => v_ = .pointer (some ⟨b, 0 + 1 + 3, none⟩) ∧ p_ = [] | 5 => v_ = mw ∧ p_ = [] | 6 => v_ = .slice (some ⟨g2, 0, none⟩) ((List.replicate (((D.getD k md0).ss).length) (0 : Int)).length) ((List.replicate (((D.getD k md0).ss).length) (0 : Int)).length) ∧ p_ = [] | 7 => v_ = .pointer (some ⟨b51, 0 + 0, none⟩) ∧ p_ = [] | 8 => v_ = .int .i64 ((((D.getD k md0).ms).getD mx mm0).a) ∧ p_ = [] | 9 => v_ = elP (.slice (some ⟨g2, 0, none⟩) ((List.replicate (((D.getD k md0).ss).length) (0 : Int)).length) ((List.replicate (((D.getD k md0).ss).length) (0 : Int)).length)) (((((D.getD k md0).ms).getD mx mm0).a).toNat * 1) ∧ p_ = [] | 10 => v_ = .int .i64 (ids.getD (((((D.getD k md0).ms).getD mx mm0).a).toNat) 0) ∧ p_ = [] | 11 => v_ = .slice (some ⟨g2, 0, none⟩) ((List.replicate (((D.getD k md0).ss).length) (0 : Int)).length) ((List.replicate (((D.getD k md0).ss).length) (0 : Int)).length) ∧ p_ = [] | 12 => v_ = .pointer (some ⟨b51, 0 + 1, none⟩) ∧ p_ = [] | 13 => v_ = .int .i64 ((((D.getD k md0).ms).getD mx mm0).d) ∧ p_ = [] | 14 => v_ = elP (.slice (some ⟨g2, 0, none⟩) ((List.replicate (((D.getD k md0).ss).length) (0 : Int)).length) ((List.replicate (((D.getD k md0).ss).length) (0 : Int)).length)) (((((D.getD k md0).ms).getD mx mm0).d).toNat * 1) ∧ p_ = [] | 15 => v_ = .int .i64 (ids.getD (((((D.getD k md0).ms).getD mx mm0).d).toNat) 0) ∧ p_ = [] | 16 => v_ = .slice (some ⟨g2, 0, none⟩) ((List.replicate (((D.getD k md0).ss).length) (0 : Int)).length) ((List.replicate (((D.getD k md0).ss).length) (0 : Int)).length) ∧ p_ = [] | 17 => v_ = .pointer (some ⟨b51, 0 + 2, none⟩) ∧ p_ = [] | 18 => v_ = .int .i64 ((((D.getD k md0).ms).getD mx mm0).w) ∧ p_ = [] | 19 => v_ = elP (.slice (some ⟨g2, 0, none⟩) ((List.replicate (((D.getD k md0).ss).length) (0 : Int)).length) ((List.replicate (((D.getD k md0).ss).length) (0 : Int)).length)) (((((D.getD k md0).ms).getD mx mm0).w).toNat * 1) ∧ p_ = [] | 20 => v_ = .int .i64 (ids.getD (((((D.getD k md0).ms).getD mx mm0).w).toNat) 0) ∧ p_ = [] | 21 => v_ = .slice (some ⟨g2, 0, none⟩) ((List.replicate (((D.getD k md0).ss).length) (0 : Int)).length) ((List.replicate (((D.getD k md0).ss).length) (0 : Int)).length) ∧ p_ = [] | 22 => v_ = .pointer (some ⟨b51, 0 + 3, none⟩) ∧ p_ = [] | 23 => v_ = .int .i64 ((((D.getD k md0).ms).getD mx mm0).o) ∧ p_ = [] | 24 => v_ = elP (.slice (some ⟨g2, 0, none⟩) ((List.replicate (((D.getD k md0).ss).length) (0 : Int)).length) ((List.replicate (((D.getD k md0).ss).length) (0 : Int)).length)) (((((D.getD k md0).ms).getD mx mm0).o).toNat * 1) ∧ p_ = [] | 25 => v_ = .int .i64 (ids.getD (((((D.getD k md0).ms).getD mx mm0).o).toNat) 0) ∧ p_ = [] | 26 => v_ = .agg #[.int .i64 (ids.getD (((((D.getD k md0).ms).getD mx mm0).a).toNat) 0), .int .i64 (ids.getD (((((D.getD k md0).ms).getD mx mm0).d).toNat) 0), .int .i64 (ids.getD (((((D.getD k md0).ms).getD mx mm0).w).toNat) 0), .int .i64 (ids.getD (((((D.getD k md0).ms).getD mx mm0).o).toNat) 0)] ∧ p_ = [] | 27 => IsRow 94 4 1 ([ids.getD (((((D.getD k md0).ms).getD mx mm0).a).toNat) 0, ids.getD (((((D.getD k md0).ms).getD mx mm0).d).toNat) 0, ids.getD (((((D.getD k md0).ms).getD mx mm0).w).toNat) 0, ids.getD (((((D.getD k md0).ms).getD mx mm0).o).toNat) 0].map (Value.int .i64)) v_ p_ | 28 => (∃ pm_, p_ = [pm_] ∧ (fun u_ p_ => p_ = rowE 94 4 u_ ((ms2 ++ [(Mm.mk (ids.getD (((((D.getD k md0).ms).getD mx mm0).a).toNat) 0) (ids.getD (((((D.getD k md0).ms).getD mx mm0).d).toNat) 0) (ids.getD (((((D.getD k md0).ms).getD mx mm0).w).toNat) 0) (ids.getD (((((D.getD k md0).ms).getD mx mm0).o).toNat) 0))]).length) ((ms2 ++ [(Mm.mk (ids.getD (((((D.getD k md0).ms).getD mx mm0).a).toNat) 0) (ids.getD (((((D.getD k md0).ms).getD mx mm0).d).toNat) 0) (ids.getD (((((D.getD k md0).ms).getD mx mm0).w).toNat) 0) (ids.getD (((((D.getD k md0).ms).getD mx mm0).o).toNat) 0))]).flatMap mmC)) v_ pm_) | _ => True) [[], [], [1], [2], [3], [4], [], [], [7], [6, 8], [9], [], [], [12], [11, 13], [14], [], [], [17], [16, 18], [19], [], [], [22], [21, 23], [24], [10, 15, 20, 25], [26], [5, 27]] [none, none, none, none, none, none, none, none, none, none, none, none, none, none, none, none, none, none, none, none, none, none, none, none, none, none, none, none, some 33] [[rowE 94 4 mw ms2.length (ms2.flatMap mmC)]] [0, 1, 2, 3, 4, 5, 6, 7, 8, 9, 10, 11, 12, 13, 14, 15, 16, 17, 18, 19, 20, 21, 22, 23, 24, 25, 26, 27, 28] 33 (List.take_append_drop 29 _).symm (by kernel_rfl) (by kernel_rfl) (by kernel_rfl) ?_ ?_ ?_ ?_
  · rfl
  · rfl
  ·
   refine ⟨?_, ?_, ?_, ?_, ?_, ?_, ?_, ?_, ?_, ?_, ?_, ?_, ?_, ?_, ?_, ?_, ?_, ?_, ?_, ?_, ?_, ?_, ?_, ?_, ?_, ?_, ?_, ?_, ?_, trivial⟩
   ·
    intro vf pf hmu hR
    refine zdw [] [] rfl (zbo (zar [0] rfl) ?_)
    exact zbt (zau rfl)
   ·
    intro vf pf hmu hR
    refine zdw [] [] rfl (zbo (zar [0] rfl) ?_)
    exact zbt (zau rfl)
   ·
    intro vf pf hmu hR
    have e1 := hR 1 (by decide)
    refine zdw [1] [1] rfl (zbo (sk 187 (congrArg some e1.1) (zai _)) ?_)
    exact zbt (zch rfl rfl)
   ·
    intro vf pf hmu hR
    have e2 := hR 2 (by decide)
    refine zdw [2] [2] rfl (zbo (sk 188 (congrArg some e2.1) (zai _)) ?_)
    exact zbt (fdQ 1 rfl rfl rfl)
   ·
    intro vf pf hmu hR
    have e3 := hR 3 (by decide)
    refine zdw [3] [3] rfl (zbo (sk 189 (congrArg some e3.1) (zai _)) ?_)
    exact zbt (fdQ 3 rfl rfl rfl)
   ·
    intro vf pf hmu hR
    have e4 := hR 4 (by decide)
    refine zdw [4] [4] rfl (zbe (sk 190 (congrArg some e4.1) (zai _)) (List.sublist_append_right _ _) ?_)
    exact zbt (zac rfl rfl rfl (zaa 3 rfl rfl))
   ·
    intro vf pf hmu hR
    refine zdw [] [] rfl (zbo (zar [12] rfl) ?_)
    exact zbt (zau rfl)
   ·
    intro vf pf hmu hR
    refine zdw [] [] rfl (zbo (zar [24] rfl) ?_)
    exact zbt (fdQ 0 rfl rfl rfl)
   ·
    intro vf pf hmu hR
    have e7 := hR 7 (by decide)
    refine zdw [7] [7] rfl (zbe (sk 193 (congrArg some e7.1) (zai _)) (List.sublist_append_right _ _) ?_)
    exact zbt (zac rfl rfl rfl (zaa 0 rfl rfl))
   ·
    intro vf pf hmu hR
    have e6 := hR 6 (by decide)
    have e8 := hR 8 (by decide)
    refine zdw [6, 8] [6, 8] rfl (zbe (sk 192 (congrArg some e6.1) (sk 194 (congrArg some e8.1) (zai _))) (List.sublist_append_right _ _) ?_)
    exact zbt (riQ 1 rfl rfl rfl rfl (zaj 1 rfl))
   ·
    intro vf pf hmu hR
    have e9 := hR 9 (by decide)
    refine zdw [9] [9] rfl (zbe (sk 195 (congrArg some e9.1) (zai _)) (List.sublist_append_right _ _) ?_)
    exact zbt (lzQ rfl rfl rfl (zaj 1 rfl))
   ·
    intro vf pf hmu hR
    refine zdw [] [] rfl (zbo (zar [12] rfl) ?_)
    exact zbt (zau rfl)
   ·
    intro vf pf hmu hR
    refine zdw [] [] rfl (zbo (zar [24] rfl) ?_)
    exact zbt (fdQ 1 rfl rfl rfl)
   ·
    intro vf pf hmu hR
    have e12 := hR 12 (by decide)
    refine zdw [12] [12] rfl (zbe (sk 198 (congrArg some e12.1) (zai _)) (List.sublist_append_right _ _) ?_)
    exact zbt (zac rfl rfl rfl (zaa 0 rfl rfl))
   ·
    intro vf pf hmu hR
    have e11 := hR 11 (by decide)
    have e13 := hR 13 (by decide)
    refine zdw [11, 13] [11, 13] rfl (zbe (sk 197 (congrArg some e11.1) (sk 199 (congrArg some e13.1) (zai _))) (List.sublist_append_right _ _) ?_)
    exact zbt (riQ 1 rfl rfl rfl rfl (zaj 1 rfl))
   ·
    intro vf pf hmu hR
    have e14 := hR 14 (by decide)
    refine zdw [14] [14] rfl (zbe (sk 200 (congrArg some e14.1) (zai _)) (List.sublist_append_right _ _) ?_)
    exact zbt (lzQ rfl rfl rfl (zaj 1 rfl))
   ·
    intro vf pf hmu hR
    refine zdw [] [] rfl (zbo (zar [12] rfl) ?_)
    exact zbt (zau rfl)
   ·
    intro vf pf hmu hR
    refine zdw [] [] rfl (zbo (zar [24] rfl) ?_)
    exact zbt (fdQ 2 rfl rfl rfl)
   ·
    intro vf pf hmu hR
    have e17 := hR 17 (by decide)
    refine zdw [17] [17] rfl (zbe (sk 203 (congrArg some e17.1) (zai _)) (List.sublist_append_right _ _) ?_)
    exact zbt (zac rfl rfl rfl (zaa 0 rfl rfl))
   ·
    intro vf pf hmu hR
    have e16 := hR 16 (by decide)
    have e18 := hR 18 (by decide)
    refine zdw [16, 18] [16, 18] rfl (zbe (sk 202 (congrArg some e16.1) (sk 204 (congrArg some e18.1) (zai _))) (List.sublist_append_right _ _) ?_)
    exact zbt (riQ 1 rfl rfl rfl rfl (zaj 1 rfl))
   ·
    intro vf pf hmu hR
    have e19 := hR 19 (by decide)
    refine zdw [19] [19] rfl (zbe (sk 205 (congrArg some e19.1) (zai _)) (List.sublist_append_right _ _) ?_)
    exact zbt (lzQ rfl rfl rfl (zaj 1 rfl))
   ·
    intro vf pf hmu hR
    refine zdw [] [] rfl (zbo (zar [12] rfl) ?_)
    exact zbt (zau rfl)
   ·
    intro vf pf hmu hR
    refine zdw [] [] rfl (zbo (zar [24] rfl) ?_)
    exact zbt (fdQ 3 rfl rfl rfl)
   ·
    intro vf pf hmu hR
    have e22 := hR 22 (by decide)
    refine zdw [22] [22] rfl (zbe (sk 208 (congrArg some e22.1) (zai _)) (List.sublist_append_right _ _) ?_)
    exact zbt (zac rfl rfl rfl (zaa 0 rfl rfl))
   ·
    intro vf pf hmu hR
    have e21 := hR 21 (by decide)
    have e23 := hR 23 (by decide)
    refine zdw [21, 23] [21, 23] rfl (zbe (sk 207 (congrArg some e21.1) (sk 209 (congrArg some e23.1) (zai _))) (List.sublist_append_right _ _) ?_)
    exact zbt (riQ 1 rfl rfl rfl rfl (zaj 1 rfl))
   ·
    intro vf pf hmu hR
    have e24 := hR 24 (by decide)
    refine zdw [24] [24] rfl (zbe (sk 210 (congrArg some e24.1) (zai _)) (List.sublist_append_right _ _) ?_)
    exact zbt (lzQ rfl rfl rfl (zaj 1 rfl))
   ·
    intro vf pf hmu hR
    have e10 := hR 10 (by decide)
    have e15 := hR 15 (by decide)
    have e20 := hR 20 (by decide)
    have e25 := hR 25 (by decide)
    refine zdw [10, 15, 20, 25] [10, 15, 20, 25] rfl (zbo (sk 196 (congrArg some e10.1) (sk 201 (congrArg some e15.1) (sk 206 (congrArg some e20.1) (sk 211 (congrArg some e25.1) (zai _))))) ?_)
    exact zbt (zbk (cs := #[.int .i64 (ids.getD (((((D.getD k md0).ms).getD mx mm0).a).toNat) 0), .int .i64 (ids.getD (((((D.getD k md0).ms).getD mx mm0).d).toNat) 0), .int .i64 (ids.getD (((((D.getD k md0).ms).getD mx mm0).w).toNat) 0), .int .i64 (ids.getD (((((D.getD k md0).ms).getD mx mm0).o).toNat) 0)]) rfl rfl rfl)
   ·
    intro vf pf hmu hR
    have e26 := hR 26 (by decide)
    refine zdw [26] [26] rfl (zbe (sk 212 (congrArg some e26.1) (zai _)) (List.sublist_append_right _ _) ?_)
    exact zak (z := .agg #[.int .i64 0, .int .i64 0, .int .i64 0, .int .i64 0]) (s := 4) (cs := ([ids.getD (((((D.getD k md0).ms).getD mx mm0).a).toNat) 0, ids.getD (((((D.getD k md0).ms).getD mx mm0).d).toNat) 0, ids.getD (((((D.getD k md0).ms).getD mx mm0).w).toNat) 0, ids.getD (((((D.getD k md0).ms).getD mx mm0).o).toNat) 0].map (Value.int .i64))) rfl Try.underlying33 rfl (by decide) rfl (by kernel_rfl) rfl
   intro vf pf hmu hR
   have e5 := hR 5 (by decide)
   have e27 : IsRow 94 4 1 ([ids.getD (((((D.getD k md0).ms).getD mx mm0).a).toNat) 0, ids.getD (((((D.getD k md0).ms).getD mx mm0).d).toNat) 0, ids.getD (((((D.getD k md0).ms).getD mx mm0).w).toNat) 0, ids.getD (((((D.getD k md0).ms).getD mx mm0).o).toNat) 0].map (Value.int .i64)) (vf 27) (pf 27) := hR 27 (by decide)
   obtain ⟨g52, vE27, pE27⟩ := e27
   refine Or.inl ⟨rfl, ?_⟩
   show RunM _ _ _ (pf 33) (([5, 27] : List Nat).flatMap pf ++ _) (envOf3 _ vf [5, 27] ++ _) _ _
   have hmu0 : pf 33 = [rowE 94 4 mw ms2.length (ms2.flatMap mmC)] := hmu 0 (show 0 < 1 by omega)
   rw [hmu0]
   refine zda (sk 191 (congrArg some e5.1) (sk 213 (congrArg some vE27) (zai _))) (by simp only [pE27, vE27, e5.2, fS] <;> rfl) ?_
   exact rm_append (d := 0) (z := .agg #[.int .i64 0, .int .i64 0, .int .i64 0, .int .i64 0]) (bytes := 32) (n' := (ms2 ++ [(Mm.mk (ids.getD (((((D.getD k md0).ms).getD mx mm0).a).toNat) 0) (ids.getD (((((D.getD k md0).ms).getD mx mm0).d).toNat) 0) (ids.getD (((((D.getD k md0).ms).getD mx mm0).w).toNat) 0) (ids.getD (((((D.getD k md0).ms).getD mx mm0).o).toNat) 0))]).length) (xs' := ((ms2 ++ [(Mm.mk (ids.getD (((((D.getD k md0).ms).getD mx mm0).a).toNat) 0) (ids.getD (((((D.getD k md0).ms).getD mx mm0).d).toNat) 0) (ids.getD (((((D.getD k md0).ms).getD mx mm0).w).toNat) 0) (ids.getD (((((D.getD k md0).ms).getD mx mm0).o).toNat) 0))]).flatMap mmC)) rfl Try.underlying33 rfl rfl rfl rfl (zaj 0 rfl) (zbx _) (by first | omega | (simp only [List.length_append, List.length_cons, List.length_nil]; omega)) (zcc ms2 [(Mm.mk (ids.getD (((((D.getD k md0).ms).getD mx mm0).a).toNat) 0) (ids.getD (((((D.getD k md0).ms).getD mx mm0).d).toNat) 0) (ids.getD (((((D.getD k md0).ms).getD mx mm0).w).toNat) 0) (ids.getD (((((D.getD k md0).ms).getD mx mm0).o).toNat) 0))]) (zcz mmC ms2 (Mm.mk (ids.getD (((((D.getD k md0).ms).getD mx mm0).a).toNat) 0) (ids.getD (((((D.getD k md0).ms).getD mx mm0).d).toNat) 0) (ids.getD (((((D.getD k md0).ms).getD mx mm0).w).toNat) 0) (ids.getD (((((D.getD k md0).ms).getD mx mm0).o).toNat) 0)) _ rfl)
  intro vf pf hmu hR
  have e0 := hR 0 (by decide)
  have e27 : IsRow 94 4 1 ([ids.getD (((((D.getD k md0).ms).getD mx mm0).a).toNat) 0, ids.getD (((((D.getD k md0).ms).getD mx mm0).d).toNat) 0, ids.getD (((((D.getD k md0).ms).getD mx mm0).w).toNat) 0, ids.getD (((((D.getD k md0).ms).getD mx mm0).o).toNat) 0].map (Value.int .i64)) (vf 27) (pf 27) := hR 27 (by decide)
  obtain ⟨g52, vE27, pE27⟩ := e27
  have e28 : (∃ pm_, (pf 28) = [pm_] ∧ (fun u_ p_ => p_ = rowE 94 4 u_ ((ms2 ++ [(Mm.mk (ids.getD (((((D.getD k md0).ms).getD mx mm0).a).toNat) 0) (ids.getD (((((D.getD k md0).ms).getD mx mm0).d).toNat) 0) (ids.getD (((((D.getD k md0).ms).getD mx mm0).w).toNat) 0) (ids.getD (((((D.getD k md0).ms).getD mx mm0).o).toNat) 0))]).length) ((ms2 ++ [(Mm.mk (ids.getD (((((D.getD k md0).ms).getD mx mm0).a).toNat) 0) (ids.getD (((((D.getD k md0).ms).getD mx mm0).d).toNat) 0) (ids.getD (((((D.getD k md0).ms).getD mx mm0).w).toNat) 0) (ids.getD (((((D.getD k md0).ms).getD mx mm0).o).toNat) 0))]).flatMap mmC)) (vf 28) pm_) := hR 28 (by decide)
  obtain ⟨p54, pE28, hR55⟩ := e28
  obtain ⟨v53, vE28⟩ : ∃ x, vf 28 = x := ⟨_, rfl⟩
  rw [vE28] at hR55
  subst hR55
  have q0 := hR 0 (by decide)
  have q1 := hR 1 (by decide)
  have q2 := hR 2 (by decide)
  have q3 := hR 3 (by decide)
  have q4 := hR 4 (by decide)
  have q5 := hR 5 (by decide)
  have q6 := hR 6 (by decide)
  have q7 := hR 7 (by decide)
  have q8 := hR 8 (by decide)
  have q9 := hR 9 (by decide)
  have q10 := hR 10 (by decide)
  have q11 := hR 11 (by decide)
  have q12 := hR 12 (by decide)
  have q13 := hR 13 (by decide)
  have q14 := hR 14 (by decide)
  have q15 := hR 15 (by decide)
  have q16 := hR 16 (by decide)
  have q17 := hR 17 (by decide)
  have q18 := hR 18 (by decide)
  have q19 := hR 19 (by decide)
  have q20 := hR 20 (by decide)
  have q21 := hR 21 (by decide)
  have q22 := hR 22 (by decide)
  have q23 := hR 23 (by decide)
  have q24 := hR 24 (by decide)
  have q25 := hR 25 (by decide)
  have q26 := hR 26 (by decide)
  refine zdf (zci [183, 182, 181, 180, 128, 127, 126, 125, 49, 48, 47, 46, 24, 14, 13, 12, 11, 10, 4, 3, 2, 1, 0] _ (sk 186 (congrArg some e0.1) (sk 214 (congrArg some vE28) (zai _))) rfl) (by simp only [pE27, vE27, pE28, vE28, q0.2, q1.2, q2.2, q3.2, q4.2, q5.2, q6.2, q7.2, q8.2, q9.2, q10.2, q11.2, q12.2, q13.2, q14.2, q15.2, q16.2, q17.2, q18.2, q19.2, q20.2, q21.2, q22.2, q23.2, q24.2, q25.2, q26.2, fS] <;> rfl) ?_
  simp only [List.drop_succ_cons, List.drop_zero]
  refine hvQ rfl (zch rfl rfl) (hvQ rfl (fdQ 1 rfl rfl rfl) (hvQ rfl (fdQ 3 rfl rfl rfl) ?_))
  refine zct (i := 1) rfl (fun ho56 => ?_)
  refine zdo (i := 5) (cs' := #[v, sq, av2, .slice none 0 0, v53]) rfl rfl rfl rfl rfl rfl ho56 rfl rfl rfl rfl (zcu (zdh (zas (hvQ rfl (vaQ rfl rfl rfl) (enQ 1 rfl ?_)))))
  refine zbn 9 [8, 1, 7, 6, 5, 4, 3] rfl rfl (by decide) ?_
  exact zcq (mx + 1) (ms2 ++ [(Mm.mk (ids.getD (((((D.getD k md0).ms).getD mx mm0).a).toNat) 0) (ids.getD (((((D.getD k md0).ms).getD mx mm0).d).toNat) 0) (ids.getD (((((D.getD k md0).ms).getD mx mm0).w).toNat) 0) (ids.getD (((((D.getD k md0).ms).getD mx mm0).o).toNat) 0))]) v53 ⟨by omega, by rw [hM, zec mm0 (show mx < (D.getD k md0).ms.length by omega), List.map_append, ← List.append_assoc]; rfl⟩ (by omega) (saQ rfl) (.refl _)
 refine ntQ (fcQ rfl ?_)
 refine zbj (zeb ?_)
 refine zal (zba (zfi ?_))
 have hMq : ms2 = F.ms ++ (D.getD k md0).ms.map (mmF ids) := by rw [hM, show mx = (D.getD k md0).ms.length by omega, List.take_length]
 have hoi := ownF_iff (m := (D.getD k md0)) (n := n) (S := S) hGq hMq
 refine zam 1 rfl (hvQ rfl (zch rfl rfl) (hvQ rfl (fdQ 1 rfl rfl rfl) (hvQ rfl (fdQ 0 rfl rfl rfl) (hvQ rfl (zac rfl rfl rfl (zaa 2 rfl rfl)) (hvQ rfl (lnQ rfl rfl rfl (zaj 3 rfl)) ?_)))))
 refine zdr rfl rfl rfl rfl rfl rfl (fun h57 => ?_) (fun h57 => ?_)
 ·
  refine zay 18 rfl (zah rfl (zbg 1 rfl ?_))
  refine zao (zae ?_)
  refine zco (bigE [] :: rowE 3 1 (.slice (some ⟨g2, 0, none⟩) ((List.replicate (((D.getD k md0).ss).length) (0 : Int)).length) ((List.replicate (((D.getD k md0).ss).length) (0 : Int)).length)) ids.length (ids.map (Value.int .i64)) :: boxE b1 #[(D.getD k md0).sv, (D.getD k md0).av, (D.getD k md0).iv, (D.getD k md0).mv] 35 :: boxE b #[v, sq, av2, .slice none 0 0, mw] 114 :: rowE 38 3 sq S.length (S.flatMap sgC) :: rowE 89 2 av2 G.length (G.flatMap asC) :: rowE 94 4 mw ms2.length (ms2.flatMap mmC) :: bigE ps2 :: l) zdj ?_
  exact zcx (rs := [.tmp 10]) (vs := [.bool false]) rfl ⟨rfl, trivial⟩ rfl (fun w hm => ⟨_, bigE [], rfl, ⟨false, _, rfl, rfl, (fun h => by cases h), fun _ => by first | exact zer (zfn hs hc9 hpt (by rw [← hgi]; omega)) (by omega) | exact zfc hsF (fun h9 => by have h8 := hoi.1 h9; omega) | exact (zfb hsF hokF).trans (zep (i := xu + 1) (by rw [zeh hH, hk2, ← hzp, ← hpp]; exact hnoNone (by assumption)) _ (by omega))⟩, hm.sub (.cons_cons _ (.cons _ (.cons _ (.cons _ (.cons _ (.cons _ (.cons _ (.cons _ (.refl _)))))))))⟩)
 refine zam 2 rfl (hvQ rfl (zch rfl rfl) (hvQ rfl (fdQ 1 rfl rfl rfl) (hvQ rfl (fdQ 1 rfl rfl rfl) (hvQ rfl (zac rfl rfl rfl (zaa 2 rfl rfl)) (hvQ rfl (lnQ rfl rfl rfl (zaj 4 rfl)) ?_)))))
 refine zdr rfl rfl rfl rfl rfl rfl (fun h58 => ?_) (fun h58 => ?_)
 ·
  refine zay 10 rfl (zah rfl (srQ ?_))
  refine zay 1 rfl ?_
  refine zao (zae ?_)
  refine zco (bigE [] :: rowE 3 1 (.slice (some ⟨g2, 0, none⟩) ((List.replicate (((D.getD k md0).ss).length) (0 : Int)).length) ((List.replicate (((D.getD k md0).ss).length) (0 : Int)).length)) ids.length (ids.map (Value.int .i64)) :: boxE b1 #[(D.getD k md0).sv, (D.getD k md0).av, (D.getD k md0).iv, (D.getD k md0).mv] 35 :: boxE b #[v, sq, av2, .slice none 0 0, mw] 114 :: rowE 38 3 sq S.length (S.flatMap sgC) :: rowE 89 2 av2 G.length (G.flatMap asC) :: rowE 94 4 mw ms2.length (ms2.flatMap mmC) :: bigE ps2 :: l) zdj ?_
  exact zcx (rs := [.tmp 10]) (vs := [.bool false]) rfl ⟨rfl, trivial⟩ rfl (fun w hm => ⟨_, bigE [], rfl, ⟨false, _, rfl, rfl, (fun h => by cases h), fun _ => by first | exact zer (zfn hs hc9 hpt (by rw [← hgi]; omega)) (by omega) | exact zfc hsF (fun h9 => by have h8 := hoi.1 h9; omega) | exact (zfb hsF hokF).trans (zep (i := xu + 1) (by rw [zeh hH, hk2, ← hzp, ← hpp]; exact hnoNone (by assumption)) _ (by omega))⟩, hm.sub (.cons_cons _ (.cons _ (.cons _ (.cons _ (.cons _ (.cons _ (.cons _ (.cons _ (.refl _)))))))))⟩)
 refine zam 3 rfl (hvQ rfl (zch rfl rfl) (hvQ rfl (fdQ 1 rfl rfl rfl) (hvQ rfl (fdQ 3 rfl rfl rfl) (hvQ rfl (zac rfl rfl rfl (zaa 2 rfl rfl)) (hvQ rfl (lnQ rfl rfl rfl (zaj 5 rfl)) ?_)))))
 refine zdr rfl rfl rfl rfl rfl rfl (fun h59 => ?_) (fun h59 => ?_)
 ·
  refine zay 1 rfl (zah rfl (zbg 1 rfl ?_))
  refine zao (zae ?_)
  refine zco (bigE [] :: rowE 3 1 (.slice (some ⟨g2, 0, none⟩) ((List.replicate (((D.getD k md0).ss).length) (0 : Int)).length) ((List.replicate (((D.getD k md0).ss).length) (0 : Int)).length)) ids.length (ids.map (Value.int .i64)) :: boxE b1 #[(D.getD k md0).sv, (D.getD k md0).av, (D.getD k md0).iv, (D.getD k md0).mv] 35 :: boxE b #[v, sq, av2, .slice none 0 0, mw] 114 :: rowE 38 3 sq S.length (S.flatMap sgC) :: rowE 89 2 av2 G.length (G.flatMap asC) :: rowE 94 4 mw ms2.length (ms2.flatMap mmC) :: bigE ps2 :: l) zdj ?_
  exact zcx (rs := [.tmp 10]) (vs := [.bool false]) rfl ⟨rfl, trivial⟩ rfl (fun w hm => ⟨_, bigE [], rfl, ⟨false, _, rfl, rfl, (fun h => by cases h), fun _ => by first | exact zer (zfn hs hc9 hpt (by rw [← hgi]; omega)) (by omega) | exact zfc hsF (fun h9 => by have h8 := hoi.1 h9; omega) | exact (zfb hsF hokF).trans (zep (i := xu + 1) (by rw [zeh hH, hk2, ← hzp, ← hpp]; exact hnoNone (by assumption)) _ (by omega))⟩, hm.sub (.cons_cons _ (.cons _ (.cons _ (.cons _ (.cons _ (.cons _ (.cons _ (.cons _ (.refl _)))))))))⟩)
 refine zay 1 rfl (zap rfl (zcv (zfi (hvQ rfl (fdQ 2 rfl rfl rfl) (hvQ rfl (zac rfl rfl rfl (zaa 1 rfl rfl)) ?_)))))
 refine hvQ rfl (lnQ rfl rfl rfl (fun w hm => (((hd w (hm.sub (.cons _ (.cons _ (.cons _ (.cons _ (.cons _ (.cons _ (.cons _ (.refl _)))))))))).at (k := k) hkl).x))) (zay 1 rfl (zaz ?_))
 have hokF : (ownF (D.getD k md0) p F (ids, n, S)).Ok := hoi.2 ⟨by omega, by omega, by omega⟩
 refine hc_loop5 (α := Nat) (β := Fz) (γ := List As) (δ := Value × Value × Value) (fun xu H gs3 q3 ps3 => (rowE 3 1 (.slice (some ⟨g2, 0, none⟩) ((List.replicate (((D.getD k md0).ss).length) (0 : Int)).length) ((List.replicate (((D.getD k md0).ss).length) (0 : Int)).length)) ids.length (ids.map (Value.int .i64)) :: boxE b1 #[(D.getD k md0).sv, (D.getD k md0).av, (D.getD k md0).iv, (D.getD k md0).mv] 35 :: boxE b #[v, q3.1, q3.2.1, .slice none 0 0, q3.2.2] 114 :: rowE 38 3 q3.1 H.ss.length (H.ss.flatMap sgC) :: rowE 89 2 q3.2.1 gs3.length (gs3.flatMap asC) :: rowE 94 4 q3.2.2 H.ms.length (H.ms.flatMap mmC) :: bigE ps3 :: l)) (fun xu H gs3 q3 ps3 => [(0, .pointer (some ⟨b, 0, none⟩)), (1, .int .i64 (k : Int)), (2, .int .i64 p), (3, uP), (4, .bool t), (10, .bool false), (11, .pointer (some ⟨b1, 0, none⟩)), (12, .slice (some ⟨g2, 0, none⟩) ((List.replicate (((D.getD k md0).ss).length) (0 : Int)).length) ((List.replicate (((D.getD k md0).ss).length) (0 : Int)).length)), (13, v3), (14, .int .i64 (n : Int)), (46, (D.getD k md0).sv), (47, .int .i64 (((D.getD k md0).ss).length : Int)), (48, .int .i64 (i : Int)), (49, .bool false), (125, (D.getD k md0).av), (126, .int .i64 (((D.getD k md0).gs).length : Int)), (127, .int .i64 (ax : Int)), (128, .bool false), (180, (D.getD k md0).mv), (181, .int .i64 (((D.getD k md0).ms).length : Int)), (182, .int .i64 (mx : Int)), (183, .bool false), (243, .bool false), (245, (D.getD k md0).iv), (246, .int .i64 (((D.getD k md0).xs).length : Int)), (247, .int .i64 (xu : Int))]) (fun xu H gs3 q3 ps3 => xu ≤ (D.getD k md0).xs.length ∧ insA (fun k p P G => addF D f k p true P G) ids p (D.getD k md0).xs (ownF (D.getD k md0) p F (ids, n, S)) xu = some H ∧ gs3.map asV = H.gs ∧ (∀ w, (bigE ps3).holds w → OpsR w gs3)) (fun xu H gs3 q3 ps3 => (D.getD k md0).xs.length - xu) 0 (Fz.mk S (G.map asV) ms2) G (sq, av2, mw) ps2 ⟨Nat.zero_le _, by show some _ = some _; rw [hGq, hMq]; rfl, rfl, hpq⟩ (zar [247, 246, 245, 243, 183, 182, 181, 180, 128, 127, 126, 125, 49, 48, 47, 46, 14, 13, 12, 11, 10, 4, 3, 2, 1, 0] rfl) (.refl _) ?_
 intro xu H gs3 q3 ps3 hi60
 obtain ⟨hu, hH, hG3, hp3⟩ := hi60
 obtain ⟨hHo, hHl⟩ := insA_ok hokF (fun k p P A B _ e => addF_ok f k p true P A B e) _ _ hH
 have hHl2 : S.length ≤ H.ss.length := hHl
 refine srQ ?_
 refine zbq rfl rfl rfl rfl rfl rfl (fun h61 => ?_) (fun h61 => ?_)
 ·
  refine ntQ (tcQ rfl (zcv (sbQ (srQ ?_))))
  refine hvQ rfl (riQ 3 rfl rfl rfl rfl (fun w hm => (((hd w (hm.sub (.cons _ (.cons _ (.cons _ (.cons _ (.cons _ (.cons _ (.cons _ (.refl _)))))))))).at (k := k) hkl).x))) (hvQ rfl (zbb (us := [.int .i64 ((((D.getD k md0).xs).getD xu ix0).m), .int .i64 ((((D.getD k md0).xs).getD xu ix0).p), (((D.getD k md0).xs).getD xu ix0).pv]) rfl rfl rfl rfl (fun w hm => (((hd w (hm.sub (.cons _ (.cons _ (.cons _ (.cons _ (.cons _ (.cons _ (.cons _ (.refl _)))))))))).at (k := k) hkl).x)) (by omega) rfl (zbr ixC 3 (fun _ => rfl) ((D.getD k md0).xs) ix0 (show xu < _ by omega) rfl)) ?_)
  refine zdn rfl (zbl (z := .agg #[.int .i64 0, .int .i64 0, .slice none 0 0]) rfl rfl) ?_
  intro b62
  refine zbh (cs' := #[.int .i64 ((((D.getD k md0).xs).getD xu ix0).m), .int .i64 ((((D.getD k md0).xs).getD xu ix0).p), (((D.getD k md0).xs).getD xu ix0).pv]) (i := 0) (off := 0) (us := [.int .i64 ((((D.getD k md0).xs).getD xu ix0).m), .int .i64 ((((D.getD k md0).xs).getD xu ix0).p), (((D.getD k md0).xs).getD xu ix0).pv]) rfl rfl rfl rfl rfl rfl rfl (zab rfl (zab rfl (zab (hm9.p.at (k := xu) (by omega)).one zbc))) rfl rfl rfl (ntQ (srQ ?_))
  have hxi := hmod.ins xu (by omega)
  have hxp : ∀ j, j < ((D.getD k md0).xs.getD xu ix0).ps.length → 0 ≤ ((D.getD k md0).xs.getD xu ix0).ps.getD j 0 ∧ ((D.getD k md0).xs.getD xu ix0).ps.getD j 0 < (D.getD k md0).ss.length := fun j hj => ((hmod.xs xu (by omega)).2 j (by rw [← hxi.2]; exact hj)).1
  have hxl30 : ((D.getD k md0).xs.getD xu ix0).ps.length ≤ 30 := by rw [hxi.2]; exact zfx _
  refine hvQ rfl (fdQ 1 rfl rfl rfl) (hvQ rfl (zac rfl rfl rfl (zaa 0 rfl rfl)) (zay 1 rfl ?_))
  refine zfg (α := Int) (fun pp => (boxE b62 #[.int .i64 ((((D.getD k md0).xs).getD xu ix0).m), .int .i64 ((((D.getD k md0).xs).getD xu ix0).p), (((D.getD k md0).xs).getD xu ix0).pv] 63 :: rowE 3 1 (.slice (some ⟨g2, 0, none⟩) ((List.replicate (((D.getD k md0).ss).length) (0 : Int)).length) ((List.replicate (((D.getD k md0).ss).length) (0 : Int)).length)) ids.length (ids.map (Value.int .i64)) :: boxE b1 #[(D.getD k md0).sv, (D.getD k md0).av, (D.getD k md0).iv, (D.getD k md0).mv] 35 :: boxE b #[v, q3.1, q3.2.1, .slice none 0 0, q3.2.2] 114 :: rowE 38 3 q3.1 H.ss.length (H.ss.flatMap sgC) :: rowE 89 2 q3.2.1 gs3.length (gs3.flatMap asC) :: rowE 94 4 q3.2.2 H.ms.length (H.ms.flatMap mmC) :: bigE ps3 :: l)) (fun pp => [(0, .pointer (some ⟨b, 0, none⟩)), (1, .int .i64 (k : Int)), (2, .int .i64 p), (3, uP), (4, .bool t), (10, .bool false), (11, .pointer (some ⟨b1, 0, none⟩)), (12, .slice (some ⟨g2, 0, none⟩) ((List.replicate (((D.getD k md0).ss).length) (0 : Int)).length) ((List.replicate (((D.getD k md0).ss).length) (0 : Int)).length)), (13, v3), (14, .int .i64 (n : Int)), (26, .pointer (some ⟨b62, 0, none⟩)), (27, .int .i64 pp), (46, (D.getD k md0).sv), (47, .int .i64 (((D.getD k md0).ss).length : Int)), (48, .int .i64 (i : Int)), (49, .bool false), (125, (D.getD k md0).av), (126, .int .i64 (((D.getD k md0).gs).length : Int)), (127, .int .i64 (ax : Int)), (128, .bool false), (180, (D.getD k md0).mv), (181, .int .i64 (((D.getD k md0).ms).length : Int)), (182, .int .i64 (mx : Int)), (183, .bool false), (243, .bool false), (245, (D.getD k md0).iv), (246, .int .i64 (((D.getD k md0).xs).length : Int)), (247, .int .i64 (xu : Int)), (248, .bool true)]) (fun pp => pp = inP p ((D.getD k md0).xs.getD xu ix0)) ?_ ?_
  ·
   refine zag (reQ 1 rfl ?_)
   refine zbu rfl rfl rfl rfl rfl rfl (fun h63 => ?_) (fun h63 => ?_)
   ·
    refine ntQ (zah rfl (zas (enQ 2 rfl ?_)))
    exact zde p (by unfold inP; first | rw [if_pos (by omega)] | rw [if_neg (by omega)]) (saQ rfl) (.refl _)
   refine ntQ (fsQ rfl ?_)
   exact zde ((((D.getD k md0).xs).getD xu ix0).p) (by unfold inP; first | rw [if_pos (by omega)] | rw [if_neg (by omega)]) (saQ rfl) (.refl _)
  intro pp hm64
  have hpp := hm64
  refine srQ ?_
  refine zej 3 1 (zay 1 rfl (zfi (hvQ rfl (fdQ 2 rfl rfl rfl) (hvQ rfl (zac rfl rfl rfl (zaa 1 rfl rfl)) ?_))))
  refine hvQ rfl (lnQ rfl rfl rfl (fun w hm => (((hd w (hm.sub (.cons _ (.cons _ (.cons _ (.cons _ (.cons _ (.cons _ (.cons _ (.cons _ (.cons _ (.refl _)))))))))))).at (k := k) hkl).p.at (k := xu) (by omega)))) (zay 1 rfl (zaz ?_))
  refine lkQ3 (α := Nat) (β := List Int) (γ := Value) [0, 1, 2, 3, 4, 10, 11, 12, 13, 14, 26, 27, 46, 47, 48, 49, 125, 126, 127, 128, 180, 181, 182, 183, 243, 245, 246, 247, 248, 257, 258] rfl (fun jx zs yv => (rowE 3 1 yv zs.length (zs.map (Value.int .i64)) :: boxE b62 #[.int .i64 ((((D.getD k md0).xs).getD xu ix0).m), .int .i64 ((((D.getD k md0).xs).getD xu ix0).p), (((D.getD k md0).xs).getD xu ix0).pv] 63 :: rowE 3 1 (.slice (some ⟨g2, 0, none⟩) ((List.replicate (((D.getD k md0).ss).length) (0 : Int)).length) ((List.replicate (((D.getD k md0).ss).length) (0 : Int)).length)) ids.length (ids.map (Value.int .i64)) :: boxE b1 #[(D.getD k md0).sv, (D.getD k md0).av, (D.getD k md0).iv, (D.getD k md0).mv] 35 :: boxE b #[v, q3.1, q3.2.1, .slice none 0 0, q3.2.2] 114 :: rowE 38 3 q3.1 H.ss.length (H.ss.flatMap sgC) :: rowE 89 2 q3.2.1 gs3.length (gs3.flatMap asC) :: rowE 94 4 q3.2.2 H.ms.length (H.ms.flatMap mmC) :: bigE ps3 :: l)) (fun jx zs yv => [(28, yv), (259, .int .i64 (jx : Int))]) (fun jx zs yv => jx ≤ ((D.getD k md0).xs.getD xu ix0).ps.length ∧ zs = (((D.getD k md0).xs.getD xu ix0).ps.take jx).map (fun q => ids.getD q.toNat 0)) (fun jx zs yv => ((D.getD k md0).xs.getD xu ix0).ps.length - jx) 0 [] _ ⟨Nat.zero_le _, rfl⟩ (saQ rfl) (.refl _) ?_
  intro jx zs yv hi66
  obtain ⟨hj, hz⟩ := hi66
  have hzl : zs.length = jx := by rw [hz, List.length_map, List.length_take]; omega
  refine srQ ?_
  refine zbq rfl rfl rfl rfl rfl rfl (fun h67 => ?_) (fun h67 => ?_)
  ·
   refine ntQ (tcQ rfl (zcv (sbQ (srQ ?_))))
   refine hvQ rfl (riQ 1 rfl rfl rfl rfl (fun w hm => (((hd w (hm.sub (.cons _ (.cons _ (.cons _ (.cons _ (.cons _ (.cons _ (.cons _ (.cons _ (.cons _ (.refl _)))))))))))).at (k := k) hkl).p.at (k := xu) (by omega)))) (hvQ rfl (zan (u := .int .i64 (((((D.getD k md0).xs).getD xu ix0).ps).getD jx 0)) rfl rfl rfl (fun w hm => (((hd w (hm.sub (.cons _ (.cons _ (.cons _ (.cons _ (.cons _ (.cons _ (.cons _ (.cons _ (.cons _ (.refl _)))))))))))).at (k := k) hkl).p.at (k := xu) (by omega))) (zcn (show _ < ((((D.getD k md0).xs).getD xu ix0).ps).length by omega))) ?_)
   refine zay 1 rfl (zas ?_)
   have hxj := hxp jx (by omega)
   refine zam 3 rfl (hvQ rfl (riQ 1 rfl rfl rfl rfl (zaj 2 rfl)) (hvQ rfl (lzQ rfl rfl rfl (zaj 2 rfl)) ?_))
   refine zea rfl (zak (z := .int .i64 0) (s := 1) (cs := ([ids.getD ((((((D.getD k md0).xs).getD xu ix0).ps).getD jx 0).toNat) 0].map (Value.int .i64))) rfl Try.underlying48 rfl (by decide) rfl (by kernel_rfl) rfl) ?_
   intro g68
   refine zcs (i := 1) (z := .int .i64 0) (bytes := 8) rfl rfl rfl rfl Try.underlying48 (by kernel_rfl) rfl rfl rfl rfl (zaj 0 rfl) (zbx _) (by first | omega | (simp; done) | (simp; omega)) (zcc zs ([ids.getD ((((((D.getD k md0).xs).getD xu ix0).ps).getD jx 0).toNat) 0])) (zcw zs ([ids.getD ((((((D.getD k md0).xs).getD xu ix0).ps).getD jx 0).toNat) 0])) (fun _ => rfl) ?_
   intro v69
   refine enQ 1 rfl (zdh (zas (hvQ rfl (vaQ rfl rfl rfl) (enQ 1 rfl ?_))))
   exact zcq (jx + 1) (zs ++ ([ids.getD ((((((D.getD k md0).xs).getD xu ix0).ps).getD jx 0).toNat) 0])) v69 ⟨by omega, ptF_take hz (by omega)⟩ (by omega) (saQ rfl) (.cons _ (.refl _))
  refine ntQ (fcQ rfl ?_)
  refine zbj (zeb ?_)
  refine zal (zba (srQ ?_))
  refine zfo 9 [3, 2, 1, 0, 8, 7, 6, 5, 4] rfl rfl (by decide) ?_
  refine hl_pool 5 rfl ?_
  have hzp : zs = ptF ids ((D.getD k md0).xs.getD xu ix0) := by rw [hz, show jx = ((D.getD k md0).xs.getD xu ix0).ps.length by omega, List.take_length]; rfl
  refine zam 1 rfl (hvQ rfl (fdQ 0 rfl rfl rfl) (hvQ rfl (zac rfl rfl rfl (zaa 2 rfl rfl)) ?_))
  obtain ⟨kx, hk2⟩ : ∃ kx : Nat, ((D.getD k md0).xs.getD xu ix0).m = (kx : Int) := ⟨((D.getD k md0).xs.getD xu ix0).m.toNat, by omega⟩
  rw [hk2]
  rw [hk2, Int.toNat_natCast] at hxi
  have hpo2 : PoP (D.getD kx md0) true zs H.ss.length := fun _ => ⟨by rw [hzp, ptF_len]; exact hxi.2, by rw [hzp]; exact ptF_in (hin.mono hHl2) (fun j hj => by have h9 := hxp j hj; omega)⟩
  refine zam 2 rfl (zds (R := (fun u_ p_ => AddB (addF D f kx pp true zs H) b v u_ p_)) 0 rfl rfl rfl rfl rfl (fun L w hX hm => IH kx pp zs H gs3 yv q3.1 q3.2.1 q3.2.2 ps3 _ _ (by omega) hHo hpo2 hG3 hp3 (fun w h => hd w ((hX w h).sub (.cons _ (.cons _ (.cons _ (.cons _ (.refl _))))))) (fun w h => (zaj (l := (rowE 3 1 yv zs.length (zs.map (Value.int .i64)) :: boxE b62 #[.int .i64 ((kx : Int)), .int .i64 ((((D.getD k md0).xs).getD xu ix0).p), (((D.getD k md0).xs).getD xu ix0).pv] 63 :: rowE 3 1 (.slice (some ⟨g2, 0, none⟩) ((List.replicate (((D.getD k md0).ss).length) (0 : Int)).length) ((List.replicate (((D.getD k md0).ss).length) (0 : Int)).length)) ids.length (ids.map (Value.int .i64)) :: boxE b1 #[(D.getD k md0).sv, (D.getD k md0).av, (D.getD k md0).iv, (D.getD k md0).mv] 35 :: l)) 0 rfl) w (hX w h)) hm) ?_)
  intro v70 p71 hR72
  obtain ⟨okhR72, qshR72, rfl, rfl, hgohR72, hnohR72⟩ := hR72
  refine zcl (l' := (bigE qshR72 :: rowE 3 1 yv zs.length (zs.map (Value.int .i64)) :: boxE b62 #[.int .i64 ((kx : Int)), .int .i64 ((((D.getD k md0).xs).getD xu ix0).p), (((D.getD k md0).xs).getD xu ix0).pv] 63 :: rowE 3 1 (.slice (some ⟨g2, 0, none⟩) ((List.replicate (((D.getD k md0).ss).length) (0 : Int)).length) ((List.replicate (((D.getD k md0).ss).length) (0 : Int)).length)) ids.length (ids.map (Value.int .i64)) :: boxE b1 #[(D.getD k md0).sv, (D.getD k md0).av, (D.getD k md0).iv, (D.getD k md0).mv] 35 :: l)) rfl ?_
  refine zbm (fun h73 => ?_) (fun h73 => ?_)
  ·
   refine zay 1 rfl (fsQ rfl (zdh (zas ?_)))
   obtain ⟨G2, a9, c9, d9, gs4, ps4, hG2, rfl, hp4, hG4⟩ := hgohR72 (by assumption)
   refine zfo 5 [4, 3, 2, 1, 0] rfl rfl (by decide) ?_
   refine zfd (boxE b #[v, a9, c9, .slice none 0 0, d9] 114 :: rowE 38 3 a9 G2.ss.length (G2.ss.flatMap sgC) :: rowE 89 2 c9 gs4.length (gs4.flatMap asC) :: rowE 94 4 d9 G2.ms.length (G2.ms.flatMap mmC) :: bigE ps4 :: rowE 3 1 yv zs.length (zs.map (Value.int .i64)) :: boxE b62 #[.int .i64 ((kx : Int)), .int .i64 ((((D.getD k md0).xs).getD xu ix0).p), (((D.getD k md0).xs).getD xu ix0).pv] 63 :: rowE 3 1 (.slice (some ⟨g2, 0, none⟩) ((List.replicate (((D.getD k md0).ss).length) (0 : Int)).length) ((List.replicate (((D.getD k md0).ss).length) (0 : Int)).length)) ids.length (ids.map (Value.int .i64)) :: boxE b1 #[(D.getD k md0).sv, (D.getD k md0).av, (D.getD k md0).iv, (D.getD k md0).mv] 35 :: l) zdb ?_
   refine hvQ rfl (vaQ rfl rfl rfl) (enQ 1 rfl ?_)
   refine zbn 9 [4, 3, 2, 1, 0, 8, 7] rfl rfl (by decide) ?_
   exact zen (xu + 1) G2 gs4 (a9, c9, d9) ps4 ⟨by omega, by rw [zeh hH, hk2, ← hzp, ← hpp]; exact hG2, hG4, hp4⟩ (by omega) (zar [247, 246, 245, 243, 183, 182, 181, 180, 128, 127, 126, 125, 49, 48, 47, 46, 14, 13, 12, 11, 10, 4, 3, 2, 1, 0] rfl) (.refl _)
  refine zay 1 rfl (zah rfl (zbg 1 rfl ?_))
  refine zao (zad ?_)
  refine zdv ?_
  refine zad (zae ?_)
  refine zco (bigE [] :: bigE qshR72 :: rowE 3 1 yv zs.length (zs.map (Value.int .i64)) :: boxE b62 #[.int .i64 ((kx : Int)), .int .i64 ((((D.getD k md0).xs).getD xu ix0).p), (((D.getD k md0).xs).getD xu ix0).pv] 63 :: rowE 3 1 (.slice (some ⟨g2, 0, none⟩) ((List.replicate (((D.getD k md0).ss).length) (0 : Int)).length) ((List.replicate (((D.getD k md0).ss).length) (0 : Int)).length)) ids.length (ids.map (Value.int .i64)) :: boxE b1 #[(D.getD k md0).sv, (D.getD k md0).av, (D.getD k md0).iv, (D.getD k md0).mv] 35 :: l) zdj ?_
  exact zcx (rs := [.tmp 10]) (vs := [.bool false]) rfl ⟨rfl, trivial⟩ rfl (fun w hm => ⟨_, bigE [], rfl, ⟨false, _, rfl, rfl, (fun h => by cases h), fun _ => by first | exact zer (zfn hs hc9 hpt (by rw [← hgi]; omega)) (by omega) | exact zfc hsF (fun h9 => by have h8 := hoi.1 h9; omega) | exact (zfb hsF hokF).trans (zep (i := xu + 1) (by rw [zeh hH, hk2, ← hzp, ← hpp]; exact hnohR72 (by assumption)) _ (by omega))⟩, hm.sub (.cons_cons _ (.cons _ (.cons _ (.cons _ (.cons _ (.cons _ (.refl _)))))))⟩)
 refine ntQ (fcQ rfl ?_)
 refine zbj (zeb ?_)
 refine zal (zba (zbg 1 rfl ?_))
 refine zao (zbn 7 [1, 0, 6, 5, 4, 3, 2] rfl rfl (by decide) ?_)
 refine zcd 5 rfl ?_
 exact zcx (rs := [.tmp 10]) (vs := [.bool true]) rfl ⟨rfl, trivial⟩ rfl (fun w hm => ⟨_, bigE [boxE b #[v, q3.1, q3.2.1, .slice none 0 0, q3.2.2] 114, rowE 38 3 q3.1 H.ss.length (H.ss.flatMap sgC), rowE 89 2 q3.2.1 gs3.length (gs3.flatMap asC), rowE 94 4 q3.2.2 H.ms.length (H.ms.flatMap mmC), bigE ps3], rfl, ⟨true, _, rfl, rfl, fun _ => ⟨H, _, _, _, gs3, ps3, by rw [zfb hsF hokF, show (D.getD k md0).xs.length = xu by omega]; exact hH, rfl, hp3, hG3⟩, fun h => by cases h⟩, hm.sub (.cons_cons _ (.cons _ (.cons _ (.refl _))))⟩)
theorem l06Add_step (D : List Md) (f k : Nat) (p : Int) (c : Bool) (P : List Int) (F : Fz) (gs : List As) (v uP sv av mv : Value) (ps : List HP) (w0 : World) (l : List HP) (w : World) (hm0 : Mem w0 (bigE (flQ sv av mv F.ss gs F.ms ps) :: l) w) (hd : ∀ w, Mem w0 l w → RdsDs w v D) (hP : ∀ w, Mem w0 l w → RdsW w uP 1 P.length (P.map (Value.int .i64))) (hdp : DesP D) (hkl : k < D.length) (hF : F.Ok) (hPo : PoP (D.getD k md0) c P F.ss.length) (hgs : gs.map asV = F.gs) (hps : ∀ w, (bigE ps).holds w → OpsR w gs) (IH : ∀ (kx : Nat) (p2 : Int) (P2 : List Int) (F2 : Fz) (gs2 : List As) (ux sv2 av2 mv2 : Value) (ps2 l2 : List HP) (w2 : World), kx < k → F2.Ok → PoP (D.getD kx md0) true P2 F2.ss.length → gs2.map asV = F2.gs → (∀ w, (bigE ps2).holds w → OpsR w gs2) → (∀ w, Mem w0 l2 w → RdsDs w v D) → (∀ w, Mem w0 l2 w → RdsW w ux 1 P2.length (P2.map (Value.int .i64))) → Mem w0 (bigE (flQ sv2 av2 mv2 F2.ss gs2 F2.ms ps2) :: l2) w2 → Calls Try.prog 70 #[.agg #[v], .int .i64 (kx : Int), .int .i64 p2, .bool true, ux, .agg #[sv2, av2, .slice none 0 0, mv2]] w2 (fun e_ w_ => ∃ v_ p_, e_ = .returned v_ ∧ AddR (addF D f kx p2 true P2 F2) v_ p_ ∧ Mem w0 (p_ :: l2) w_)) :
   Calls Try.prog 70 #[.agg #[v], .int .i64 (k : Int), .int .i64 p, .bool c, uP, .agg #[sv, av, .slice none 0 0, mv]] w (fun e_ w_ => ∃ v_ p_, e_ = .returned v_ ∧ (fun u_ p_ => AddR (addF D (f + 1) k p c P F) u_ p_) v_ p_ ∧ Mem w0 (p_ :: l) w_) := by
 have hd9 := hd w (hm0.sub (List.sublist_cons_self _ _))
 have hm9 := hd9.at (k := k) hkl
 have hP9 := sml (hP w (hm0.sub (List.sublist_cons_self _ _)))
 have hmod := hdp.2 k hkl
 have hln := hmod.cnt.md k hkl
 obtain ⟨hF1, hF2, hF3⟩ := hF
 obtain ⟨hln1, hln2, hln3, hln4⟩ := id hln
 have hdl := hmod.cnt.len
 have hfl9 : F.gs.length = gs.length := by rw [← hgs, List.length_map]
 refine zfa (N := 270) (args := [.agg #[v], .int .i64 (k : Int), .int .i64 p, .bool c, uP, .agg #[sv, av, .slice none 0 0, mv]]) Try.func70 rfl rfl (l := (rowE 38 3 sv F.ss.length (F.ss.flatMap sgC) :: rowE 89 2 av gs.length (gs.flatMap asC) :: rowE 94 4 mv F.ms.length (F.ms.flatMap mmC) :: bigE ps :: l)) hm0.unbig (srQ ?_)
 refine zdn rfl (zdm rfl rfl) ?_
 intro b1
 refine zdn rfl (zdm rfl rfl) ?_
 intro b2
 refine zdn rfl (zbl (z := .agg #[.slice none 0 0, .slice none 0 0, .slice none 0 0, .slice none 0 0]) rfl rfl) ?_
 intro b3
 refine zay 1 rfl (srQ (hvQ rfl (fdQ 0 rfl rfl rfl) (hvQ rfl (zac rfl rfl rfl (zaa 2 rfl rfl)) (zam 1 rfl ?_))))
 refine hvQ rfl (riQ 4 rfl rfl rfl rfl (fun w hm => ((hd w (hm.sub (.cons _ (.cons _ (.cons _ (.cons _ (.cons _ (.cons _ (.cons _ (.refl _)))))))))).row))) (hvQ rfl (zbb (us := [(D.getD k md0).sv, (D.getD k md0).av, (D.getD k md0).iv, (D.getD k md0).mv]) rfl rfl rfl rfl (fun w hm => ((hd w (hm.sub (.cons _ (.cons _ (.cons _ (.cons _ (.cons _ (.cons _ (.cons _ (.refl _)))))))))).row)) (by omega) rfl (zbr mdC 4 (fun _ => rfl) D md0 (show k < _ by omega) rfl)) ?_)
 refine zdn rfl (zbl (z := .agg #[.slice none 0 0, .slice none 0 0, .slice none 0 0, .slice none 0 0]) rfl rfl) ?_
 intro b4
 refine zbh (cs' := #[(D.getD k md0).sv, (D.getD k md0).av, (D.getD k md0).iv, (D.getD k md0).mv]) (i := 0) (off := 0) (us := [(D.getD k md0).sv, (D.getD k md0).av, (D.getD k md0).iv, (D.getD k md0).mv]) rfl rfl rfl rfl rfl rfl rfl (zab hm9.s.one (zab hm9.g.one (zab hm9.x.one (zab hm9.m.one zbc)))) rfl rfl rfl (ntQ (srQ ?_))
 refine zea rfl (zee (s := 1) rfl Try.underlying48 rfl) ?_
 intro g5
 refine zay 1 rfl (zbg 1 rfl (zag (zag (reQ 1 rfl ?_))))
 refine ntQ (zaz ?_)
 refine hc_loop5 (α := Nat) (β := Nat) (γ := List Int) (δ := List Sg) (fun i n ids S q => (rowE 3 1 q.1 ids.length (ids.map (Value.int .i64)) :: boxE b4 #[(D.getD k md0).sv, (D.getD k md0).av, (D.getD k md0).iv, (D.getD k md0).mv] 35 :: boxE b3 #[.slice none 0 0, .slice none 0 0, .slice none 0 0, .slice none 0 0] 35 :: boxE b2 #[q.2, av, .slice none 0 0, mv] 35 :: boxE b1 #[v] 26 :: rowE 38 3 q.2 S.length (S.flatMap sgC) :: rowE 89 2 av gs.length (gs.flatMap asC) :: rowE 94 4 mv F.ms.length (F.ms.flatMap mmC) :: bigE ps :: l)) (fun i n ids S q => [(0, .agg #[v]), (1, .int .i64 (k : Int)), (2, .int .i64 p), (3, .bool c), (4, uP), (5, .agg #[sv, av, .slice none 0 0, mv]), (6, .pointer (some ⟨b1, 0, none⟩)), (11, .pointer (some ⟨b2, 0, none⟩)), (12, .pointer (some ⟨b3, 0, none⟩)), (13, .bool false), (14, .pointer (some ⟨b4, 0, none⟩)), (15, q.1), (16, .int .i64 (n : Int)), (17, .int .i64 (i : Int))]) (fun i n ids S q => i ≤ (D.getD k md0).ss.length ∧ sgF (D.getD k md0) p c P F.ss i = some (ids, n, S)) (fun i n ids S q => (D.getD k md0).ss.length - i) 0 0 [] F.ss (.slice (some ⟨g5, 0, none⟩) 0 0, sv) ⟨Nat.zero_le _, rfl⟩ (zar [17, 16, 15, 14, 13, 12, 11, 6, 5, 4, 3, 2, 1, 0] rfl) (.refl _) ?_
 intro i n ids S q hi6
 obtain ⟨hi, hs⟩ := hi6
 obtain ⟨hil, hin, hnn, hsl, hsu⟩ := sgF_ok hPo hln.1 i _ hi hs
 have hil : ids.length = i := hil
 have hin : InN S.length ids := hin
 have hnn : n = ptN _ c i := hnn
 have hsl : F.ss.length ≤ S.length := hsl
 have hsu : S.length ≤ F.ss.length + i := hsu
 refine zag (zag (reQ 1 rfl (hvQ rfl (fdQ 0 rfl rfl rfl) (hvQ rfl (zac rfl rfl rfl (zaa 1 rfl rfl)) ?_))))
 refine hvQ rfl (lnQ rfl rfl rfl (fun w hm => (((hd w (hm.sub (.cons _ (.cons _ (.cons _ (.cons _ (.cons _ (.cons _ (.cons _ (.cons _ (.cons _ (.refl _)))))))))))).at (k := k) hkl).s))) (zbq rfl rfl rfl rfl rfl rfl (fun h7 => ?_) (fun h7 => ?_))
 ·
  refine ntQ (zah rfl (zcv (sbQ (srQ (hvQ rfl (fdQ 0 rfl rfl rfl) (hvQ rfl (zac rfl rfl rfl (zaa 1 rfl rfl)) (zam 1 rfl ?_)))))))
  refine hvQ rfl (riQ 3 rfl rfl rfl rfl (fun w hm => (((hd w (hm.sub (.cons _ (.cons _ (.cons _ (.cons _ (.cons _ (.cons _ (.cons _ (.cons _ (.cons _ (.refl _)))))))))))).at (k := k) hkl).s))) (hvQ rfl (zbb (us := [.int .i64 ((((D.getD k md0).ss).getD i sg0).k), .int .i64 ((((D.getD k md0).ss).getD i sg0).w), .int .i64 ((((D.getD k md0).ss).getD i sg0).i)]) rfl rfl rfl rfl (fun w hm => (((hd w (hm.sub (.cons _ (.cons _ (.cons _ (.cons _ (.cons _ (.cons _ (.cons _ (.cons _ (.cons _ (.refl _)))))))))))).at (k := k) hkl).s)) (by omega) rfl (zbr sgC 3 (fun _ => rfl) ((D.getD k md0).ss) sg0 (show i < _ by omega) rfl)) ?_)
  refine zdn rfl (zbl (z := .agg #[.int .i64 0, .int .i64 0, .int .i64 0]) rfl rfl) ?_
  intro b8
  refine zbh (cs' := #[.int .i64 ((((D.getD k md0).ss).getD i sg0).k), .int .i64 ((((D.getD k md0).ss).getD i sg0).w), .int .i64 ((((D.getD k md0).ss).getD i sg0).i)]) (i := 0) (off := 0) (us := [.int .i64 ((((D.getD k md0).ss).getD i sg0).k), .int .i64 ((((D.getD k md0).ss).getD i sg0).w), .int .i64 ((((D.getD k md0).ss).getD i sg0).i)]) rfl rfl rfl rfl rfl rfl rfl (zab rfl (zab rfl (zab rfl zbc))) rfl rfl rfl (ntQ ?_)
  refine zfg (α := Int) (fun wd => (boxE b8 #[.int .i64 ((((D.getD k md0).ss).getD i sg0).k), .int .i64 wd, .int .i64 ((((D.getD k md0).ss).getD i sg0).i)] 38 :: rowE 3 1 q.1 ids.length (ids.map (Value.int .i64)) :: boxE b4 #[(D.getD k md0).sv, (D.getD k md0).av, (D.getD k md0).iv, (D.getD k md0).mv] 35 :: boxE b3 #[.slice none 0 0, .slice none 0 0, .slice none 0 0, .slice none 0 0] 35 :: boxE b2 #[q.2, av, .slice none 0 0, mv] 35 :: boxE b1 #[v] 26 :: rowE 38 3 q.2 S.length (S.flatMap sgC) :: rowE 89 2 av gs.length (gs.flatMap asC) :: rowE 94 4 mv F.ms.length (F.ms.flatMap mmC) :: bigE ps :: l)) (fun wd => [(0, .agg #[v]), (1, .int .i64 (k : Int)), (2, .int .i64 p), (3, .bool c), (4, uP), (5, .agg #[sv, av, .slice none 0 0, mv]), (6, .pointer (some ⟨b1, 0, none⟩)), (11, .pointer (some ⟨b2, 0, none⟩)), (12, .pointer (some ⟨b3, 0, none⟩)), (13, .bool false), (14, .pointer (some ⟨b4, 0, none⟩)), (15, q.1), (16, .int .i64 (n : Int)), (17, .int .i64 (i : Int)), (18, .pointer (some ⟨b8, 0, none⟩)), (42, .bool true)]) (fun wd => wd = wdF p ((D.getD k md0).ss.getD i sg0)) ?_ ?_
  ·
   refine srQ (hvQ rfl (fdQ 1 rfl rfl rfl) (hvQ rfl (zac rfl rfl rfl (zaa 0 rfl rfl)) ?_))
   refine zbu rfl rfl rfl rfl rfl rfl (fun h9 => ?_) (fun h9 => ?_)
   ·
    refine ntQ (zah rfl (reQ 1 rfl (hvQ rfl (fdQ 1 rfl rfl rfl) ?_)))
    refine zdo (i := 0) (cs' := #[.int .i64 ((((D.getD k md0).ss).getD i sg0).k), .int .i64 p, .int .i64 ((((D.getD k md0).ss).getD i sg0).i)]) rfl rfl rfl rfl rfl rfl rfl rfl rfl rfl rfl (zcu ?_)
    exact zde p (by unfold wdF; first | rw [if_pos (by omega)] | rw [if_neg (by omega)]) (saQ rfl) (.refl _)
   refine ntQ (fsQ rfl ?_)
   exact zde ((((D.getD k md0).ss).getD i sg0).w) (by unfold wdF; first | rw [if_pos (by omega)] | rw [if_neg (by omega)]) (saQ rfl) (.refl _)
  intro wd hm10
  have hwd := hm10
  refine zag (zag (reQ 1 rfl ?_))
  refine zbm (fun h11 => ?_) (fun h11 => ?_)
  ·
   refine zam 1 rfl (hvQ rfl (fdQ 0 rfl rfl rfl) (hvQ rfl (zac rfl rfl rfl (zaa 0 rfl rfl)) ?_))
   refine zbu rfl rfl rfl rfl rfl rfl (fun h12 => ?_) (fun h12 => ?_)
   ·
    refine zay 6 rfl (zah rfl (zag (zag ?_)))
    have hpt : isPt ((D.getD k md0).ss.getD i sg0) = true := zew.2 (by omega)
    have hnp : n < P.length := by rw [hnn]; exact ptN_lt hPo hln.1 (by omega) (by assumption) hpt
    have hpr := (hPo (by assumption)).2.at hnp
    rcases Bool.eq_false_or_eq_true (((S.getD ((P.getD n 0).toNat) sg0).w) != wd) with hb13 | hb13
    ·
     have hb13p : (S.getD ((P.getD n 0).toNat) sg0).w ≠ wd := bne_iff_ne.1 hb13
     refine zbz 12 [[], [0], [], [], [2, 3], [4], [1, 5], [6], [7], [], [9], [8, 10]] [66, 67, 68, 69, 70, 71, 72, 73, 74, 75, 76, 77] [.pointer (some ⟨b2, 0 + 0, none⟩), q.2, uP, .int .i64 (n : Int), elP uP (((n : Int)).toNat * 1), .int .i64 (P.getD n 0), elP q.2 ((P.getD n 0).toNat * 3), elP q.2 ((P.getD n 0).toNat * 3 + 1), .int .i64 ((S.getD ((P.getD n 0).toNat) sg0).w), .pointer (some ⟨b8, 0 + 1, none⟩), .int .i64 wd, .bool true] (by kernel_rfl) rfl ?_ ?_
     ·
      exact ⟨iaQ rfl (fdQ 0 rfl rfl rfl) rfl, iaQ rfl (zac rfl rfl rfl (zaa 4 rfl rfl)) rfl, iaQ rfl (zau rfl) rfl, iaQ rfl (zau rfl) rfl, iaQ rfl (riQ 1 rfl rfl rfl rfl (fun w hm => hP w (hm.sub (.cons _ (.cons _ (.cons _ (.cons _ (.cons _ (.cons _ (.cons _ (.cons _ (.cons _ (.cons _ (.refl _)))))))))))))) rfl, iaQ rfl (liQ rfl rfl rfl (fun w hm => hP w (hm.sub (.cons _ (.cons _ (.cons _ (.cons _ (.cons _ (.cons _ (.cons _ (.cons _ (.cons _ (.cons _ (.refl _)))))))))))))) rfl, iaQ rfl (riQ 3 rfl rfl rfl rfl (zaj 6 rfl)) rfl, iaQ rfl (zaq (k0 := 1) rfl rfl rfl (zaj 6 rfl) (by omega)) rfl, iaQ rfl (zan (u := .int .i64 ((S.getD ((P.getD n 0).toNat) sg0).w)) rfl rfl rfl (zaj 6 rfl) ((zbd sgC 3 (fun _ => rfl) S sg0 (show (P.getD n 0).toNat < _ by omega) (by decide)).trans rfl)) rfl, iaQ rfl (fdQ 1 rfl rfl rfl) rfl, iaQ rfl (zac rfl rfl rfl (zaa 0 rfl rfl)) rfl, .inl ⟨rfl, zdl (zcf rfl rfl rfl rfl) hb13⟩, trivial⟩
     simp only [List.drop_succ_cons, List.drop_zero]
     refine ntQ (zah rfl (srQ (hvQ rfl (zax (cs := [q.2, av, .slice none 0 0, mv]) rfl rfl rfl rfl rfl (zat 4 rfl 0 rfl)) ?_)))
     refine zct (i := 8) rfl (fun ho14 => ?_)
     refine zct (i := 7) rfl (fun ho15 => ?_)
     refine zct (i := 6) rfl (fun ho16 => ?_)
     refine zbh (cs' := #[q.2, av, .slice none 0 0, mv]) (i := 3) (off := 0) (us := [q.2, av, .slice none 0 0, mv]) rfl rfl rfl rfl rfl rfl rfl (zab ho16 (zab ho15 (zab rfl (zab ho14 zbc)))) rfl rfl rfl (zay 1 rfl ?_)
     refine zao (zdv ?_)
     refine zad (zdv ?_)
     refine zad (zae ?_)
     refine zft (p := q.2.oneCell' = true ∧ av.oneCell' = true ∧ mv.oneCell' = true) (fun w hm => ⟨(zaj 6 rfl w hm).one, (zaj 7 rfl w hm).one, (zaj 8 rfl w hm).one⟩) (fun ho9 => ?_)
     refine zco (bigE [] :: boxE b8 #[.int .i64 ((((D.getD k md0).ss).getD i sg0).k), .int .i64 wd, .int .i64 ((((D.getD k md0).ss).getD i sg0).i)] 38 :: rowE 3 1 q.1 ids.length (ids.map (Value.int .i64)) :: boxE b4 #[(D.getD k md0).sv, (D.getD k md0).av, (D.getD k md0).iv, (D.getD k md0).mv] 35 :: boxE b3 #[q.2, av, .slice none 0 0, mv] 35 :: boxE b2 #[q.2, av, .slice none 0 0, mv] 35 :: boxE b1 #[v] 26 :: rowE 38 3 q.2 S.length (S.flatMap sgC) :: rowE 89 2 av gs.length (gs.flatMap asC) :: rowE 94 4 mv F.ms.length (F.ms.flatMap mmC) :: bigE ps :: l) zdj ?_
     exact zcx (rs := [.cell 12 35, .tmp 13]) (vs := [.agg #[q.2, av, .slice none 0 0, mv], .bool false]) rfl ⟨⟨b3, 0, [q.2, av, .slice none 0 0, mv], rfl, rfl, by kernel_rfl, by kernel_rfl, zat 4 rfl 0 rfl⟩, rfl, trivial⟩ rfl (fun w hm => ⟨_, bigE [], rfl, ⟨_, _, _, false, _, rfl, rfl, ho9, (fun h => by cases h), fun _ => by first | exact zer (zfn hs (by assumption) hpt (by omega)) (by omega) | exact zfc hsF (fun h9 => by have h8 := hoi.1 h9; omega) | exact (zfb hsF hokF).trans (zep (i := ux + 1) (by rw [zeh hH, hk2, ← hzp, ← hpp]; exact hnoNone (by assumption)) _ (by omega))⟩, hm.sub (.cons_cons _ (.cons _ (.cons _ (.cons _ (.cons _ (.cons _ (.cons _ (.cons _ (.cons _ (.cons _ (.cons _ (.refl _))))))))))))⟩)
    have hb13p : (S.getD ((P.getD n 0).toNat) sg0).w = wd := (bne_eq_false_iff_eq.1 hb13)
    refine zbz 12 [[], [0], [], [], [2, 3], [4], [1, 5], [6], [7], [], [9], [8, 10]] [66, 67, 68, 69, 70, 71, 72, 73, 74, 75, 76, 77] [.pointer (some ⟨b2, 0 + 0, none⟩), q.2, uP, .int .i64 (n : Int), elP uP (((n : Int)).toNat * 1), .int .i64 (P.getD n 0), elP q.2 ((P.getD n 0).toNat * 3), elP q.2 ((P.getD n 0).toNat * 3 + 1), .int .i64 ((S.getD ((P.getD n 0).toNat) sg0).w), .pointer (some ⟨b8, 0 + 1, none⟩), .int .i64 wd, .bool false] (by kernel_rfl) rfl ?_ ?_
    ·
     exact ⟨iaQ rfl (fdQ 0 rfl rfl rfl) rfl, iaQ rfl (zac rfl rfl rfl (zaa 4 rfl rfl)) rfl, iaQ rfl (zau rfl) rfl, iaQ rfl (zau rfl) rfl, iaQ rfl (riQ 1 rfl rfl rfl rfl (fun w hm => hP w (hm.sub (.cons _ (.cons _ (.cons _ (.cons _ (.cons _ (.cons _ (.cons _ (.cons _ (.cons _ (.cons _ (.refl _)))))))))))))) rfl, iaQ rfl (liQ rfl rfl rfl (fun w hm => hP w (hm.sub (.cons _ (.cons _ (.cons _ (.cons _ (.cons _ (.cons _ (.cons _ (.cons _ (.cons _ (.cons _ (.refl _)))))))))))))) rfl, iaQ rfl (riQ 3 rfl rfl rfl rfl (zaj 6 rfl)) rfl, iaQ rfl (zaq (k0 := 1) rfl rfl rfl (zaj 6 rfl) (by omega)) rfl, iaQ rfl (zan (u := .int .i64 ((S.getD ((P.getD n 0).toNat) sg0).w)) rfl rfl rfl (zaj 6 rfl) ((zbd sgC 3 (fun _ => rfl) S sg0 (show (P.getD n 0).toNat < _ by omega) (by decide)).trans rfl)) rfl, iaQ rfl (fdQ 1 rfl rfl rfl) rfl, iaQ rfl (zac rfl rfl rfl (zaa 0 rfl rfl)) rfl, .inl ⟨rfl, zdl (zcf rfl rfl rfl rfl) hb13⟩, trivial⟩
    simp only [List.drop_succ_cons, List.drop_zero]
    refine ntQ (zap rfl (zcv (zag (reQ 3 rfl ?_))))
    refine hvQ rfl (riQ 1 rfl rfl rfl rfl (fun w hm => hP w (hm.sub (.cons _ (.cons _ (.cons _ (.cons _ (.cons _ (.cons _ (.cons _ (.cons _ (.cons _ (.cons _ (.refl _)))))))))))))) (hvQ rfl (liQ rfl rfl rfl (fun w hm => hP w (hm.sub (.cons _ (.cons _ (.cons _ (.cons _ (.cons _ (.cons _ (.cons _ (.cons _ (.cons _ (.cons _ (.refl _)))))))))))))) ?_)
    refine zea rfl (zak (z := .int .i64 0) (s := 1) (cs := ([P.getD n 0].map (Value.int .i64))) rfl Try.underlying48 rfl (by decide) rfl (by kernel_rfl) rfl) ?_
    intro g17
    refine zcs (i := 2) (z := .int .i64 0) (bytes := 8) rfl rfl rfl rfl Try.underlying48 (by kernel_rfl) rfl rfl rfl rfl (zaj 0 rfl) (zbx _) (by first | omega | (simp; done) | (simp; omega)) (zcc ids ([P.getD n 0])) (zcw ids ([P.getD n 0])) (fun _ => rfl) ?_
    intro v18
    refine zay 1 rfl (zag (reQ 1 rfl (hvQ rfl (vaQ rfl rfl rfl) (zay 1 rfl ?_))))
    refine zbj (zfp ?_)
    refine zal (zba (reQ 1 rfl (hvQ rfl (vaQ rfl rfl rfl) (enQ 1 rfl ?_))))
    exact zen (i + 1) (n + 1) (ids ++ ([P.getD n 0])) S (v18, q.2) ⟨by omega, sgF_port hs (by assumption) hpt (by omega)⟩ (by omega) (zar [17, 16, 15, 14, 13, 12, 11, 6, 5, 4, 3, 2, 1, 0] rfl) (.cons _ (.cons _ (.refl _)))
   refine zam 1 rfl (hvQ rfl (fdQ 0 rfl rfl rfl) (hvQ rfl (zac rfl rfl rfl (zaa 0 rfl rfl)) ?_))
   refine zbu rfl rfl rfl rfl rfl rfl (fun h19 => ?_) (fun h19 => ?_)
   ·
    refine zay 2 rfl (zah rfl (zag (zag ?_)))
    have hpt : isPt ((D.getD k md0).ss.getD i sg0) = true := zew.2 (by omega)
    have hnp : n < P.length := by rw [hnn]; exact ptN_lt hPo hln.1 (by omega) (by assumption) hpt
    have hpr := (hPo (by assumption)).2.at hnp
    rcases Bool.eq_false_or_eq_true (((S.getD ((P.getD n 0).toNat) sg0).w) != wd) with hb20 | hb20
    ·
     have hb20p : (S.getD ((P.getD n 0).toNat) sg0).w ≠ wd := bne_iff_ne.1 hb20
     refine zbz 12 [[], [0], [], [], [2, 3], [4], [1, 5], [6], [7], [], [9], [8, 10]] [66, 67, 68, 69, 70, 71, 72, 73, 74, 75, 76, 77] [.pointer (some ⟨b2, 0 + 0, none⟩), q.2, uP, .int .i64 (n : Int), elP uP (((n : Int)).toNat * 1), .int .i64 (P.getD n 0), elP q.2 ((P.getD n 0).toNat * 3), elP q.2 ((P.getD n 0).toNat * 3 + 1), .int .i64 ((S.getD ((P.getD n 0).toNat) sg0).w), .pointer (some ⟨b8, 0 + 1, none⟩), .int .i64 wd, .bool true] (by kernel_rfl) rfl ?_ ?_
     ·
      exact ⟨iaQ rfl (fdQ 0 rfl rfl rfl) rfl, iaQ rfl (zac rfl rfl rfl (zaa 4 rfl rfl)) rfl, iaQ rfl (zau rfl) rfl, iaQ rfl (zau rfl) rfl, iaQ rfl (riQ 1 rfl rfl rfl rfl (fun w hm => hP w (hm.sub (.cons _ (.cons _ (.cons _ (.cons _ (.cons _ (.cons _ (.cons _ (.cons _ (.cons _ (.cons _ (.refl _)))))))))))))) rfl, iaQ rfl (liQ rfl rfl rfl (fun w hm => hP w (hm.sub (.cons _ (.cons _ (.cons _ (.cons _ (.cons _ (.cons _ (.cons _ (.cons _ (.cons _ (.cons _ (.refl _)))))))))))))) rfl, iaQ rfl (riQ 3 rfl rfl rfl rfl (zaj 6 rfl)) rfl, iaQ rfl (zaq (k0 := 1) rfl rfl rfl (zaj 6 rfl) (by omega)) rfl, iaQ rfl (zan (u := .int .i64 ((S.getD ((P.getD n 0).toNat) sg0).w)) rfl rfl rfl (zaj 6 rfl) ((zbd sgC 3 (fun _ => rfl) S sg0 (show (P.getD n 0).toNat < _ by omega) (by decide)).trans rfl)) rfl, iaQ rfl (fdQ 1 rfl rfl rfl) rfl, iaQ rfl (zac rfl rfl rfl (zaa 0 rfl rfl)) rfl, .inl ⟨rfl, zdl (zcf rfl rfl rfl rfl) hb20⟩, trivial⟩
     simp only [List.drop_succ_cons, List.drop_zero]
     refine ntQ (zah rfl (srQ (hvQ rfl (zax (cs := [q.2, av, .slice none 0 0, mv]) rfl rfl rfl rfl rfl (zat 4 rfl 0 rfl)) ?_)))
     refine zct (i := 8) rfl (fun ho21 => ?_)
     refine zct (i := 7) rfl (fun ho22 => ?_)
     refine zct (i := 6) rfl (fun ho23 => ?_)
     refine zbh (cs' := #[q.2, av, .slice none 0 0, mv]) (i := 3) (off := 0) (us := [q.2, av, .slice none 0 0, mv]) rfl rfl rfl rfl rfl rfl rfl (zab ho23 (zab ho22 (zab rfl (zab ho21 zbc)))) rfl rfl rfl (zay 1 rfl ?_)
     refine zao (zdv ?_)
     refine zad (zdv ?_)
     refine zad (zae ?_)
     refine zft (p := q.2.oneCell' = true ∧ av.oneCell' = true ∧ mv.oneCell' = true) (fun w hm => ⟨(zaj 6 rfl w hm).one, (zaj 7 rfl w hm).one, (zaj 8 rfl w hm).one⟩) (fun ho9 => ?_)
     refine zco (bigE [] :: boxE b8 #[.int .i64 ((((D.getD k md0).ss).getD i sg0).k), .int .i64 wd, .int .i64 ((((D.getD k md0).ss).getD i sg0).i)] 38 :: rowE 3 1 q.1 ids.length (ids.map (Value.int .i64)) :: boxE b4 #[(D.getD k md0).sv, (D.getD k md0).av, (D.getD k md0).iv, (D.getD k md0).mv] 35 :: boxE b3 #[q.2, av, .slice none 0 0, mv] 35 :: boxE b2 #[q.2, av, .slice none 0 0, mv] 35 :: boxE b1 #[v] 26 :: rowE 38 3 q.2 S.length (S.flatMap sgC) :: rowE 89 2 av gs.length (gs.flatMap asC) :: rowE 94 4 mv F.ms.length (F.ms.flatMap mmC) :: bigE ps :: l) zdj ?_
     exact zcx (rs := [.cell 12 35, .tmp 13]) (vs := [.agg #[q.2, av, .slice none 0 0, mv], .bool false]) rfl ⟨⟨b3, 0, [q.2, av, .slice none 0 0, mv], rfl, rfl, by kernel_rfl, by kernel_rfl, zat 4 rfl 0 rfl⟩, rfl, trivial⟩ rfl (fun w hm => ⟨_, bigE [], rfl, ⟨_, _, _, false, _, rfl, rfl, ho9, (fun h => by cases h), fun _ => by first | exact zer (zfn hs (by assumption) hpt (by omega)) (by omega) | exact zfc hsF (fun h9 => by have h8 := hoi.1 h9; omega) | exact (zfb hsF hokF).trans (zep (i := ux + 1) (by rw [zeh hH, hk2, ← hzp, ← hpp]; exact hnoNone (by assumption)) _ (by omega))⟩, hm.sub (.cons_cons _ (.cons _ (.cons _ (.cons _ (.cons _ (.cons _ (.cons _ (.cons _ (.cons _ (.cons _ (.cons _ (.refl _))))))))))))⟩)
    have hb20p : (S.getD ((P.getD n 0).toNat) sg0).w = wd := (bne_eq_false_iff_eq.1 hb20)
    refine zbz 12 [[], [0], [], [], [2, 3], [4], [1, 5], [6], [7], [], [9], [8, 10]] [66, 67, 68, 69, 70, 71, 72, 73, 74, 75, 76, 77] [.pointer (some ⟨b2, 0 + 0, none⟩), q.2, uP, .int .i64 (n : Int), elP uP (((n : Int)).toNat * 1), .int .i64 (P.getD n 0), elP q.2 ((P.getD n 0).toNat * 3), elP q.2 ((P.getD n 0).toNat * 3 + 1), .int .i64 ((S.getD ((P.getD n 0).toNat) sg0).w), .pointer (some ⟨b8, 0 + 1, none⟩), .int .i64 wd, .bool false] (by kernel_rfl) rfl ?_ ?_
    ·
     exact ⟨iaQ rfl (fdQ 0 rfl rfl rfl) rfl, iaQ rfl (zac rfl rfl rfl (zaa 4 rfl rfl)) rfl, iaQ rfl (zau rfl) rfl, iaQ rfl (zau rfl) rfl, iaQ rfl (riQ 1 rfl rfl rfl rfl (fun w hm => hP w (hm.sub (.cons _ (.cons _ (.cons _ (.cons _ (.cons _ (.cons _ (.cons _ (.cons _ (.cons _ (.cons _ (.refl _)))))))))))))) rfl, iaQ rfl (liQ rfl rfl rfl (fun w hm => hP w (hm.sub (.cons _ (.cons _ (.cons _ (.cons _ (.cons _ (.cons _ (.cons _ (.cons _ (.cons _ (.cons _ (.refl _)))))))))))))) rfl, iaQ rfl (riQ 3 rfl rfl rfl rfl (zaj 6 rfl)) rfl, iaQ rfl (zaq (k0 := 1) rfl rfl rfl (zaj 6 rfl) (by omega)) rfl, iaQ rfl (zan (u := .int .i64 ((S.getD ((P.getD n 0).toNat) sg0).w)) rfl rfl rfl (zaj 6 rfl) ((zbd sgC 3 (fun _ => rfl) S sg0 (show (P.getD n 0).toNat < _ by omega) (by decide)).trans rfl)) rfl, iaQ rfl (fdQ 1 rfl rfl rfl) rfl, iaQ rfl (zac rfl rfl rfl (zaa 0 rfl rfl)) rfl, .inl ⟨rfl, zdl (zcf rfl rfl rfl rfl) hb20⟩, trivial⟩
    simp only [List.drop_succ_cons, List.drop_zero]
    refine ntQ (zap rfl (zcv (zag (reQ 3 rfl ?_))))
    refine hvQ rfl (riQ 1 rfl rfl rfl rfl (fun w hm => hP w (hm.sub (.cons _ (.cons _ (.cons _ (.cons _ (.cons _ (.cons _ (.cons _ (.cons _ (.cons _ (.cons _ (.refl _)))))))))))))) (hvQ rfl (liQ rfl rfl rfl (fun w hm => hP w (hm.sub (.cons _ (.cons _ (.cons _ (.cons _ (.cons _ (.cons _ (.cons _ (.cons _ (.cons _ (.cons _ (.refl _)))))))))))))) ?_)
    refine zea rfl (zak (z := .int .i64 0) (s := 1) (cs := ([P.getD n 0].map (Value.int .i64))) rfl Try.underlying48 rfl (by decide) rfl (by kernel_rfl) rfl) ?_
    intro g24
    refine zcs (i := 2) (z := .int .i64 0) (bytes := 8) rfl rfl rfl rfl Try.underlying48 (by kernel_rfl) rfl rfl rfl rfl (zaj 0 rfl) (zbx _) (by first | omega | (simp; done) | (simp; omega)) (zcc ids ([P.getD n 0])) (zcw ids ([P.getD n 0])) (fun _ => rfl) ?_
    intro v25
    refine zay 1 rfl (zag (reQ 1 rfl (hvQ rfl (vaQ rfl rfl rfl) (zay 1 rfl ?_))))
    refine zbj (zfp ?_)
    refine zal (zba (reQ 1 rfl (hvQ rfl (vaQ rfl rfl rfl) (enQ 1 rfl ?_))))
    exact zen (i + 1) (n + 1) (ids ++ ([P.getD n 0])) S (v25, q.2) ⟨by omega, sgF_port hs (by assumption) hpt (by omega)⟩ (by omega) (zar [17, 16, 15, 14, 13, 12, 11, 6, 5, 4, 3, 2, 1, 0] rfl) (.cons _ (.cons _ (.refl _)))
   refine zay 2 rfl (zap rfl (zcv (zag (reQ 1 rfl (hvQ rfl (fdQ 0 rfl rfl rfl) (hvQ rfl (zac rfl rfl rfl (zaa 4 rfl rfl)) (hvQ rfl (lnQ rfl rfl rfl (zaj 6 rfl)) ?_)))))))
   refine zea rfl (zak (z := .int .i64 0) (s := 1) (cs := ([(S.length : Int)].map (Value.int .i64))) rfl Try.underlying48 rfl (by decide) rfl (by kernel_rfl) rfl) ?_
   intro g26
   refine zcs (i := 2) (z := .int .i64 0) (bytes := 8) rfl rfl rfl rfl Try.underlying48 (by kernel_rfl) rfl rfl rfl rfl (zaj 0 rfl) (zbx _) (by first | omega | (simp; done) | (simp; omega)) (zcc ids ([(S.length : Int)])) (zcw ids ([(S.length : Int)])) (fun _ => rfl) ?_
   intro v27
   refine zay 1 rfl (zas (hvQ rfl (fdQ 0 rfl rfl rfl) (hvQ rfl (zac rfl rfl rfl (zaa 5 rfl rfl)) (hvQ rfl (zax (cs := [.int .i64 ((((D.getD k md0).ss).getD i sg0).k), .int .i64 wd, .int .i64 ((((D.getD k md0).ss).getD i sg0).i)]) rfl rfl rfl rfl rfl (zat 1 rfl 0 rfl)) ?_))))
   refine zea rfl (zak (z := .agg #[.int .i64 0, .int .i64 0, .int .i64 0]) (s := 3) (cs := ([(((D.getD k md0).ss).getD i sg0).k, wd, (((D.getD k md0).ss).getD i sg0).i].map (Value.int .i64))) rfl Try.underlying30 rfl (by decide) rfl (by kernel_rfl) rfl) ?_
   intro g28
   refine zcs (i := 8) (z := .agg #[.int .i64 0, .int .i64 0, .int .i64 0]) (bytes := 24) rfl rfl rfl rfl Try.underlying30 (by kernel_rfl) rfl rfl rfl rfl (zaj 0 rfl) (zbx _) (by first | omega | (simp only [List.length_append, List.length_cons, List.length_nil]; omega)) (zcc S [(Sg.mk ((((D.getD k md0).ss).getD i sg0).k) wd ((((D.getD k md0).ss).getD i sg0).i))]) (zcz sgC S (Sg.mk ((((D.getD k md0).ss).getD i sg0).k) wd ((((D.getD k md0).ss).getD i sg0).i)) _ rfl) (fun _ => rfl) ?_
   intro v29
   refine hvQ rfl (fdQ 0 rfl rfl rfl) (zct (i := 8) rfl (fun ho30 => ?_))
   refine zdo (i := 6) (cs' := #[v29, av, .slice none 0 0, mv]) rfl rfl rfl rfl rfl rfl ho30 rfl rfl rfl rfl (zcu (zdh (reQ 1 rfl (hvQ rfl (vaQ rfl rfl rfl) (enQ 1 rfl ?_)))))
   exact zen (i + 1) n (ids ++ ([(S.length : Int)])) (S ++ [(Sg.mk ((((D.getD k md0).ss).getD i sg0).k) wd ((((D.getD k md0).ss).getD i sg0).i))]) (v27, v29) ⟨by omega, by rw [hwd]; exact sgF_new hs (fun h9 => by first | exact absurd (h9.1.symm.trans (by assumption)) (by decide) | (have h8 := zew.1 h9.2; omega))⟩ (by omega) (zar [17, 16, 15, 14, 13, 12, 11, 6, 5, 4, 3, 2, 1, 0] rfl) (.cons _ (.cons _ (.cons _ (.refl _))))
  refine zay 10 rfl (fsQ rfl ?_)
  refine zba (zag (reQ 1 rfl (hvQ rfl (fdQ 0 rfl rfl rfl) (hvQ rfl (zac rfl rfl rfl (zaa 4 rfl rfl)) (hvQ rfl (lnQ rfl rfl rfl (zaj 6 rfl)) ?_)))))
  refine zea rfl (zak (z := .int .i64 0) (s := 1) (cs := ([(S.length : Int)].map (Value.int .i64))) rfl Try.underlying48 rfl (by decide) rfl (by kernel_rfl) rfl) ?_
  intro g31
  refine zcs (i := 2) (z := .int .i64 0) (bytes := 8) rfl rfl rfl rfl Try.underlying48 (by kernel_rfl) rfl rfl rfl rfl (zaj 0 rfl) (zbx _) (by first | omega | (simp; done) | (simp; omega)) (zcc ids ([(S.length : Int)])) (zcw ids ([(S.length : Int)])) (fun _ => rfl) ?_
  intro v32
  refine zay 1 rfl (zas (hvQ rfl (fdQ 0 rfl rfl rfl) (hvQ rfl (zac rfl rfl rfl (zaa 5 rfl rfl)) (hvQ rfl (zax (cs := [.int .i64 ((((D.getD k md0).ss).getD i sg0).k), .int .i64 wd, .int .i64 ((((D.getD k md0).ss).getD i sg0).i)]) rfl rfl rfl rfl rfl (zat 1 rfl 0 rfl)) ?_))))
  refine zea rfl (zak (z := .agg #[.int .i64 0, .int .i64 0, .int .i64 0]) (s := 3) (cs := ([(((D.getD k md0).ss).getD i sg0).k, wd, (((D.getD k md0).ss).getD i sg0).i].map (Value.int .i64))) rfl Try.underlying30 rfl (by decide) rfl (by kernel_rfl) rfl) ?_
  intro g33
  refine zcs (i := 8) (z := .agg #[.int .i64 0, .int .i64 0, .int .i64 0]) (bytes := 24) rfl rfl rfl rfl Try.underlying30 (by kernel_rfl) rfl rfl rfl rfl (zaj 0 rfl) (zbx _) (by first | omega | (simp only [List.length_append, List.length_cons, List.length_nil]; omega)) (zcc S [(Sg.mk ((((D.getD k md0).ss).getD i sg0).k) wd ((((D.getD k md0).ss).getD i sg0).i))]) (zcz sgC S (Sg.mk ((((D.getD k md0).ss).getD i sg0).k) wd ((((D.getD k md0).ss).getD i sg0).i)) _ rfl) (fun _ => rfl) ?_
  intro v34
  refine hvQ rfl (fdQ 0 rfl rfl rfl) (zct (i := 8) rfl (fun ho35 => ?_))
  refine zdo (i := 6) (cs' := #[v34, av, .slice none 0 0, mv]) rfl rfl rfl rfl rfl rfl ho35 rfl rfl rfl rfl (zcu (zdh (reQ 1 rfl (hvQ rfl (vaQ rfl rfl rfl) (enQ 1 rfl ?_)))))
  exact zen (i + 1) n (ids ++ ([(S.length : Int)])) (S ++ [(Sg.mk ((((D.getD k md0).ss).getD i sg0).k) wd ((((D.getD k md0).ss).getD i sg0).i))]) (v32, v34) ⟨by omega, by rw [hwd]; exact sgF_new hs (fun h9 => by first | exact absurd (h9.1.symm.trans (by assumption)) (by decide) | (have h8 := zew.1 h9.2; omega))⟩ (by omega) (zar [17, 16, 15, 14, 13, 12, 11, 6, 5, 4, 3, 2, 1, 0] rfl) (.cons _ (.cons _ (.cons _ (.refl _))))
 refine ntQ (zap rfl ?_)
 refine zbj (zeb ?_)
 refine zal (zba (zag (zbg 1 rfl (zaz ?_))))
 have hsF : sgF (D.getD k md0) p c P F.ss (D.getD k md0).ss.length = some (ids, n, S) := by rw [show (D.getD k md0).ss.length = i by omega]; exact hs
 refine lkQ4 (α := Nat) (β := List As) (γ := Value) (δ := List HP) [0, 1, 2, 3, 4, 5, 6, 11, 12, 13, 14, 15, 16, 17, 42] rfl (fun ax G av2 ps2 => (rowE 3 1 q.1 ids.length (ids.map (Value.int .i64)) :: boxE b4 #[(D.getD k md0).sv, (D.getD k md0).av, (D.getD k md0).iv, (D.getD k md0).mv] 35 :: boxE b3 #[.slice none 0 0, .slice none 0 0, .slice none 0 0, .slice none 0 0] 35 :: boxE b2 #[q.2, av2, .slice none 0 0, mv] 35 :: boxE b1 #[v] 26 :: rowE 38 3 q.2 S.length (S.flatMap sgC) :: rowE 89 2 av2 G.length (G.flatMap asC) :: rowE 94 4 mv F.ms.length (F.ms.flatMap mmC) :: bigE ps2 :: l)) (fun ax G av2 ps2 => [(19, .int .i64 (ax : Int))]) (fun ax G av2 ps2 => ax ≤ (D.getD k md0).gs.length ∧ G.map asV = F.gs ++ ((D.getD k md0).gs.take ax).map (asF ids p) ∧ ∀ w, (bigE ps2).holds w → OpsR w G) (fun ax G av2 ps2 => (D.getD k md0).gs.length - ax) 0 gs av ps ⟨Nat.zero_le _, by simp [hgs], hps⟩ (saQ rfl) (.refl _) ?_
 intro ax G av2 ps2 hi36
 obtain ⟨ha, hG, hpq⟩ := hi36
 have hGl : G.length = F.gs.length + ax := by have h9 := congrArg List.length hG; rw [List.length_map, List.length_append, List.length_map, List.length_take] at h9; omega
 refine zag (zag (reQ 1 rfl (hvQ rfl (fdQ 1 rfl rfl rfl) (hvQ rfl (zac rfl rfl rfl (zaa 1 rfl rfl)) ?_))))
 refine hvQ rfl (lnQ rfl rfl rfl (fun w hm => (((hd w (hm.sub (.cons _ (.cons _ (.cons _ (.cons _ (.cons _ (.cons _ (.cons _ (.cons _ (.cons _ (.refl _)))))))))))).at (k := k) hkl).g))) (zbq rfl rfl rfl rfl rfl rfl (fun h37 => ?_) (fun h37 => ?_))
 ·
  refine ntQ (zah rfl (zcv (sbQ (srQ ?_))))
  obtain ⟨⟨hgt, -⟩, hgo9⟩ := (show (_ ∧ _) ∧ OpsP (D.getD k md0).ss.length ((D.getD k md0).gs.getD ax as0).os from ⟨(hmod.gs ax (by omega)).tgt, (hmod.gs ax (by omega)).2⟩)
  refine zam 1 rfl (hvQ rfl (fdQ 1 rfl rfl rfl) (hvQ rfl (zac rfl rfl rfl (zaa 1 rfl rfl)) (zam 1 rfl ?_)))
  refine hvQ rfl (riQ 2 rfl rfl rfl rfl (fun w hm => (((hd w (hm.sub (.cons _ (.cons _ (.cons _ (.cons _ (.cons _ (.cons _ (.cons _ (.cons _ (.cons _ (.refl _)))))))))))).at (k := k) hkl).g))) (hvQ rfl (zaq (k0 := 0) rfl rfl rfl (fun w hm => (((hd w (hm.sub (.cons _ (.cons _ (.cons _ (.cons _ (.cons _ (.cons _ (.cons _ (.cons _ (.cons _ (.refl _)))))))))))).at (k := k) hkl).g)) (by omega)) ?_)
  refine hvQ rfl (zan (u := .int .i64 ((((D.getD k md0).gs).getD ax as0).t)) rfl rfl rfl (fun w hm => (((hd w (hm.sub (.cons _ (.cons _ (.cons _ (.cons _ (.cons _ (.cons _ (.cons _ (.cons _ (.cons _ (.refl _)))))))))))).at (k := k) hkl).g)) ((zbd asC 2 (fun _ => rfl) ((D.getD k md0).gs) as0 (show ax < _ by omega) (by decide)).trans rfl)) (hvQ rfl (riQ 1 rfl rfl rfl rfl (zaj 0 rfl)) (hvQ rfl (lzQ rfl rfl rfl (zaj 0 rfl)) (hvQ rfl (zbk (cs := #[.int .i64 (ids.getD (((((D.getD k md0).gs).getD ax as0).t).toNat) 0), .slice none 0 0]) rfl rfl rfl) ?_)))
  refine zdn rfl (zbl (z := .agg #[.int .i64 0, .slice none 0 0]) rfl rfl) ?_
  intro b38
  refine zbh (cs' := #[.int .i64 (ids.getD (((((D.getD k md0).gs).getD ax as0).t).toNat) 0), .slice none 0 0]) (i := 0) (off := 0) (us := [.int .i64 (ids.getD (((((D.getD k md0).gs).getD ax as0).t).toNat) 0), .slice none 0 0]) rfl rfl rfl rfl rfl rfl rfl (zab rfl (zab rfl zbc)) rfl rfl rfl (ntQ (zag (zbg 1 rfl (zaz ?_))))
  refine zfe (rowE 97 3 (.slice none 0 0) (([] : List Oq).length) (([] : List Oq).flatMap oqC) :: boxE b38 #[.int .i64 (ids.getD (((((D.getD k md0).gs).getD ax as0).t).toNat) 0), .slice none 0 0] 89 :: rowE 3 1 q.1 ids.length (ids.map (Value.int .i64)) :: boxE b4 #[(D.getD k md0).sv, (D.getD k md0).av, (D.getD k md0).iv, (D.getD k md0).mv] 35 :: boxE b3 #[.slice none 0 0, .slice none 0 0, .slice none 0 0, .slice none 0 0] 35 :: boxE b2 #[q.2, av2, .slice none 0 0, mv] 35 :: boxE b1 #[v] 26 :: rowE 38 3 q.2 S.length (S.flatMap sgC) :: rowE 89 2 av2 G.length (G.flatMap asC) :: rowE 94 4 mv F.ms.length (F.ms.flatMap mmC) :: bigE ps2 :: l) (fun w hm => hm.nilRow 97 3) ?_
  refine lkQ3 (α := Nat) (β := List Oq) (γ := Value) [0, 1, 2, 3, 4, 5, 6, 11, 12, 13, 14, 15, 16, 17, 19, 20, 42, 104] rfl (fun bq os ov => (rowE 97 3 ov os.length (os.flatMap oqC) :: boxE b38 #[.int .i64 (ids.getD (((((D.getD k md0).gs).getD ax as0).t).toNat) 0), ov] 89 :: rowE 3 1 q.1 ids.length (ids.map (Value.int .i64)) :: boxE b4 #[(D.getD k md0).sv, (D.getD k md0).av, (D.getD k md0).iv, (D.getD k md0).mv] 35 :: boxE b3 #[.slice none 0 0, .slice none 0 0, .slice none 0 0, .slice none 0 0] 35 :: boxE b2 #[q.2, av2, .slice none 0 0, mv] 35 :: boxE b1 #[v] 26 :: rowE 38 3 q.2 S.length (S.flatMap sgC) :: rowE 89 2 av2 G.length (G.flatMap asC) :: rowE 94 4 mv F.ms.length (F.ms.flatMap mmC) :: bigE ps2 :: l)) (fun bq os ov => [(21, .int .i64 (bq : Int))]) (fun bq os ov => bq ≤ ((D.getD k md0).gs.getD ax as0).os.length ∧ os = (((D.getD k md0).gs.getD ax as0).os.take bq).map (opF ids p)) (fun bq os ov => ((D.getD k md0).gs.getD ax as0).os.length - bq) 0 [] _ ⟨Nat.zero_le _, rfl⟩ (saQ rfl) (.refl _) ?_
  intro bq os ov hi39
  obtain ⟨hb, hos⟩ := hi39
  have hol : os.length = bq := by rw [hos, List.length_map, List.length_take]; omega
  have hgl15 := hgo9.len
  refine zag (zag (reQ 1 rfl (hvQ rfl (fdQ 1 rfl rfl rfl) (hvQ rfl (zac rfl rfl rfl (zaa 3 rfl rfl)) (zam 1 rfl ?_)))))
  refine hvQ rfl (riQ 2 rfl rfl rfl rfl (fun w hm => (((hd w (hm.sub (.cons _ (.cons _ (.cons _ (.cons _ (.cons _ (.cons _ (.cons _ (.cons _ (.cons _ (.cons _ (.cons _ (.refl _)))))))))))))).at (k := k) hkl).g))) (hvQ rfl (zaq (k0 := 1) rfl rfl rfl (fun w hm => (((hd w (hm.sub (.cons _ (.cons _ (.cons _ (.cons _ (.cons _ (.cons _ (.cons _ (.cons _ (.cons _ (.cons _ (.cons _ (.refl _)))))))))))))).at (k := k) hkl).g)) (by omega)) ?_)
  refine hvQ rfl (zan (u := (((D.getD k md0).gs).getD ax as0).ov) rfl rfl rfl (fun w hm => (((hd w (hm.sub (.cons _ (.cons _ (.cons _ (.cons _ (.cons _ (.cons _ (.cons _ (.cons _ (.cons _ (.cons _ (.cons _ (.refl _)))))))))))))).at (k := k) hkl).g)) ((zbd asC 2 (fun _ => rfl) ((D.getD k md0).gs) as0 (show ax < _ by omega) (by decide)).trans rfl)) (hvQ rfl (lnQ rfl rfl rfl (fun w hm => (((hd w (hm.sub (.cons _ (.cons _ (.cons _ (.cons _ (.cons _ (.cons _ (.cons _ (.cons _ (.cons _ (.cons _ (.cons _ (.refl _)))))))))))))).at (k := k) hkl).o.at (k := ax) (by omega)))) ?_)
  refine zbq rfl rfl rfl rfl rfl rfl (fun h40 => ?_) (fun h40 => ?_)
  ·
   refine ntQ (zah rfl (zcv (sbQ (srQ (hvQ rfl (fdQ 1 rfl rfl rfl) (hvQ rfl (zac rfl rfl rfl (zaa 3 rfl rfl)) (zam 1 rfl ?_)))))))
   refine hvQ rfl (riQ 2 rfl rfl rfl rfl (fun w hm => (((hd w (hm.sub (.cons _ (.cons _ (.cons _ (.cons _ (.cons _ (.cons _ (.cons _ (.cons _ (.cons _ (.cons _ (.cons _ (.refl _)))))))))))))).at (k := k) hkl).g))) (hvQ rfl (zaq (k0 := 1) rfl rfl rfl (fun w hm => (((hd w (hm.sub (.cons _ (.cons _ (.cons _ (.cons _ (.cons _ (.cons _ (.cons _ (.cons _ (.cons _ (.cons _ (.cons _ (.refl _)))))))))))))).at (k := k) hkl).g)) (by omega)) ?_)
   refine hvQ rfl (zan (u := (((D.getD k md0).gs).getD ax as0).ov) rfl rfl rfl (fun w hm => (((hd w (hm.sub (.cons _ (.cons _ (.cons _ (.cons _ (.cons _ (.cons _ (.cons _ (.cons _ (.cons _ (.cons _ (.cons _ (.refl _)))))))))))))).at (k := k) hkl).g)) ((zbd asC 2 (fun _ => rfl) ((D.getD k md0).gs) as0 (show ax < _ by omega) (by decide)).trans rfl)) (zam 1 rfl ?_)
   refine hvQ rfl (riQ 3 rfl rfl rfl rfl (fun w hm => (((hd w (hm.sub (.cons _ (.cons _ (.cons _ (.cons _ (.cons _ (.cons _ (.cons _ (.cons _ (.cons _ (.cons _ (.cons _ (.refl _)))))))))))))).at (k := k) hkl).o.at (k := ax) (by omega)))) (hvQ rfl (zbb (us := [.int .i64 ((((((D.getD k md0).gs).getD ax as0).os).getD bq oq0).k), .int .i64 ((((((D.getD k md0).gs).getD ax as0).os).getD bq oq0).a), .int .i64 ((((((D.getD k md0).gs).getD ax as0).os).getD bq oq0).b)]) rfl rfl rfl rfl (fun w hm => (((hd w (hm.sub (.cons _ (.cons _ (.cons _ (.cons _ (.cons _ (.cons _ (.cons _ (.cons _ (.cons _ (.cons _ (.cons _ (.refl _)))))))))))))).at (k := k) hkl).o.at (k := ax) (by omega))) (by omega) rfl (zbr oqC 3 (fun _ => rfl) ((((D.getD k md0).gs).getD ax as0).os) oq0 (show bq < _ by omega) rfl)) ?_)
   refine zdn rfl (zbl (z := .agg #[.int .i64 0, .int .i64 0, .int .i64 0]) rfl rfl) ?_
   intro b41
   refine zbh (cs' := #[.int .i64 ((((((D.getD k md0).gs).getD ax as0).os).getD bq oq0).k), .int .i64 ((((((D.getD k md0).gs).getD ax as0).os).getD bq oq0).a), .int .i64 ((((((D.getD k md0).gs).getD ax as0).os).getD bq oq0).b)]) (i := 0) (off := 0) (us := [.int .i64 ((((((D.getD k md0).gs).getD ax as0).os).getD bq oq0).k), .int .i64 ((((((D.getD k md0).gs).getD ax as0).os).getD bq oq0).a), .int .i64 ((((((D.getD k md0).gs).getD ax as0).os).getD bq oq0).b)]) rfl rfl rfl rfl rfl rfl rfl (zab rfl (zab rfl (zab rfl zbc))) rfl rfl rfl (ntQ ?_)
   refine zfg (α := Oq) (fun oo => (boxE b41 #[.int .i64 oo.k, .int .i64 oo.a, .int .i64 oo.b] 97 :: rowE 97 3 ov os.length (os.flatMap oqC) :: boxE b38 #[.int .i64 (ids.getD (((((D.getD k md0).gs).getD ax as0).t).toNat) 0), ov] 89 :: rowE 3 1 q.1 ids.length (ids.map (Value.int .i64)) :: boxE b4 #[(D.getD k md0).sv, (D.getD k md0).av, (D.getD k md0).iv, (D.getD k md0).mv] 35 :: boxE b3 #[.slice none 0 0, .slice none 0 0, .slice none 0 0, .slice none 0 0] 35 :: boxE b2 #[q.2, av2, .slice none 0 0, mv] 35 :: boxE b1 #[v] 26 :: rowE 38 3 q.2 S.length (S.flatMap sgC) :: rowE 89 2 av2 G.length (G.flatMap asC) :: rowE 94 4 mv F.ms.length (F.ms.flatMap mmC) :: bigE ps2 :: l)) (fun oo => [(0, .agg #[v]), (1, .int .i64 (k : Int)), (2, .int .i64 p), (3, .bool c), (4, uP), (5, .agg #[sv, av, .slice none 0 0, mv]), (6, .pointer (some ⟨b1, 0, none⟩)), (11, .pointer (some ⟨b2, 0, none⟩)), (12, .pointer (some ⟨b3, 0, none⟩)), (13, .bool false), (14, .pointer (some ⟨b4, 0, none⟩)), (15, q.1), (16, .int .i64 (n : Int)), (17, .int .i64 (i : Int)), (19, .int .i64 (ax : Int)), (20, .pointer (some ⟨b38, 0, none⟩)), (21, .int .i64 (bq : Int)), (22, .pointer (some ⟨b41, 0, none⟩)), (42, .bool false), (104, .bool true), (125, .bool true)]) (fun oo => oo = opF ids p (((D.getD k md0).gs.getD ax as0).os.getD bq oq0)) ?_ ?_
   ·
    refine srQ (hvQ rfl (fdQ 0 rfl rfl rfl) (hvQ rfl (zac rfl rfl rfl (zaa 0 rfl rfl)) (ntQ (zaz (srQ ?_)))))
    refine zbu rfl rfl rfl rfl rfl rfl (fun h42 => ?_) (fun h42 => ?_)
    ·
     refine zay 1 rfl (zah rfl (reQ 1 rfl (hvQ rfl (zbk (cs := #[.int .i64 0, .int .i64 p, .int .i64 0]) rfl rfl rfl) ?_)))
     refine zbh (cs' := #[.int .i64 0, .int .i64 p, .int .i64 0]) (i := 0) (off := 0) (us := [.int .i64 0, .int .i64 p, .int .i64 0]) rfl rfl rfl rfl rfl rfl rfl (zab rfl (zab rfl (zab rfl zbc))) rfl rfl rfl (zcu (zcr ?_))
     exact zde (Oq.mk 0 p 0) (by unfold opF; (repeat' split) <;> first | rfl | (exfalso; omega)) (saQ rfl) (.refl _)
    refine zay 1 rfl (zap rfl (zfi ?_))
    refine zbu rfl rfl rfl rfl rfl rfl (fun h43 => ?_) (fun h43 => ?_)
    ·
     refine zay 1 rfl (zah rfl (zcv (zah rfl (zas ?_))))
     have hra := rds_rng hgo9 (show bq < ((D.getD k md0).gs.getD ax as0).os.length by omega) (by omega)
     refine zam 1 rfl (hvQ rfl (fdQ 1 rfl rfl rfl) (hvQ rfl (zac rfl rfl rfl (zaa 0 rfl rfl)) (hvQ rfl (riQ 1 rfl rfl rfl rfl (zaj 3 rfl)) (hvQ rfl (lzQ rfl rfl rfl (zaj 3 rfl)) (hvQ rfl (fdQ 1 rfl rfl rfl) ?_)))))
     refine zdo (i := 0) (cs' := #[.int .i64 ((((((D.getD k md0).gs).getD ax as0).os).getD bq oq0).k), .int .i64 (ids.getD (((((((D.getD k md0).gs).getD ax as0).os).getD bq oq0).a).toNat) 0), .int .i64 ((((((D.getD k md0).gs).getD ax as0).os).getD bq oq0).b)]) rfl rfl rfl rfl rfl rfl rfl rfl rfl rfl rfl (zcu (zcr ?_))
     exact zde (Oq.mk ((((((D.getD k md0).gs).getD ax as0).os).getD bq oq0).k) (ids.getD (((((((D.getD k md0).gs).getD ax as0).os).getD bq oq0).a).toNat) 0) ((((((D.getD k md0).gs).getD ax as0).os).getD bq oq0).b)) (by unfold opF; (repeat' split) <;> first | rfl | (exfalso; omega)) (saQ rfl) (.refl _)
    refine zay 1 rfl (zap rfl (zas ?_))
    refine zbu rfl rfl rfl rfl rfl rfl (fun h44 => ?_) (fun h44 => ?_)
    ·
     refine zay 1 rfl (zah rfl (zas ?_))
     have hra := rds_rng hgo9 (show bq < ((D.getD k md0).gs.getD ax as0).os.length by omega) (by omega)
     refine zam 1 rfl (hvQ rfl (fdQ 1 rfl rfl rfl) (hvQ rfl (zac rfl rfl rfl (zaa 0 rfl rfl)) (hvQ rfl (riQ 1 rfl rfl rfl rfl (zaj 3 rfl)) (hvQ rfl (lzQ rfl rfl rfl (zaj 3 rfl)) (hvQ rfl (fdQ 1 rfl rfl rfl) ?_)))))
     refine zdo (i := 0) (cs' := #[.int .i64 ((((((D.getD k md0).gs).getD ax as0).os).getD bq oq0).k), .int .i64 (ids.getD (((((((D.getD k md0).gs).getD ax as0).os).getD bq oq0).a).toNat) 0), .int .i64 ((((((D.getD k md0).gs).getD ax as0).os).getD bq oq0).b)]) rfl rfl rfl rfl rfl rfl rfl rfl rfl rfl rfl (zcu (zcr ?_))
     exact zde (Oq.mk ((((((D.getD k md0).gs).getD ax as0).os).getD bq oq0).k) (ids.getD (((((((D.getD k md0).gs).getD ax as0).os).getD bq oq0).a).toNat) 0) ((((((D.getD k md0).gs).getD ax as0).os).getD bq oq0).b)) (by unfold opF; (repeat' split) <;> first | rfl | (exfalso; omega)) (saQ rfl) (.refl _)
    refine zay 1 rfl (fsQ rfl (zcr ?_))
    exact zde (Oq.mk ((((((D.getD k md0).gs).getD ax as0).os).getD bq oq0).k) ((((((D.getD k md0).gs).getD ax as0).os).getD bq oq0).a) ((((((D.getD k md0).gs).getD ax as0).os).getD bq oq0).b)) (by unfold opF; (repeat' split) <;> first | rfl | (exfalso; omega)) (saQ rfl) (.refl _)
   intro oo hm45
   have hoo := hm45
   refine zas (hvQ rfl (fdQ 1 rfl rfl rfl) (hvQ rfl (zac rfl rfl rfl (zaa 2 rfl rfl)) (hvQ rfl (zax (cs := [.int .i64 oo.k, .int .i64 oo.a, .int .i64 oo.b]) rfl rfl rfl rfl rfl (zat 0 rfl 0 rfl)) ?_)))
   refine zea rfl (zak (z := .agg #[.int .i64 0, .int .i64 0, .int .i64 0]) (s := 3) (cs := ([oo.k, oo.a, oo.b].map (Value.int .i64))) rfl Try.underlying71 rfl (by decide) rfl (by kernel_rfl) rfl) ?_
   intro g46
   refine zcs (i := 2) (z := .agg #[.int .i64 0, .int .i64 0, .int .i64 0]) (bytes := 24) rfl rfl rfl rfl Try.underlying71 (by kernel_rfl) rfl rfl rfl rfl (zaj 0 rfl) (zbx _) (by first | omega | (simp only [List.length_append, List.length_cons, List.length_nil]; omega)) (zcc os [oo]) (zcz oqC os oo _ rfl) (fun _ => rfl) ?_
   intro v47
   refine hvQ rfl (fdQ 1 rfl rfl rfl) (zct (i := 2) rfl (fun ho48 => ?_))
   refine zdo (i := 3) (cs' := #[.int .i64 (ids.getD (((((D.getD k md0).gs).getD ax as0).t).toNat) 0), v47]) rfl rfl rfl rfl rfl rfl ho48 rfl rfl rfl rfl (zcu (zdh (reQ 1 rfl (hvQ rfl (vaQ rfl rfl rfl) (enQ 1 rfl ?_)))))
   exact zcq (bq + 1) (os ++ [oo]) v47 ⟨by omega, by rw [zec oq0 (show bq < ((D.getD k md0).gs.getD ax as0).os.length by omega), List.map_append, ← hos, hoo]; rfl⟩ (by omega) (saQ rfl) (.cons _ (.cons _ (.refl _)))
  refine ntQ (zap rfl ?_)
  refine zbj (zeb ?_)
  refine zal (zba (zas (hvQ rfl (fdQ 1 rfl rfl rfl) (hvQ rfl (zac rfl rfl rfl (zaa 5 rfl rfl)) (hvQ rfl (zax (cs := [.int .i64 (ids.getD (((((D.getD k md0).gs).getD ax as0).t).toNat) 0), ov]) rfl rfl rfl rfl rfl (zat 1 rfl 0 rfl)) ?_)))))
  refine zea rfl (zak (z := .agg #[.int .i64 0, .slice none 0 0]) (s := 2) (cs := [.int .i64 (ids.getD (((((D.getD k md0).gs).getD ax as0).t).toNat) 0), ov]) rfl Try.underlying31 rfl (by decide) rfl (by kernel_rfl) rfl) ?_
  intro g49
  refine zct (i := 1) rfl (fun ho50 => ?_)
  refine zcs (i := 9) (z := .agg #[.int .i64 0, .slice none 0 0]) (bytes := 32) rfl rfl rfl rfl Try.underlying31 (by kernel_rfl) rfl rfl rfl rfl (zaj 0 rfl) (zab rfl (zab ho50 zbc)) (by first | omega | (simp only [List.length_append, List.length_cons, List.length_nil]; omega)) (zcc G [(As.mk (ids.getD (((((D.getD k md0).gs).getD ax as0).t).toNat) 0) ov os)]) (zcz asC G (As.mk (ids.getD (((((D.getD k md0).gs).getD ax as0).t).toNat) 0) ov os) _ rfl) (fun _ => rfl) ?_
  intro v51
  refine hvQ rfl (fdQ 1 rfl rfl rfl) (zct (i := 9) rfl (fun ho52 => ?_))
  refine zdo (i := 6) (cs' := #[q.2, v51, .slice none 0 0, mv]) rfl rfl rfl rfl rfl rfl ho52 rfl rfl rfl rfl (zcu (zdh (reQ 1 rfl (hvQ rfl (vaQ rfl rfl rfl) (enQ 1 rfl ?_)))))
  refine zbn 12 [10, 9, 8, 7, 6, 5, 4, 3, 1, 11] rfl rfl (by decide) ?_
  refine zcd 2 rfl ?_
  refine zbn 9 [0, 8, 7, 6, 5, 4, 3, 2, 1] rfl rfl (by decide) ?_
  exact zdq (ax + 1) (G ++ [(As.mk (ids.getD (((((D.getD k md0).gs).getD ax as0).t).toNat) 0) ov os)]) v51 [bigE ps2, rowE 97 3 ov os.length (os.flatMap oqC)] ⟨by omega, by rw [List.map_append, hG, zec as0 (show ax < (D.getD k md0).gs.length by omega), List.map_append, ← List.append_assoc]; congr 1; show [(_, os)] = [asF ids p ((D.getD k md0).gs.getD ax as0)]; rw [hos, show bq = ((D.getD k md0).gs.getD ax as0).os.length by omega, List.take_length]; rfl, fun w hw => (hpq w (zbi hw List.mem_cons_self)).app (zdk (zbi hw (List.mem_cons_of_mem _ List.mem_cons_self)))⟩ (by omega) (saQ rfl) (.refl _)
 refine ntQ (zap rfl ?_)
 refine zbj (zeb ?_)
 refine zal (zba (zag (zbg 1 rfl (zaz ?_))))
 have hGq : G.map asV = F.gs ++ (D.getD k md0).gs.map (asF ids p) := by rw [hG, show ax = (D.getD k md0).gs.length by omega, List.take_length]
 have hGl2 : G.length = F.gs.length + (D.getD k md0).gs.length := by omega
 refine lkQ3 (α := Nat) (β := List Mm) (γ := Value) [0, 1, 2, 3, 4, 5, 6, 11, 12, 13, 14, 15, 16, 17, 19, 42, 104] rfl (fun mx ms2 mw => (rowE 3 1 q.1 ids.length (ids.map (Value.int .i64)) :: boxE b4 #[(D.getD k md0).sv, (D.getD k md0).av, (D.getD k md0).iv, (D.getD k md0).mv] 35 :: boxE b3 #[.slice none 0 0, .slice none 0 0, .slice none 0 0, .slice none 0 0] 35 :: boxE b2 #[q.2, av2, .slice none 0 0, mw] 35 :: boxE b1 #[v] 26 :: rowE 38 3 q.2 S.length (S.flatMap sgC) :: rowE 89 2 av2 G.length (G.flatMap asC) :: rowE 94 4 mw ms2.length (ms2.flatMap mmC) :: bigE ps2 :: l)) (fun mx ms2 mw => [(23, .int .i64 (mx : Int))]) (fun mx ms2 mw => mx ≤ (D.getD k md0).ms.length ∧ ms2 = F.ms ++ ((D.getD k md0).ms.take mx).map (mmF ids)) (fun mx ms2 mw => (D.getD k md0).ms.length - mx) 0 F.ms mv ⟨Nat.zero_le _, by simp⟩ (saQ rfl) (.refl _) ?_
 intro mx ms2 mw hi53
 obtain ⟨he, hM⟩ := hi53
 have hMl : ms2.length = F.ms.length + mx := by rw [hM, List.length_append, List.length_map, List.length_take]; omega
 refine zag (zag (reQ 1 rfl (hvQ rfl (fdQ 3 rfl rfl rfl) (hvQ rfl (zac rfl rfl rfl (zaa 1 rfl rfl)) ?_))))
 refine hvQ rfl (lnQ rfl rfl rfl (fun w hm => (((hd w (hm.sub (.cons _ (.cons _ (.cons _ (.cons _ (.cons _ (.cons _ (.cons _ (.cons _ (.cons _ (.refl _)))))))))))).at (k := k) hkl).m))) (zbq rfl rfl rfl rfl rfl rfl (fun h54 => ?_) (fun h54 => ?_))
 ·
  refine ntQ (zah rfl (zcv (sbQ (srQ (hvQ rfl (fdQ 3 rfl rfl rfl) (hvQ rfl (zac rfl rfl rfl (zaa 1 rfl rfl)) (zam 1 rfl ?_)))))))
  refine hvQ rfl (riQ 4 rfl rfl rfl rfl (fun w hm => (((hd w (hm.sub (.cons _ (.cons _ (.cons _ (.cons _ (.cons _ (.cons _ (.cons _ (.cons _ (.cons _ (.refl _)))))))))))).at (k := k) hkl).m))) (hvQ rfl (zbb (us := [.int .i64 ((((D.getD k md0).ms).getD mx mm0).a), .int .i64 ((((D.getD k md0).ms).getD mx mm0).d), .int .i64 ((((D.getD k md0).ms).getD mx mm0).w), .int .i64 ((((D.getD k md0).ms).getD mx mm0).o)]) rfl rfl rfl rfl (fun w hm => (((hd w (hm.sub (.cons _ (.cons _ (.cons _ (.cons _ (.cons _ (.cons _ (.cons _ (.cons _ (.cons _ (.refl _)))))))))))).at (k := k) hkl).m)) (by omega) rfl (zbr mmC 4 (fun _ => rfl) ((D.getD k md0).ms) mm0 (show mx < _ by omega) rfl)) ?_)
  refine zdn rfl (zbl (z := .agg #[.int .i64 0, .int .i64 0, .int .i64 0, .int .i64 0]) rfl rfl) ?_
  intro b55
  refine zbh (cs' := #[.int .i64 ((((D.getD k md0).ms).getD mx mm0).a), .int .i64 ((((D.getD k md0).ms).getD mx mm0).d), .int .i64 ((((D.getD k md0).ms).getD mx mm0).w), .int .i64 ((((D.getD k md0).ms).getD mx mm0).o)]) (i := 0) (off := 0) (us := [.int .i64 ((((D.getD k md0).ms).getD mx mm0).a), .int .i64 ((((D.getD k md0).ms).getD mx mm0).d), .int .i64 ((((D.getD k md0).ms).getD mx mm0).w), .int .i64 ((((D.getD k md0).ms).getD mx mm0).o)]) rfl rfl rfl rfl rfl rfl rfl (zab rfl (zab rfl (zab rfl (zab rfl zbc)))) rfl rfl rfl (ntQ ?_)
  obtain ⟨⟨hma, hmd, hmw⟩, hmo⟩ := hmod.ms mx (by omega)
  have hmo := hmo.inn
  unfold Inn at hma hmd hmw hmo
  refine hc_draw rfl 24 [0, 1, 2, 3, 4, 5, 6, 7, 8, 9, 10, 11, 12, 13, 14, 15, 16, 17, 18, 19, 20, 21, 22, 23] (List.take 24 _) (List.drop 24 _) [[], [0], [], [], [3], [2, 4], [5], [], [], [8], [7, 9], [10], [], [], [13], [12, 14], [15], [], [], [18], [17, 19], [20], [6, 11, 16, 21], [22]] [176, 177, 178, 179, 180, 181, 182, 183, 184, 185, 186, 187, 188, 189, 190, 191, 192, 193, 194, 195, 196, 197, 198, 199] (fun i_ vs_ v_ p_ => match i_ with | 0 => v_ = .pointer (some ⟨b2, 0 + 3, none⟩) ∧ p_ = [] | 1 => v_ = mw ∧ p_ = [] | 2 => v_ = q.1 ∧ p_ = [] | 3 => v_ = .pointer (some ⟨b55, 0 + 0, none⟩) ∧ p_ = [] | 4 => v_ = .int .i64 ((((D.getD k md0).ms).getD mx mm0).a) ∧ p_ = [] | 5 => v_ = elP q.1 (((((D.getD k md0).ms).getD mx mm0).a).toNat * 1) ∧ p_ = [] | 6 => v_ = .int .i64 (ids.getD (((((D.getD k md0).ms).getD mx mm0).a).toNat) 0) ∧ p_ = [] | 7 => v_ = q.1 ∧ p_ = [] | 8 => v_ = .pointer (some ⟨b55, 0 + 1, none⟩) ∧ p_ = [] | 9 => v_ = .int .i64 ((((D.getD k md0).ms).getD mx mm0).d) ∧ p_ = [] | 10 => v_ = elP q.1 (((((D.getD k md0).ms).getD mx mm0).d).toNat * 1) ∧ p_ = [] | 11 => v_ = .int .i64 (ids.getD (((((D.getD k md0).ms).getD mx mm0).d).toNat) 0) ∧ p_ = [] | 12 => v_ = q.1 ∧ p_ = [] | 13 => v_ = .pointer (some ⟨b55, 0 + 2, none⟩) ∧ p_ = [] | 14 => v_ = .int .i64 ((((D.getD k md0).ms).getD mx mm0).w) ∧ p_ = [] | 15 => v_ = elP q.1 (((((D.getD k md0).ms).getD mx mm0).w).toNat * 1) ∧ p_ = [] | 16 => v_ = .int .i64 (ids.getD (((((D.getD k md0).ms).getD mx mm0).w).toNat) 0) ∧ p_ = [] | 17 => v_ = q.1 ∧ p_ = [] | 18 => v_ = .pointer (some ⟨b55, 0 + 3, none⟩) ∧ p_ = [] | 19 => v_ = .int .i64 ((((D.getD k md0).ms).getD mx mm0).o) ∧ p_ = [] | 20 => v_ = elP q.1 (((((D.getD k md0).ms).getD mx mm0).o).toNat * 1) ∧ p_ = [] | 21 => v_ = .int .i64 (ids.getD (((((D.getD k md0).ms).getD mx mm0).o).toNat) 0) ∧ p_ = [] | 22 => v_ = .agg #[.int .i64 (ids.getD (((((D.getD k md0).ms).getD mx mm0).a).toNat) 0), .int .i64 (ids.getD (((((D.getD k md0).ms).getD mx mm0).d).toNat) 0), .int .i64 (ids.getD (((((D.getD k md0).ms).getD mx mm0).w).toNat) 0), .int .i64 (ids.getD (((((D.getD k md0).ms).getD mx mm0).o).toNat) 0)] ∧ p_ = [] | 23 => IsRow 94 4 1 ([ids.getD (((((D.getD k md0).ms).getD mx mm0).a).toNat) 0, ids.getD (((((D.getD k md0).ms).getD mx mm0).d).toNat) 0, ids.getD (((((D.getD k md0).ms).getD mx mm0).w).toNat) 0, ids.getD (((((D.getD k md0).ms).getD mx mm0).o).toNat) 0].map (Value.int .i64)) v_ p_ | _ => True) (List.take_append_drop 24 _).symm (by kernel_rfl) (by kernel_rfl) rfl rfl ?_ ?_
  ·
   refine ⟨?_, ?_, ?_, ?_, ?_, ?_, ?_, ?_, ?_, ?_, ?_, ?_, ?_, ?_, ?_, ?_, ?_, ?_, ?_, ?_, ?_, ?_, ?_, ?_, trivial⟩
   ·
    intro vf pf hR
    exact ovQ rfl (zar [11] rfl) (zbt (fdQ 3 rfl rfl rfl))
   ·
    intro vf pf hR
    have e0 := hR 0 (by decide)
    exact olQ rfl (sk 176 (congrArg some e0.1) (zai _)) (zbt (zac rfl rfl rfl (zaa 4 rfl rfl)))
   ·
    intro vf pf hR
    exact ovQ rfl (zar [15] rfl) (zbt (zau rfl))
   ·
    intro vf pf hR
    exact ovQ rfl (zar [24] rfl) (zbt (fdQ 0 rfl rfl rfl))
   ·
    intro vf pf hR
    have e3 := hR 3 (by decide)
    exact olQ rfl (sk 179 (congrArg some e3.1) (zai _)) (zbt (zac rfl rfl rfl (zaa 0 rfl rfl)))
   ·
    intro vf pf hR
    have e2 := hR 2 (by decide)
    have e4 := hR 4 (by decide)
    exact olQ rfl (sk 178 (congrArg some e2.1) (sk 180 (congrArg some e4.1) (zai _))) (zbt (riQ 1 rfl rfl rfl rfl (zaj 1 rfl)))
   ·
    intro vf pf hR
    have e5 := hR 5 (by decide)
    exact olQ rfl (sk 181 (congrArg some e5.1) (zai _)) (zbt (lzQ rfl rfl rfl (zaj 1 rfl)))
   ·
    intro vf pf hR
    exact ovQ rfl (zar [15] rfl) (zbt (zau rfl))
   ·
    intro vf pf hR
    exact ovQ rfl (zar [24] rfl) (zbt (fdQ 1 rfl rfl rfl))
   ·
    intro vf pf hR
    have e8 := hR 8 (by decide)
    exact olQ rfl (sk 184 (congrArg some e8.1) (zai _)) (zbt (zac rfl rfl rfl (zaa 0 rfl rfl)))
   ·
    intro vf pf hR
    have e7 := hR 7 (by decide)
    have e9 := hR 9 (by decide)
    exact olQ rfl (sk 183 (congrArg some e7.1) (sk 185 (congrArg some e9.1) (zai _))) (zbt (riQ 1 rfl rfl rfl rfl (zaj 1 rfl)))
   ·
    intro vf pf hR
    have e10 := hR 10 (by decide)
    exact olQ rfl (sk 186 (congrArg some e10.1) (zai _)) (zbt (lzQ rfl rfl rfl (zaj 1 rfl)))
   ·
    intro vf pf hR
    exact ovQ rfl (zar [15] rfl) (zbt (zau rfl))
   ·
    intro vf pf hR
    exact ovQ rfl (zar [24] rfl) (zbt (fdQ 2 rfl rfl rfl))
   ·
    intro vf pf hR
    have e13 := hR 13 (by decide)
    exact olQ rfl (sk 189 (congrArg some e13.1) (zai _)) (zbt (zac rfl rfl rfl (zaa 0 rfl rfl)))
   ·
    intro vf pf hR
    have e12 := hR 12 (by decide)
    have e14 := hR 14 (by decide)
    exact olQ rfl (sk 188 (congrArg some e12.1) (sk 190 (congrArg some e14.1) (zai _))) (zbt (riQ 1 rfl rfl rfl rfl (zaj 1 rfl)))
   ·
    intro vf pf hR
    have e15 := hR 15 (by decide)
    exact olQ rfl (sk 191 (congrArg some e15.1) (zai _)) (zbt (lzQ rfl rfl rfl (zaj 1 rfl)))
   ·
    intro vf pf hR
    exact ovQ rfl (zar [15] rfl) (zbt (zau rfl))
   ·
    intro vf pf hR
    exact ovQ rfl (zar [24] rfl) (zbt (fdQ 3 rfl rfl rfl))
   ·
    intro vf pf hR
    have e18 := hR 18 (by decide)
    exact olQ rfl (sk 194 (congrArg some e18.1) (zai _)) (zbt (zac rfl rfl rfl (zaa 0 rfl rfl)))
   ·
    intro vf pf hR
    have e17 := hR 17 (by decide)
    have e19 := hR 19 (by decide)
    exact olQ rfl (sk 193 (congrArg some e17.1) (sk 195 (congrArg some e19.1) (zai _))) (zbt (riQ 1 rfl rfl rfl rfl (zaj 1 rfl)))
   ·
    intro vf pf hR
    have e20 := hR 20 (by decide)
    exact olQ rfl (sk 196 (congrArg some e20.1) (zai _)) (zbt (lzQ rfl rfl rfl (zaj 1 rfl)))
   ·
    intro vf pf hR
    have e6 := hR 6 (by decide)
    have e11 := hR 11 (by decide)
    have e16 := hR 16 (by decide)
    have e21 := hR 21 (by decide)
    exact ovQ rfl (sk 182 (congrArg some e6.1) (sk 187 (congrArg some e11.1) (sk 192 (congrArg some e16.1) (sk 197 (congrArg some e21.1) (zai _))))) (zbt (zbk (cs := #[.int .i64 (ids.getD (((((D.getD k md0).ms).getD mx mm0).a).toNat) 0), .int .i64 (ids.getD (((((D.getD k md0).ms).getD mx mm0).d).toNat) 0), .int .i64 (ids.getD (((((D.getD k md0).ms).getD mx mm0).w).toNat) 0), .int .i64 (ids.getD (((((D.getD k md0).ms).getD mx mm0).o).toNat) 0)]) rfl rfl rfl))
   intro vf pf hR
   have e22 := hR 22 (by decide)
   exact olQ rfl (sk 198 (congrArg some e22.1) (zai _)) (zak (z := .agg #[.int .i64 0, .int .i64 0, .int .i64 0, .int .i64 0]) (s := 4) (cs := ([ids.getD (((((D.getD k md0).ms).getD mx mm0).a).toNat) 0, ids.getD (((((D.getD k md0).ms).getD mx mm0).d).toNat) 0, ids.getD (((((D.getD k md0).ms).getD mx mm0).w).toNat) 0, ids.getD (((((D.getD k md0).ms).getD mx mm0).o).toNat) 0].map (Value.int .i64))) rfl Try.underlying33 rfl (by decide) rfl (by kernel_rfl) rfl)
  intro vf pf hR
  have e1 := hR 1 (by decide)
  have e23 : IsRow 94 4 1 ([ids.getD (((((D.getD k md0).ms).getD mx mm0).a).toNat) 0, ids.getD (((((D.getD k md0).ms).getD mx mm0).d).toNat) 0, ids.getD (((((D.getD k md0).ms).getD mx mm0).w).toNat) 0, ids.getD (((((D.getD k md0).ms).getD mx mm0).o).toNat) 0].map (Value.int .i64)) (vf 23) (pf 23) := hR 23 (by decide)
  obtain ⟨g56, vE23, pE23⟩ := e23
  have q0 := hR 0 (by decide)
  have q1 := hR 1 (by decide)
  have q2 := hR 2 (by decide)
  have q3 := hR 3 (by decide)
  have q4 := hR 4 (by decide)
  have q5 := hR 5 (by decide)
  have q6 := hR 6 (by decide)
  have q7 := hR 7 (by decide)
  have q8 := hR 8 (by decide)
  have q9 := hR 9 (by decide)
  have q10 := hR 10 (by decide)
  have q11 := hR 11 (by decide)
  have q12 := hR 12 (by decide)
  have q13 := hR 13 (by decide)
  have q14 := hR 14 (by decide)
  have q15 := hR 15 (by decide)
  have q16 := hR 16 (by decide)
  have q17 := hR 17 (by decide)
  have q18 := hR 18 (by decide)
  have q19 := hR 19 (by decide)
  have q20 := hR 20 (by decide)
  have q21 := hR 21 (by decide)
  have q22 := hR 22 (by decide)
  refine zdf (zci [168, 104, 42, 24, 23, 19, 17, 16, 15, 14, 13, 12, 11, 6, 5, 4, 3, 2, 1, 0] _ (sk 177 (congrArg some e1.1) (sk 199 (congrArg some vE23) (zai _))) rfl) (by simp only [pE23, vE23, q0.2, q1.2, q2.2, q3.2, q4.2, q5.2, q6.2, q7.2, q8.2, q9.2, q10.2, q11.2, q12.2, q13.2, q14.2, q15.2, q16.2, q17.2, q18.2, q19.2, q20.2, q21.2, q22.2, fS] <;> rfl) ?_
  simp only [List.drop_succ_cons, List.drop_zero]
  refine zcs (i := 9) (z := .agg #[.int .i64 0, .int .i64 0, .int .i64 0, .int .i64 0]) (bytes := 32) rfl rfl rfl rfl Try.underlying33 (by kernel_rfl) rfl rfl rfl rfl (zaj 0 rfl) (zbx _) (by first | omega | (simp only [List.length_append, List.length_cons, List.length_nil]; omega)) (zcc ms2 [(Mm.mk (ids.getD (((((D.getD k md0).ms).getD mx mm0).a).toNat) 0) (ids.getD (((((D.getD k md0).ms).getD mx mm0).d).toNat) 0) (ids.getD (((((D.getD k md0).ms).getD mx mm0).w).toNat) 0) (ids.getD (((((D.getD k md0).ms).getD mx mm0).o).toNat) 0))]) (zcz mmC ms2 (Mm.mk (ids.getD (((((D.getD k md0).ms).getD mx mm0).a).toNat) 0) (ids.getD (((((D.getD k md0).ms).getD mx mm0).d).toNat) 0) (ids.getD (((((D.getD k md0).ms).getD mx mm0).w).toNat) 0) (ids.getD (((((D.getD k md0).ms).getD mx mm0).o).toNat) 0)) _ rfl) (fun _ => rfl) ?_
  intro v57
  refine hvQ rfl (fdQ 3 rfl rfl rfl) (zct (i := 9) rfl (fun ho58 => ?_))
  refine zdo (i := 5) (cs' := #[q.2, av2, .slice none 0 0, v57]) rfl rfl rfl rfl rfl rfl ho58 rfl rfl rfl rfl (zcu (zdh (reQ 1 rfl (hvQ rfl (vaQ rfl rfl rfl) (enQ 1 rfl ?_)))))
  exact zcq (mx + 1) (ms2 ++ [(Mm.mk (ids.getD (((((D.getD k md0).ms).getD mx mm0).a).toNat) 0) (ids.getD (((((D.getD k md0).ms).getD mx mm0).d).toNat) 0) (ids.getD (((((D.getD k md0).ms).getD mx mm0).w).toNat) 0) (ids.getD (((((D.getD k md0).ms).getD mx mm0).o).toNat) 0))]) v57 ⟨by omega, by rw [hM, zec mm0 (show mx < (D.getD k md0).ms.length by omega), List.map_append, ← List.append_assoc]; rfl⟩ (by omega) (saQ rfl) (.cons _ (.cons _ (.refl _)))
 refine ntQ (zap rfl ?_)
 refine zbj (zeb ?_)
 refine zal (zba (zfi ?_))
 have hMq : ms2 = F.ms ++ (D.getD k md0).ms.map (mmF ids) := by rw [hM, show mx = (D.getD k md0).ms.length by omega, List.take_length]
 have hoi := ownF_iff (m := (D.getD k md0)) (n := n) (S := S) hGq hMq
 refine hvQ rfl (fdQ 0 rfl rfl rfl) (hvQ rfl (zac rfl rfl rfl (zaa 3 rfl rfl)) (hvQ rfl (lnQ rfl rfl rfl (zaj 5 rfl)) ?_))
 refine zdr rfl rfl rfl rfl rfl rfl (fun h59 => ?_) (fun h59 => ?_)
 ·
  refine zay 12 rfl ?_
  refine zah rfl (srQ (hvQ rfl (zax (cs := [q.2, av2, .slice none 0 0, mw]) rfl rfl rfl rfl rfl (zat 3 rfl 0 rfl)) ?_))
  refine zct (i := 7) rfl (fun ho60 => ?_)
  refine zct (i := 6) rfl (fun ho61 => ?_)
  refine zct (i := 5) rfl (fun ho62 => ?_)
  refine zbh (cs' := #[q.2, av2, .slice none 0 0, mw]) (i := 2) (off := 0) (us := [q.2, av2, .slice none 0 0, mw]) rfl rfl rfl rfl rfl rfl rfl (zab ho62 (zab ho61 (zab rfl (zab ho60 zbc)))) rfl rfl rfl (zay 1 rfl ?_)
  refine zao (zae ?_)
  refine zft (p := q.2.oneCell' = true ∧ av2.oneCell' = true ∧ mw.oneCell' = true) (fun w hm => ⟨(zaj 5 rfl w hm).one, (zaj 6 rfl w hm).one, (zaj 7 rfl w hm).one⟩) (fun ho9 => ?_)
  refine zco (bigE [] :: rowE 3 1 q.1 ids.length (ids.map (Value.int .i64)) :: boxE b4 #[(D.getD k md0).sv, (D.getD k md0).av, (D.getD k md0).iv, (D.getD k md0).mv] 35 :: boxE b3 #[q.2, av2, .slice none 0 0, mw] 35 :: boxE b2 #[q.2, av2, .slice none 0 0, mw] 35 :: boxE b1 #[v] 26 :: rowE 38 3 q.2 S.length (S.flatMap sgC) :: rowE 89 2 av2 G.length (G.flatMap asC) :: rowE 94 4 mw ms2.length (ms2.flatMap mmC) :: bigE ps2 :: l) zdj ?_
  exact zcx (rs := [.cell 12 35, .tmp 13]) (vs := [.agg #[q.2, av2, .slice none 0 0, mw], .bool false]) rfl ⟨⟨b3, 0, [q.2, av2, .slice none 0 0, mw], rfl, rfl, by kernel_rfl, by kernel_rfl, zat 3 rfl 0 rfl⟩, rfl, trivial⟩ rfl (fun w hm => ⟨_, bigE [], rfl, ⟨_, _, _, false, _, rfl, rfl, ho9, (fun h => by cases h), fun _ => by first | exact zer (zfn hs (by assumption) hpt (by omega)) (by omega) | exact zfc hsF (fun h9 => by have h8 := hoi.1 h9; omega) | exact (zfb hsF hokF).trans (zep (i := ux + 1) (by rw [zeh hH, hk2, ← hzp, ← hpp]; exact hnoNone (by assumption)) _ (by omega))⟩, hm.sub (.cons_cons _ (.cons _ (.cons _ (.cons _ (.cons _ (.cons _ (.cons _ (.cons _ (.cons _ (.cons _ (.refl _)))))))))))⟩)
 refine zam 1 rfl (hvQ rfl (fdQ 1 rfl rfl rfl) (hvQ rfl (zac rfl rfl rfl (zaa 3 rfl rfl)) (hvQ rfl (lnQ rfl rfl rfl (zaj 6 rfl)) ?_)))
 refine zdr rfl rfl rfl rfl rfl rfl (fun h63 => ?_) (fun h63 => ?_)
 ·
  refine zay 7 rfl (zah rfl (srQ (hvQ rfl (zax (cs := [q.2, av2, .slice none 0 0, mw]) rfl rfl rfl rfl rfl (zat 3 rfl 0 rfl)) ?_)))
  refine zct (i := 7) rfl (fun ho64 => ?_)
  refine zct (i := 6) rfl (fun ho65 => ?_)
  refine zct (i := 5) rfl (fun ho66 => ?_)
  refine zbh (cs' := #[q.2, av2, .slice none 0 0, mw]) (i := 2) (off := 0) (us := [q.2, av2, .slice none 0 0, mw]) rfl rfl rfl rfl rfl rfl rfl (zab ho66 (zab ho65 (zab rfl (zab ho64 zbc)))) rfl rfl rfl (zay 1 rfl ?_)
  refine zao (zae ?_)
  refine zft (p := q.2.oneCell' = true ∧ av2.oneCell' = true ∧ mw.oneCell' = true) (fun w hm => ⟨(zaj 5 rfl w hm).one, (zaj 6 rfl w hm).one, (zaj 7 rfl w hm).one⟩) (fun ho9 => ?_)
  refine zco (bigE [] :: rowE 3 1 q.1 ids.length (ids.map (Value.int .i64)) :: boxE b4 #[(D.getD k md0).sv, (D.getD k md0).av, (D.getD k md0).iv, (D.getD k md0).mv] 35 :: boxE b3 #[q.2, av2, .slice none 0 0, mw] 35 :: boxE b2 #[q.2, av2, .slice none 0 0, mw] 35 :: boxE b1 #[v] 26 :: rowE 38 3 q.2 S.length (S.flatMap sgC) :: rowE 89 2 av2 G.length (G.flatMap asC) :: rowE 94 4 mw ms2.length (ms2.flatMap mmC) :: bigE ps2 :: l) zdj ?_
  exact zcx (rs := [.cell 12 35, .tmp 13]) (vs := [.agg #[q.2, av2, .slice none 0 0, mw], .bool false]) rfl ⟨⟨b3, 0, [q.2, av2, .slice none 0 0, mw], rfl, rfl, by kernel_rfl, by kernel_rfl, zat 3 rfl 0 rfl⟩, rfl, trivial⟩ rfl (fun w hm => ⟨_, bigE [], rfl, ⟨_, _, _, false, _, rfl, rfl, ho9, (fun h => by cases h), fun _ => by first | exact zer (zfn hs (by assumption) hpt (by omega)) (by omega) | exact zfc hsF (fun h9 => by have h8 := hoi.1 h9; omega) | exact (zfb hsF hokF).trans (zep (i := ux + 1) (by rw [zeh hH, hk2, ← hzp, ← hpp]; exact hnoNone (by assumption)) _ (by omega))⟩, hm.sub (.cons_cons _ (.cons _ (.cons _ (.cons _ (.cons _ (.cons _ (.cons _ (.cons _ (.cons _ (.cons _ (.refl _)))))))))))⟩)
 refine zam 2 rfl (hvQ rfl (fdQ 3 rfl rfl rfl) (hvQ rfl (zac rfl rfl rfl (zaa 3 rfl rfl)) (hvQ rfl (lnQ rfl rfl rfl (zaj 7 rfl)) ?_)))
 refine zdr rfl rfl rfl rfl rfl rfl (fun h67 => ?_) (fun h67 => ?_)
 ·
  refine zay 1 rfl (zah rfl (srQ (hvQ rfl (zax (cs := [q.2, av2, .slice none 0 0, mw]) rfl rfl rfl rfl rfl (zat 3 rfl 0 rfl)) ?_)))
  refine zct (i := 7) rfl (fun ho68 => ?_)
  refine zct (i := 6) rfl (fun ho69 => ?_)
  refine zct (i := 5) rfl (fun ho70 => ?_)
  refine zbh (cs' := #[q.2, av2, .slice none 0 0, mw]) (i := 2) (off := 0) (us := [q.2, av2, .slice none 0 0, mw]) rfl rfl rfl rfl rfl rfl rfl (zab ho70 (zab ho69 (zab rfl (zab ho68 zbc)))) rfl rfl rfl (zay 1 rfl ?_)
  refine zao (zae ?_)
  refine zft (p := q.2.oneCell' = true ∧ av2.oneCell' = true ∧ mw.oneCell' = true) (fun w hm => ⟨(zaj 5 rfl w hm).one, (zaj 6 rfl w hm).one, (zaj 7 rfl w hm).one⟩) (fun ho9 => ?_)
  refine zco (bigE [] :: rowE 3 1 q.1 ids.length (ids.map (Value.int .i64)) :: boxE b4 #[(D.getD k md0).sv, (D.getD k md0).av, (D.getD k md0).iv, (D.getD k md0).mv] 35 :: boxE b3 #[q.2, av2, .slice none 0 0, mw] 35 :: boxE b2 #[q.2, av2, .slice none 0 0, mw] 35 :: boxE b1 #[v] 26 :: rowE 38 3 q.2 S.length (S.flatMap sgC) :: rowE 89 2 av2 G.length (G.flatMap asC) :: rowE 94 4 mw ms2.length (ms2.flatMap mmC) :: bigE ps2 :: l) zdj ?_
  exact zcx (rs := [.cell 12 35, .tmp 13]) (vs := [.agg #[q.2, av2, .slice none 0 0, mw], .bool false]) rfl ⟨⟨b3, 0, [q.2, av2, .slice none 0 0, mw], rfl, rfl, by kernel_rfl, by kernel_rfl, zat 3 rfl 0 rfl⟩, rfl, trivial⟩ rfl (fun w hm => ⟨_, bigE [], rfl, ⟨_, _, _, false, _, rfl, rfl, ho9, (fun h => by cases h), fun _ => by first | exact zer (zfn hs (by assumption) hpt (by omega)) (by omega) | exact zfc hsF (fun h9 => by have h8 := hoi.1 h9; omega) | exact (zfb hsF hokF).trans (zep (i := ux + 1) (by rw [zeh hH, hk2, ← hzp, ← hpp]; exact hnoNone (by assumption)) _ (by omega))⟩, hm.sub (.cons_cons _ (.cons _ (.cons _ (.cons _ (.cons _ (.cons _ (.cons _ (.cons _ (.cons _ (.cons _ (.refl _)))))))))))⟩)
 refine zay 1 rfl (zap rfl (zcv (zag (zbg 1 rfl ?_))))
 refine zaz ?_
 have hokF : (ownF (D.getD k md0) p F (ids, n, S)).Ok := hoi.2 ⟨by omega, by omega, by omega⟩
 refine hc_know (p := q.2.oneCell' = true ∧ av2.oneCell' = true ∧ mw.oneCell' = true) (fun w hm => ⟨(zaj 5 rfl w hm).one, (zaj 6 rfl w hm).one, (zaj 7 rfl w hm).one⟩) (fun hou0 => ?_)
 refine hc_loop5 (α := Nat) (β := Fz) (γ := List As) (δ := Value × Value × Value) (fun ux H gs3 q3 ps3 => (rowE 3 1 q.1 ids.length (ids.map (Value.int .i64)) :: boxE b4 #[(D.getD k md0).sv, (D.getD k md0).av, (D.getD k md0).iv, (D.getD k md0).mv] 35 :: boxE b3 #[.slice none 0 0, .slice none 0 0, .slice none 0 0, .slice none 0 0] 35 :: boxE b2 #[q3.1, q3.2.1, .slice none 0 0, q3.2.2] 35 :: boxE b1 #[v] 26 :: rowE 38 3 q3.1 H.ss.length (H.ss.flatMap sgC) :: rowE 89 2 q3.2.1 gs3.length (gs3.flatMap asC) :: rowE 94 4 q3.2.2 H.ms.length (H.ms.flatMap mmC) :: bigE ps3 :: l)) (fun ux H gs3 q3 ps3 => [(0, .agg #[v]), (1, .int .i64 (k : Int)), (2, .int .i64 p), (3, .bool c), (4, uP), (5, .agg #[sv, av, .slice none 0 0, mv]), (6, .pointer (some ⟨b1, 0, none⟩)), (11, .pointer (some ⟨b2, 0, none⟩)), (12, .pointer (some ⟨b3, 0, none⟩)), (13, .bool false), (14, .pointer (some ⟨b4, 0, none⟩)), (15, q.1), (16, .int .i64 (n : Int)), (17, .int .i64 (i : Int)), (19, .int .i64 (ax : Int)), (23, .int .i64 (mx : Int)), (25, .int .i64 (ux : Int)), (42, .bool false), (104, .bool false), (168, .bool false), (217, .bool false)]) (fun ux H gs3 q3 ps3 => ux ≤ (D.getD k md0).xs.length ∧ insA (fun k p P G => addF D f k p true P G) ids p (D.getD k md0).xs (ownF (D.getD k md0) p F (ids, n, S)) ux = some H ∧ gs3.map asV = H.gs ∧ (∀ w, (bigE ps3).holds w → OpsR w gs3) ∧ q3.1.oneCell' = true ∧ q3.2.1.oneCell' = true ∧ q3.2.2.oneCell' = true) (fun ux H gs3 q3 ps3 => (D.getD k md0).xs.length - ux) 0 (Fz.mk S (G.map asV) ms2) G (q.2, av2, mw) ps2 ⟨Nat.zero_le _, by show some _ = some _; rw [hGq, hMq]; rfl, rfl, hpq, hou0⟩ (zar [217, 168, 104, 42, 25, 23, 19, 17, 16, 15, 14, 13, 12, 11, 6, 5, 4, 3, 2, 1, 0] rfl) (.refl _) ?_
 intro ux H gs3 q3 ps3 hi71
 obtain ⟨hu, hH, hG3, hp3, hou⟩ := hi71
 obtain ⟨hHo, hHl⟩ := insA_ok hokF (fun k p P A B _ e => addF_ok f k p true P A B e) _ _ hH
 have hHl2 : S.length ≤ H.ss.length := hHl
 refine zag (zag (reQ 1 rfl (hvQ rfl (fdQ 2 rfl rfl rfl) (hvQ rfl (zac rfl rfl rfl (zaa 1 rfl rfl)) ?_))))
 refine hvQ rfl (lnQ rfl rfl rfl (fun w hm => (((hd w (hm.sub (.cons _ (.cons _ (.cons _ (.cons _ (.cons _ (.cons _ (.cons _ (.cons _ (.cons _ (.refl _)))))))))))).at (k := k) hkl).x))) (zbq rfl rfl rfl rfl rfl rfl (fun h72 => ?_) (fun h72 => ?_))
 ·
  refine ntQ (zah rfl (zcv (sbQ (srQ ?_))))
  have hxi := hmod.ins ux (by omega)
  have hxp : ∀ j, j < ((D.getD k md0).xs.getD ux ix0).ps.length → 0 ≤ ((D.getD k md0).xs.getD ux ix0).ps.getD j 0 ∧ ((D.getD k md0).xs.getD ux ix0).ps.getD j 0 < (D.getD k md0).ss.length := fun j hj => ((hmod.xs ux (by omega)).2 j (by rw [← hxi.2]; exact hj)).1
  have hxl30 : ((D.getD k md0).xs.getD ux ix0).ps.length ≤ 30 := by rw [hxi.2]; exact zfx _
  refine hvQ rfl (fdQ 2 rfl rfl rfl) (hvQ rfl (zac rfl rfl rfl (zaa 1 rfl rfl)) (zam 1 rfl ?_))
  refine hvQ rfl (riQ 3 rfl rfl rfl rfl (fun w hm => (((hd w (hm.sub (.cons _ (.cons _ (.cons _ (.cons _ (.cons _ (.cons _ (.cons _ (.cons _ (.cons _ (.refl _)))))))))))).at (k := k) hkl).x))) (hvQ rfl (zbb (us := [.int .i64 ((((D.getD k md0).xs).getD ux ix0).m), .int .i64 ((((D.getD k md0).xs).getD ux ix0).p), (((D.getD k md0).xs).getD ux ix0).pv]) rfl rfl rfl rfl (fun w hm => (((hd w (hm.sub (.cons _ (.cons _ (.cons _ (.cons _ (.cons _ (.cons _ (.cons _ (.cons _ (.cons _ (.refl _)))))))))))).at (k := k) hkl).x)) (by omega) rfl (zbr ixC 3 (fun _ => rfl) ((D.getD k md0).xs) ix0 (show ux < _ by omega) rfl)) ?_)
  refine zdn rfl (zbl (z := .agg #[.int .i64 0, .int .i64 0, .slice none 0 0]) rfl rfl) ?_
  intro b73
  refine zbh (cs' := #[.int .i64 ((((D.getD k md0).xs).getD ux ix0).m), .int .i64 ((((D.getD k md0).xs).getD ux ix0).p), (((D.getD k md0).xs).getD ux ix0).pv]) (i := 0) (off := 0) (us := [.int .i64 ((((D.getD k md0).xs).getD ux ix0).m), .int .i64 ((((D.getD k md0).xs).getD ux ix0).p), (((D.getD k md0).xs).getD ux ix0).pv]) rfl rfl rfl rfl rfl rfl rfl (zab rfl (zab rfl (zab (hm9.p.at (k := ux) (by omega)).one zbc))) rfl rfl rfl (ntQ (srQ ?_))
  refine zea rfl (zee (s := 1) rfl Try.underlying48 rfl) ?_
  intro g74
  refine zay 1 rfl (zag (zbg 1 rfl (zaz ?_)))
  refine lkQ3 (α := Nat) (β := List Int) (γ := Value) [0, 1, 2, 3, 4, 5, 6, 11, 12, 13, 14, 15, 16, 17, 19, 23, 25, 26, 42, 104, 168, 217, 223] rfl (fun jx zs yv => (rowE 3 1 yv zs.length (zs.map (Value.int .i64)) :: boxE b73 #[.int .i64 ((((D.getD k md0).xs).getD ux ix0).m), .int .i64 ((((D.getD k md0).xs).getD ux ix0).p), (((D.getD k md0).xs).getD ux ix0).pv] 63 :: rowE 3 1 q.1 ids.length (ids.map (Value.int .i64)) :: boxE b4 #[(D.getD k md0).sv, (D.getD k md0).av, (D.getD k md0).iv, (D.getD k md0).mv] 35 :: boxE b3 #[.slice none 0 0, .slice none 0 0, .slice none 0 0, .slice none 0 0] 35 :: boxE b2 #[q3.1, q3.2.1, .slice none 0 0, q3.2.2] 35 :: boxE b1 #[v] 26 :: rowE 38 3 q3.1 H.ss.length (H.ss.flatMap sgC) :: rowE 89 2 q3.2.1 gs3.length (gs3.flatMap asC) :: rowE 94 4 q3.2.2 H.ms.length (H.ms.flatMap mmC) :: bigE ps3 :: l)) (fun jx zs yv => [(27, yv), (28, .int .i64 (jx : Int))]) (fun jx zs yv => jx ≤ ((D.getD k md0).xs.getD ux ix0).ps.length ∧ zs = (((D.getD k md0).xs.getD ux ix0).ps.take jx).map (fun q => ids.getD q.toNat 0)) (fun jx zs yv => ((D.getD k md0).xs.getD ux ix0).ps.length - jx) 0 [] _ ⟨Nat.zero_le _, rfl⟩ (saQ rfl) (.refl _) ?_
  intro jx zs yv hi75
  obtain ⟨hj, hz⟩ := hi75
  have hzl : zs.length = jx := by rw [hz, List.length_map, List.length_take]; omega
  refine zag (zag (reQ 1 rfl (hvQ rfl (fdQ 2 rfl rfl rfl) (hvQ rfl (zac rfl rfl rfl (zaa 1 rfl rfl)) ?_))))
  refine hvQ rfl (lnQ rfl rfl rfl (fun w hm => (((hd w (hm.sub (.cons _ (.cons _ (.cons _ (.cons _ (.cons _ (.cons _ (.cons _ (.cons _ (.cons _ (.cons _ (.cons _ (.refl _)))))))))))))).at (k := k) hkl).p.at (k := ux) (by omega)))) (zbq rfl rfl rfl rfl rfl rfl (fun h76 => ?_) (fun h76 => ?_))
  ·
   refine ntQ (zah rfl (zcv (sbQ (zas ?_))))
   have hxj := hxp jx (by omega)
   refine zam 2 rfl (hvQ rfl (fdQ 2 rfl rfl rfl) (hvQ rfl (zac rfl rfl rfl (zaa 1 rfl rfl)) (zam 1 rfl ?_)))
   refine hvQ rfl (riQ 1 rfl rfl rfl rfl (fun w hm => (((hd w (hm.sub (.cons _ (.cons _ (.cons _ (.cons _ (.cons _ (.cons _ (.cons _ (.cons _ (.cons _ (.cons _ (.cons _ (.refl _)))))))))))))).at (k := k) hkl).p.at (k := ux) (by omega)))) (hvQ rfl (zan (u := .int .i64 (((((D.getD k md0).xs).getD ux ix0).ps).getD jx 0)) rfl rfl rfl (fun w hm => (((hd w (hm.sub (.cons _ (.cons _ (.cons _ (.cons _ (.cons _ (.cons _ (.cons _ (.cons _ (.cons _ (.cons _ (.cons _ (.refl _)))))))))))))).at (k := k) hkl).p.at (k := ux) (by omega))) (zcn (show _ < ((((D.getD k md0).xs).getD ux ix0).ps).length by omega))) ?_)
   refine hvQ rfl (riQ 1 rfl rfl rfl rfl (zaj 2 rfl)) (hvQ rfl (lzQ rfl rfl rfl (zaj 2 rfl)) ?_)
   refine zea rfl (zak (z := .int .i64 0) (s := 1) (cs := ([ids.getD ((((((D.getD k md0).xs).getD ux ix0).ps).getD jx 0).toNat) 0].map (Value.int .i64))) rfl Try.underlying48 rfl (by decide) rfl (by kernel_rfl) rfl) ?_
   intro g77
   refine zcs (i := 1) (z := .int .i64 0) (bytes := 8) rfl rfl rfl rfl Try.underlying48 (by kernel_rfl) rfl rfl rfl rfl (zaj 0 rfl) (zbx _) (by first | omega | (simp; done) | (simp; omega)) (zcc zs ([ids.getD ((((((D.getD k md0).xs).getD ux ix0).ps).getD jx 0).toNat) 0])) (zcw zs ([ids.getD ((((((D.getD k md0).xs).getD ux ix0).ps).getD jx 0).toNat) 0])) (fun _ => rfl) ?_
   intro v78
   refine enQ 1 rfl (zdh (reQ 1 rfl (hvQ rfl (vaQ rfl rfl rfl) (enQ 1 rfl ?_))))
   exact zcq (jx + 1) (zs ++ ([ids.getD ((((((D.getD k md0).xs).getD ux ix0).ps).getD jx 0).toNat) 0])) v78 ⟨by omega, ptF_take hz (by omega)⟩ (by omega) (saQ rfl) (.cons _ (.refl _))
  refine ntQ (zap rfl ?_)
  refine zbj (zeb ?_)
  refine zal (zba (srQ (hvQ rfl (fdQ 1 rfl rfl rfl) (hvQ rfl (zac rfl rfl rfl (zaa 1 rfl rfl)) (zay 1 rfl ?_)))))
  refine zfg (α := Int) (fun pp => (rowE 3 1 yv zs.length (zs.map (Value.int .i64)) :: boxE b73 #[.int .i64 ((((D.getD k md0).xs).getD ux ix0).m), .int .i64 ((((D.getD k md0).xs).getD ux ix0).p), (((D.getD k md0).xs).getD ux ix0).pv] 63 :: rowE 3 1 q.1 ids.length (ids.map (Value.int .i64)) :: boxE b4 #[(D.getD k md0).sv, (D.getD k md0).av, (D.getD k md0).iv, (D.getD k md0).mv] 35 :: boxE b3 #[.slice none 0 0, .slice none 0 0, .slice none 0 0, .slice none 0 0] 35 :: boxE b2 #[q3.1, q3.2.1, .slice none 0 0, q3.2.2] 35 :: boxE b1 #[v] 26 :: rowE 38 3 q3.1 H.ss.length (H.ss.flatMap sgC) :: rowE 89 2 q3.2.1 gs3.length (gs3.flatMap asC) :: rowE 94 4 q3.2.2 H.ms.length (H.ms.flatMap mmC) :: bigE ps3 :: l)) (fun pp => [(0, .agg #[v]), (1, .int .i64 (k : Int)), (2, .int .i64 p), (3, .bool c), (4, uP), (5, .agg #[sv, av, .slice none 0 0, mv]), (6, .pointer (some ⟨b1, 0, none⟩)), (11, .pointer (some ⟨b2, 0, none⟩)), (12, .pointer (some ⟨b3, 0, none⟩)), (13, .bool false), (14, .pointer (some ⟨b4, 0, none⟩)), (15, q.1), (16, .int .i64 (n : Int)), (17, .int .i64 (i : Int)), (19, .int .i64 (ax : Int)), (23, .int .i64 (mx : Int)), (25, .int .i64 (ux : Int)), (26, .pointer (some ⟨b73, 0, none⟩)), (27, yv), (28, .int .i64 (jx : Int)), (29, .int .i64 pp), (42, .bool false), (104, .bool false), (168, .bool false), (217, .bool false), (223, .bool true), (236, .bool false)]) (fun pp => pp = inP p ((D.getD k md0).xs.getD ux ix0)) ?_ ?_
  ·
   refine zag (reQ 1 rfl ?_)
   refine zbu rfl rfl rfl rfl rfl rfl (fun h79 => ?_) (fun h79 => ?_)
   ·
    refine ntQ (zah rfl (zas (enQ 2 rfl ?_)))
    exact zde p (by unfold inP; first | rw [if_pos (by omega)] | rw [if_neg (by omega)]) (saQ rfl) (.refl _)
   refine ntQ (fsQ rfl ?_)
   exact zde ((((D.getD k md0).xs).getD ux ix0).p) (by unfold inP; first | rw [if_pos (by omega)] | rw [if_neg (by omega)]) (saQ rfl) (.refl _)
  intro pp hm80
  have hpp := hm80
  refine srQ ?_
  refine zfo 11 [6, 5, 4, 3, 2, 1, 0, 10, 9, 8, 7] rfl rfl (by decide) ?_
  refine hl_pool 4 rfl ?_
  have hzp : zs = ptF ids ((D.getD k md0).xs.getD ux ix0) := by rw [hz, show jx = ((D.getD k md0).xs.getD ux ix0).ps.length by omega, List.take_length]; rfl
  refine hvQ rfl (zax (cs := [v]) rfl rfl rfl rfl rfl (zat 7 rfl 0 rfl)) (hvQ rfl (fdQ 0 rfl rfl rfl) (hvQ rfl (zac rfl rfl rfl (zaa 2 rfl rfl)) ?_))
  obtain ⟨kx, hk2⟩ : ∃ kx : Nat, ((D.getD k md0).xs.getD ux ix0).m = (kx : Int) := ⟨((D.getD k md0).xs.getD ux ix0).m.toNat, by omega⟩
  rw [hk2]
  rw [hk2, Int.toNat_natCast] at hxi
  have hpo2 : PoP (D.getD kx md0) true zs H.ss.length := fun _ => ⟨by rw [hzp, ptF_len]; exact hxi.2, by rw [hzp]; exact ptF_in (hin.mono hHl2) (fun j hj => by have h9 := hxp j hj; omega)⟩
  refine zam 2 rfl (hvQ rfl (zax (cs := [q3.1, q3.2.1, .slice none 0 0, q3.2.2]) rfl rfl rfl rfl rfl (zat 6 rfl 0 rfl)) ?_)
  refine zds (R := (fun u_ p_ => AddR (addF D f kx pp true zs H) u_ p_)) 0 rfl rfl rfl rfl rfl (fun L w hX hm => IH kx pp zs H gs3 yv q3.1 q3.2.1 q3.2.2 ps3 _ _ (by omega) hHo hpo2 hG3 hp3 (fun w h => hd w ((hX w h).sub (.cons _ (.cons _ (.cons _ (.cons _ (.cons _ (.cons _ (.cons _ (.refl _)))))))))) (fun w h => (zaj (l := (rowE 3 1 yv zs.length (zs.map (Value.int .i64)) :: boxE b73 #[.int .i64 ((kx : Int)), .int .i64 ((((D.getD k md0).xs).getD ux ix0).p), (((D.getD k md0).xs).getD ux ix0).pv] 63 :: rowE 3 1 q.1 ids.length (ids.map (Value.int .i64)) :: boxE b4 #[(D.getD k md0).sv, (D.getD k md0).av, (D.getD k md0).iv, (D.getD k md0).mv] 35 :: boxE b3 #[.slice none 0 0, .slice none 0 0, .slice none 0 0, .slice none 0 0] 35 :: boxE b2 #[q3.1, q3.2.1, .slice none 0 0, q3.2.2] 35 :: boxE b1 #[v] 26 :: l)) 0 rfl) w (hX w h)) hm) ?_
  intro v81 p82 hR83
  obtain ⟨ahR83, bhR83, dhR83, okhR83, qshR83, rfl, rfl, honhR83, hgohR83, hnohR83⟩ := hR83
  refine zcl (l' := (bigE qshR83 :: rowE 3 1 yv zs.length (zs.map (Value.int .i64)) :: boxE b73 #[.int .i64 ((kx : Int)), .int .i64 ((((D.getD k md0).xs).getD ux ix0).p), (((D.getD k md0).xs).getD ux ix0).pv] 63 :: rowE 3 1 q.1 ids.length (ids.map (Value.int .i64)) :: boxE b4 #[(D.getD k md0).sv, (D.getD k md0).av, (D.getD k md0).iv, (D.getD k md0).mv] 35 :: boxE b3 #[.slice none 0 0, .slice none 0 0, .slice none 0 0, .slice none 0 0] 35 :: boxE b2 #[q3.1, q3.2.1, .slice none 0 0, q3.2.2] 35 :: boxE b1 #[v] 26 :: l)) rfl ?_
  refine zam 3 rfl (zbm (fun h84 => ?_) (fun h84 => ?_))
  ·
   refine zdn rfl (zbl (z := .agg #[.slice none 0 0, .slice none 0 0, .slice none 0 0, .slice none 0 0]) rfl rfl) ?_
   intro b85
   refine zbh (cs' := #[ahR83, bhR83, .slice none 0 0, dhR83]) (i := 0) (off := 0) (us := [ahR83, bhR83, .slice none 0 0, dhR83]) rfl rfl rfl rfl rfl rfl rfl (zab honhR83.1 (zab honhR83.2.1 (zab rfl (zab honhR83.2.2 zbc)))) rfl rfl rfl (zay 1 rfl (zag (zbg 2 rfl (zap rfl (zcv ?_)))))
   refine zas ?_
   obtain ⟨G2, hG2, gs4, ps4, rfl, hp4, hG4⟩ := hgohR83 (by assumption)
   refine zfo 9 [8, 7, 6, 5, 4, 3, 2, 0, 1] rfl rfl (by decide) ?_
   refine zfd (rowE 38 3 ahR83 G2.ss.length (G2.ss.flatMap sgC) :: rowE 89 2 bhR83 gs4.length (gs4.flatMap asC) :: rowE 94 4 dhR83 G2.ms.length (G2.ms.flatMap mmC) :: bigE ps4 :: boxE b85 #[ahR83, bhR83, .slice none 0 0, dhR83] 35 :: rowE 3 1 yv zs.length (zs.map (Value.int .i64)) :: boxE b73 #[.int .i64 ((kx : Int)), .int .i64 ((((D.getD k md0).xs).getD ux ix0).p), (((D.getD k md0).xs).getD ux ix0).pv] 63 :: rowE 3 1 q.1 ids.length (ids.map (Value.int .i64)) :: boxE b4 #[(D.getD k md0).sv, (D.getD k md0).av, (D.getD k md0).iv, (D.getD k md0).mv] 35 :: boxE b3 #[.slice none 0 0, .slice none 0 0, .slice none 0 0, .slice none 0 0] 35 :: boxE b2 #[q3.1, q3.2.1, .slice none 0 0, q3.2.2] 35 :: boxE b1 #[v] 26 :: l) zdb ?_
   refine hvQ rfl (zax (cs := [ahR83, bhR83, .slice none 0 0, dhR83]) rfl rfl rfl rfl rfl (zat 4 rfl 0 rfl)) (zbh (cs' := #[ahR83, bhR83, .slice none 0 0, dhR83]) (i := 10) (off := 0) (us := [ahR83, bhR83, .slice none 0 0, dhR83]) rfl rfl rfl rfl rfl rfl rfl (zab honhR83.1 (zab honhR83.2.1 (zab rfl (zab honhR83.2.2 zbc)))) rfl rfl rfl ?_)
   refine zcu (zdh (reQ 1 rfl (hvQ rfl (vaQ rfl rfl rfl) (enQ 1 rfl ?_))))
   refine zbn 12 [3, 2, 1, 0, 11, 10, 9, 8, 7] rfl rfl (by decide) ?_
   exact zen (ux + 1) G2 gs4 (ahR83, bhR83, dhR83) ps4 ⟨by omega, by rw [zeh hH, hk2, ← hzp, ← hpp]; exact hG2, hG4, hp4, honhR83⟩ (by omega) (zar [217, 168, 104, 42, 25, 23, 19, 17, 16, 15, 14, 13, 12, 11, 6, 5, 4, 3, 2, 1, 0] rfl) (.refl _)
  refine zdn rfl (zbl (z := .agg #[.slice none 0 0, .slice none 0 0, .slice none 0 0, .slice none 0 0]) rfl rfl) ?_
  intro b86
  refine zbh (cs' := #[ahR83, bhR83, .slice none 0 0, dhR83]) (i := 0) (off := 0) (us := [ahR83, bhR83, .slice none 0 0, dhR83]) rfl rfl rfl rfl rfl rfl rfl (zab honhR83.1 (zab honhR83.2.1 (zab rfl (zab honhR83.2.2 zbc)))) rfl rfl rfl (zay 1 rfl (zag (zbg 2 rfl (zah rfl (srQ ?_)))))
  refine hvQ rfl (zax (cs := [q3.1, q3.2.1, .slice none 0 0, q3.2.2]) rfl rfl rfl rfl rfl (zat 7 rfl 0 rfl)) (zbh (cs' := #[q3.1, q3.2.1, .slice none 0 0, q3.2.2]) (i := 6) (off := 0) (us := [q3.1, q3.2.1, .slice none 0 0, q3.2.2]) rfl rfl rfl rfl rfl rfl rfl (zab hou.1 (zab hou.2.1 (zab rfl (zab hou.2.2 zbc)))) rfl rfl rfl ?_)
  refine zay 1 rfl ?_
  refine zao (zae ?_)
  refine zad (zdv ?_)
  refine zad (zae ?_)
  refine zco (bigE [] :: boxE b86 #[ahR83, bhR83, .slice none 0 0, dhR83] 35 :: bigE qshR83 :: rowE 3 1 yv zs.length (zs.map (Value.int .i64)) :: boxE b73 #[.int .i64 ((kx : Int)), .int .i64 ((((D.getD k md0).xs).getD ux ix0).p), (((D.getD k md0).xs).getD ux ix0).pv] 63 :: rowE 3 1 q.1 ids.length (ids.map (Value.int .i64)) :: boxE b4 #[(D.getD k md0).sv, (D.getD k md0).av, (D.getD k md0).iv, (D.getD k md0).mv] 35 :: boxE b3 #[q3.1, q3.2.1, .slice none 0 0, q3.2.2] 35 :: boxE b2 #[q3.1, q3.2.1, .slice none 0 0, q3.2.2] 35 :: boxE b1 #[v] 26 :: l) zdj ?_
  exact zcx (rs := [.cell 12 35, .tmp 13]) (vs := [.agg #[q3.1, q3.2.1, .slice none 0 0, q3.2.2], .bool false]) rfl ⟨⟨b3, 0, [q3.1, q3.2.1, .slice none 0 0, q3.2.2], rfl, rfl, by kernel_rfl, by kernel_rfl, zat 7 rfl 0 rfl⟩, rfl, trivial⟩ rfl (fun w hm => ⟨_, bigE [], rfl, ⟨_, _, _, false, _, rfl, rfl, hou, (fun h => by cases h), fun _ => by first | exact zer (zfn hs (by assumption) hpt (by omega)) (by omega) | exact zfc hsF (fun h9 => by have h8 := hoi.1 h9; omega) | exact (zfb hsF hokF).trans (zep (i := ux + 1) (by rw [zeh hH, hk2, ← hzp, ← hpp]; exact hnohR83 (by assumption)) _ (by omega))⟩, hm.sub (.cons_cons _ (.cons _ (.cons _ (.cons _ (.cons _ (.cons _ (.cons _ (.cons _ (.cons _ (.cons _ (.refl _)))))))))))⟩)
 refine ntQ (zap rfl ?_)
 refine zbj (zeb ?_)
 refine zal (zba (srQ (hvQ rfl (zax (cs := [q3.1, q3.2.1, .slice none 0 0, q3.2.2]) rfl rfl rfl rfl rfl (zat 3 rfl 0 rfl)) ?_)))
 refine zct (i := 7) rfl (fun ho87 => ?_)
 refine zct (i := 6) rfl (fun ho88 => ?_)
 refine zct (i := 5) rfl (fun ho89 => ?_)
 refine zbh (cs' := #[q3.1, q3.2.1, .slice none 0 0, q3.2.2]) (i := 2) (off := 0) (us := [q3.1, q3.2.1, .slice none 0 0, q3.2.2]) rfl rfl rfl rfl rfl rfl rfl (zab ho89 (zab ho88 (zab rfl (zab ho87 zbc)))) rfl rfl rfl (zay 1 rfl ?_)
 refine zao (zbn 9 [4, 3, 2, 1, 0, 8, 7, 6, 5] rfl rfl (by decide) ?_)
 refine zcd 4 rfl ?_
 exact zcx (rs := [.cell 12 35, .tmp 13]) (vs := [.agg #[q3.1, q3.2.1, .slice none 0 0, q3.2.2], .bool true]) rfl ⟨⟨b3, 0, [q3.1, q3.2.1, .slice none 0 0, q3.2.2], rfl, rfl, by kernel_rfl, by kernel_rfl, zat 3 rfl 0 rfl⟩, rfl, trivial⟩ rfl (fun w hm => ⟨_, bigE [rowE 38 3 q3.1 H.ss.length (H.ss.flatMap sgC), rowE 89 2 q3.2.1 gs3.length (gs3.flatMap asC), rowE 94 4 q3.2.2 H.ms.length (H.ms.flatMap mmC), bigE ps3], rfl, ⟨_, _, _, true, _, rfl, rfl, hou, fun _ => ⟨H, by rw [zfb hsF hokF, show (D.getD k md0).xs.length = ux by omega]; exact hH, gs3, ps3, rfl, hp3, hG3⟩, fun h => by cases h⟩, hm.sub (.cons_cons _ (.cons _ (.cons _ (.cons _ (.cons _ (.cons _ (.refl _)))))))⟩)
def wmK (w : Int) : Int := 1 * 2 ^ w.toNat - 1
def stR (m : Md) (i : Nat) : List Bl := (List.range m.ss.length).map (fun s => ⟨decide (s < i ∧ (m.ss.getD s sg0).k = 3)⟩)
def stM (m : Md) : Nat → List Bl
  | 0 => stR m m.ss.length
  | j + 1 => (stM m j).set (m.ms.getD j mm0).o.toNat ⟨true⟩
def opV (o : Oq) (vs L : List Int) : Int :=
  if o.k = 0 then o.a else if o.k = 2 then vs.getD o.a.toNat 0 else if o.k = 3 then bits .and .i64 (vs.getD o.a.toNat 0 / 2 ^ o.b.toNat) 1
  else if o.k = 4 then bits .xor .i64 (-1) (L.getD 0 0) else if o.k = 5 then bits .and .i64 (L.getD 0 0) (L.getD 1 0) else if o.k = 6 then bits .or .i64 (L.getD 0 0) (L.getD 1 0) else if o.k = 7 then bits .xor .i64 (L.getD 0 0) (L.getD 1 0)
  else if o.k = 8 then L.getD 0 0 + L.getD 1 0 else if o.k = 9 then L.getD 0 0 - L.getD 1 0 else if o.k = 10 then (if L.getD 0 0 = L.getD 1 0 then 1 else 0) else if o.k = 11 then (if L.getD 0 0 < L.getD 1 0 then 1 else 0)
  else if o.k = 12 then (if L.getD 0 0 ≠ 0 then L.getD 1 0 else L.getD 2 0) else 0
def argE (g : Nat → Int × Nat) (p : Nat) : Nat → List Int × Nat
  | 0 => ([], p)
  | i + 1 => ((argE g p i).1 ++ [(g (argE g p i).2).1], (g (argE g p i).2).2)
def evE (os : List Oq) (vs : List Int) (x : Int) : Nat → Nat → Int × Nat
  | 0, p => (0, p)
  | f + 1, p => (bits .and .i64 (opV (os.getD p oq0) vs (argE (evE os vs x f) (p + 1) (arI (os.getD p oq0).k).toNat).1) (wmK x), (argE (evE os vs x f) (p + 1) (arI (os.getD p oq0).k).toNat).2)
def ouA (ss : List Sg) (V : List Int) : Nat → List Int
  | 0 => []
  | i + 1 => ouA ss V i ++ if (ss.getD i sg0).k = 1 then [V.getD i 0] else []
def ouK (m : Md) (V : List Int) : List Int := ouA m.ss V m.ss.length
structure VlP (m : Md) (vs : List Int) : Prop where
  len : vs.length = m.ss.length
  rng : ∀ s, s < m.ss.length → 0 ≤ vs.getD s 0 ∧ vs.getD s 0 ≤ wmK (m.ss.getD s sg0).w
structure WwP (m : Md) (ws : List Int) : Prop where
  len : ws.length = 4 * m.ms.length
  rng : ∀ i, i < ws.length → 0 ≤ ws.getD i 0 ∧ ws.getD i 0 ≤ wmK (m.ss.getD (m.ms.getD ((i : Int) / 4).toNat mm0).d.toNat sg0).w
def stB (m : Md) (s : Nat) : Bool := ((stM m m.ms.length).getD s bl0).b
structure WsP (m : Md) (vs ws : List Int) : Prop where
  fl : FlP m
  v : VlP m vs
  w : WwP m ws
  z : ∀ s, s < m.ss.length → stB m s = false → vs.getD s 0 = 0
def evK (os : List Oq) (vs : List Int) (x : Int) : Int := (evE os vs x os.length 0).1
def staA (m : Md) : Nat → List Int
  | 0 => List.replicate m.ss.length 0
  | i + 1 => if (m.ss.getD i sg0).k = 3 then (staA m i).set i (bits .and .i64 (m.ss.getD i sg0).i (wmK (m.ss.getD i sg0).w)) else staA m i
def staV (m : Md) : List Int := staA m m.ss.length
def staW (m : Md) : List Int := List.replicate (4 * m.ms.length) 0
def inA (m : Md) (ins vs : List Int) : Nat → List Int × Nat
  | 0 => (vs, 0)
  | i + 1 => if (m.ss.getD i sg0).k = 0 then ((inA m ins vs i).1.set i (bits .and .i64 (ins.getD (inA m ins vs i).2 0) (wmK (m.ss.getD i sg0).w)), (inA m ins vs i).2 + 1) else inA m ins vs i
def asgK (m : Md) (vs : List Int) (x : Int) : List Int := vs.set (m.gs.getD x.toNat as0).t.toNat (evK (m.gs.getD x.toNat as0).os vs (m.ss.getD (m.gs.getD x.toNat as0).t.toNat sg0).w)
def ordV (m : Md) (ord vs : List Int) : Nat → List Int
  | 0 => vs
  | j + 1 => asgK m (ordV m ord vs j) (ord.getD j 0)
noncomputable def sgK (m : Md) (vs ins : List Int) : List Int := ordV m (eoK m) (inA m ins vs m.ss.length).1 (eoK m).length
def nrA (m : Md) (V : List Int) : Nat → List Int
  | 0 => List.replicate m.ss.length 0
  | i + 1 => if (m.ss.getD (m.gs.getD i as0).t.toNat sg0).k = 3 then (nrA m V i).set (m.gs.getD i as0).t.toNat (evK (m.gs.getD i as0).os V (m.ss.getD (m.gs.getD i as0).t.toNat sg0).w) else nrA m V i
def maK (m : Md) (V : List Int) (i : Nat) : Int := 4 * (i : Int) + V.getD (m.ms.getD i mm0).a.toNat 0
def nmA (m : Md) (ws V : List Int) : Nat → List Int × List Int
  | 0 => (nrA m V m.gs.length, ws)
  | i + 1 => ((nmA m ws V i).1.set (m.ms.getD i mm0).o.toNat (ws.getD (maK m V i).toNat 0), if V.getD (m.ms.getD i mm0).w.toNat 0 = 1 then (nmA m ws V i).2.set (maK m V i).toNat (V.getD (m.ms.getD i mm0).d.toNat 0) else (nmA m ws V i).2)
def nxV (m : Md) (ws V : List Int) : List Int := (nmA m ws V m.ms.length).1
def nxW (m : Md) (ws V : List Int) : List Int := (nmA m ws V m.ms.length).2
noncomputable def stT (m : Md) (I : List (List Int)) : Nat → List Int × List Int
  | 0 => (staV m, staW m)
  | t + 1 => (nxV m (stT m I t).2 (sgK m (stT m I t).1 (I.getD t [])), nxW m (stT m I t).2 (sgK m (stT m I t).1 (I.getD t [])))
noncomputable def vlT (m : Md) (I : List (List Int)) (t : Nat) : List Int := sgK m (stT m I t).1 (I.getD t [])
noncomputable def trK (m : Md) (I : List (List Int)) : List (List Int) := (List.range I.length).map (vlT m I)
def InI (m : Md) (I : List (List Int)) : Prop := I.length ≤ 16 ∧ ∀ t, t < I.length → (I.getD t []).length = (pwK m 0).length
theorem l06Add_ind (D : List Md) (v : Value) (hdp : DesP D) (w0 : World) : ∀ (f k : Nat) (p : Int) (c : Bool) (P : List Int) (F : Fz) (gs : List As) (uP sv av mv : Value) (ps l : List HP) (w : World), k < f → k < D.length → F.Ok → PoP (D.getD k md0) c P F.ss.length → gs.map asV = F.gs → (∀ w, (bigE ps).holds w → OpsR w gs) → (∀ w, Mem w0 l w → RdsDs w v D) → (∀ w, Mem w0 l w → RdsW w uP 1 P.length (P.map (Value.int .i64))) → Mem w0 (bigE (flQ sv av mv F.ss gs F.ms ps) :: l) w →
    Calls Try.prog 70 #[.agg #[v], .int .i64 (k : Int), .int .i64 p, .bool c, uP, .agg #[sv, av, .slice none 0 0, mv]] w (fun e_ w_ => ∃ v_ p_, e_ = .returned v_ ∧ AddR (addF D f k p c P F) v_ p_ ∧ Mem w0 (p_ :: l) w_)
  | 0, k, p, c, P, F, gs, uP, sv, av, mv, ps, l, w, hk, _, _, _, _, _, _, _, _ => absurd hk (by omega)
  | f + 1, k, p, c, P, F, gs, uP, sv, av, mv, ps, l, w, hk, hkl, hF, hPo, hgs, hps, hd, hP, hm => l06Add_step D f k p c P F gs v uP sv av mv ps w0 l w hm hd hP hdp hkl hF hPo hgs hps (fun kx p2 P2 F2 gs2 ux sv2 av2 mv2 ps2 l2 w2 hlt hF2 hPo2 hgs2 hps2 hd2 hu2 hm2 => l06Add_ind D v hdp w0 f kx p2 true P2 F2 gs2 ux sv2 av2 mv2 ps2 l2 w2 (by omega) (by omega) hF2 hPo2 hgs2 hps2 hd2 hu2 hm2)
structure MdF (m : Md) (F : Fz) : Prop where
  s : m.ss = F.ss
  g : m.gs.map asV = F.gs
  x : m.xs = []
  m : m.ms = F.ms
def FlzP (D : List Md) (p : Int) (F : Fz) : Prop := DesP D ∧ (1 ≤ p ∧ p ≤ 4) ∧ addF D D.length (D.length - 1) p false [] fz0 = some F
theorem RdsMd.zero (w : World) : RdsMd w md0 := ⟨nilW w 3, nilW w 2, OpsR.nil w, nilW w 3, PtsR.nil w, nilW w 4⟩
theorem md0_one : MdOne md0 := ⟨rfl, rfl, rfl, rfl⟩
structure SameM (a b : Md) : Prop where
  s : a.ss = b.ss
  g : a.gs.map asV = b.gs.map asV
  x : a.xs = []
  y : b.xs = []
  m : a.ms = b.ms
theorem MdF.same {a b : Md} {F : Fz} (h : MdF a F) (k : MdF b F) : SameM a b := ⟨h.s.trans k.s.symm, h.g.trans k.g.symm, h.x, k.x, h.m.trans k.m.symm⟩
theorem SameM.len {a b : Md} (h : SameM a b) : a.gs.length = b.gs.length := by have := congrArg List.length h.g; rwa [List.length_map, List.length_map] at this
theorem SameM.at {a b : Md} (h : SameM a b) (i : Nat) : (a.gs.getD i as0).t = (b.gs.getD i as0).t ∧ (a.gs.getD i as0).os = (b.gs.getD i as0).os := by
  have h1 : asV (a.gs.getD i as0) = asV (b.gs.getD i as0) := by
    have e : ∀ L : List As, asV (L.getD i as0) = (L.map asV).getD i (asV as0) := fun L => by
      rw [List.getD_eq_getElem?_getD, List.getD_eq_getElem?_getD, List.getElem?_map]
      cases L[i]? <;> rfl
    rw [e, e, h.g]
  exact ⟨congrArg Prod.fst h1, congrArg Prod.snd h1⟩
theorem SameM.tgts {a b : Md} (h : SameM a b) : a.gs.map As.t = b.gs.map As.t := by
  have h1 := congrArg (List.map Prod.fst) h.g
  rw [List.map_map, List.map_map] at h1; exact h1
theorem SameM.knd {a b : Md} (h : SameM a b) (s : Int) : knd a s = knd b s := by unfold Go.Proofs.Ytodiifjigjnalaa.knd; rw [h.s]
theorem SameM.des {a b : Md} (h : SameM a b) (k : DesP [a]) : DesP [b] := by
  have hm := k.2 0 (by simp)
  have hl : LenP a := k.len1
  have hc : CntP [b] := ⟨by simp, fun q hq => by
    obtain rfl : q = 0 := by have : q < 1 := hq; omega
    have h1 := hl.1; have h2 := hl.2.1; have h3 := hl.2.2.2
    rw [h.s] at h1; rw [h.len] at h2; rw [h.m] at h3
    exact ⟨h1, h2, (by show b.xs.length ≤ 3; rw [h.y]; exact Nat.zero_le _), h3⟩⟩
  have nox : ∀ {n : Nat}, n < b.xs.length → False := fun hn => by rw [h.y] at hn; exact absurd hn (Nat.not_lt_zero _)
  refine ⟨⟨by simp, by simp⟩, fun q hq => ?_⟩
  obtain rfl : q = 0 := by have : q < 1 := hq; omega
  refine ⟨hq, hc, fun i hi => (nox hi).elim, fun i hi => ?_, fun i hi => ?_, fun i hi => (nox hi).elim, fun i hi => ?_, fun s hs h0 => ?_⟩
  · have h1 : i < a.ss.length := by rw [h.s]; exact hi
    have h2 := hm.sg i h1
    have h3 : SgP (a.ss.getD i sg0) := h2
    rw [h.s] at h3; exact h3
  · have h1 : i < a.gs.length := by rw [h.len]; exact hi
    obtain ⟨h2, h3⟩ : AsP a (a.gs.getD i as0) := hm.gs i h1
    rw [h.knd, (h.at i).1] at h2
    rw [h.s, (h.at i).2] at h3
    exact ⟨h2, h3⟩
  · have h1 : i < a.ms.length := by rw [h.m]; exact hi
    have h2 : MmP a (a.ms.getD i mm0) := hm.ms i h1
    unfold MmP Inn Drv at h2
    rw [h.knd, h.s, h.m] at h2; exact h2
  · have h1 : s < a.ss.length := by rw [h.s]; exact hs
    have h2 : (a.ss.getD s sg0).k ≠ 0 → (drvL [a] a).count (s : Int) = 1 := hm.dr s h1
    have e : drvL [b] b = drvL [a] a := by unfold drvL; rw [h.x, h.y, h.tgts, h.m]; rfl
    show (drvL [b] b).count _ = 1
    rw [e]; exact h2 (by rw [h.s]; exact h0)
theorem SameM.todo {a b : Md} (h : SameM a b) : ∀ i, todoA a i = todoA b i
  | 0 => rfl
  | i + 1 => by
    show todoA a i ++ (if _ then _ else _) = todoA b i ++ (if _ then _ else _)
    rw [h.todo i, h.s, (h.at i).1]
theorem SameM.can {a b : Md} (h : SameM a b) {T : List Int} (k : Can a T) : Can b T := by
  obtain ⟨f, hf⟩ := k
  exact ⟨f, fun x hx y hy hr => hf x hx y hy (by rw [(h.at _).2, (h.at _).1]; exact hr)⟩
theorem SameM.eo {a b : Md} (h : SameM a b) (k : EoP a) : EoP b := ⟨by rw [h.y]; rfl, h.des k.2.1, by rw [← h.todo, ← h.len]; exact h.can k.2.2⟩
theorem SameM.mo {a b : Md} (h : SameM a b) : ∀ i, moA a i = moA b i
  | 0 => rfl
  | i + 1 => by
    show moA a i + _ = moA b i + _
    rw [h.mo i, h.s, h.m]
theorem SameM.pw {a b : Md} (h : SameM a b) (c : Int) : pwK a c = pwK b c := by unfold pwK; rw [h.s]
theorem SameM.fl {a b : Md} (h : SameM a b) (k : FlP a) : FlP b := ⟨h.eo k.eo, fun s hs => by rw [← h.s] at hs ⊢; exact k.wid s hs, fun i hi => by rw [← h.len] at hi; rw [← (h.at i).2]; exact k.par i hi, fun i hi => by
  rw [← h.m] at hi
  have h1 := k.mem i hi
  unfold MwP at h1 ⊢
  rw [h.s, h.m] at h1; exact h1, by rw [← h.pw]; exact k.ins, by rw [← h.pw]; exact k.outs, by rw [← h.pw, ← h.m, ← h.mo]; exact k.bits⟩
theorem implAdd_ind (D : List Md) (v : Value) (hdp : DesP D) (w0 : World) (b : Nat) : ∀ (f k : Nat) (p : Int) (t : Bool) (P : List Int) (F : Fz) (gs : List As) (uP sv av mv : Value) (ps l : List HP) (w : World), k < f → k < D.length → F.Ok → PoP (D.getD k md0) (!t) P F.ss.length → gs.map asV = F.gs → (∀ w, (bigE ps).holds w → OpsR w gs) → (∀ w, Mem w0 l w → RdsDs w v D) → (∀ w, Mem w0 l w → RdsW w uP 1 P.length (P.map (Value.int .i64))) → Mem w0 (bigE (fbQ b v sv av mv F.ss gs F.ms ps) :: l) w →
    Calls Try.prog 72 #[.pointer (some ⟨b, 0, none⟩), .int .i64 (k : Int), .int .i64 p, uP, .bool t] w (fun e_ w_ => ∃ v_ p_, e_ = .returned v_ ∧ AddB (addF D f k p (!t) P F) b v v_ p_ ∧ Mem w0 (p_ :: l) w_)
  | 0, k, p, t, P, F, gs, uP, sv, av, mv, ps, l, w, hk, _, _, _, _, _, _, _, _ => absurd hk (by omega)
  | f + 1, k, p, t, P, F, gs, uP, sv, av, mv, ps, l, w, hk, hkl, hF, hPo, hgs, hps, hd, hP, hm => implAdd_step D f k b p t P F gs v uP sv av mv ps w0 l w hm hd hP hdp hkl hF hPo hgs hps (fun kx p2 P2 F2 gs2 ux sv2 av2 mv2 ps2 l2 w2 hlt hF2 hPo2 hgs2 hps2 hd2 hu2 hm2 => implAdd_ind D v hdp w0 b f kx p2 false P2 F2 gs2 ux sv2 av2 mv2 ps2 l2 w2 (by omega) (by omega) hF2 hPo2 hgs2 hps2 hd2 hu2 hm2)
theorem fb_nil {w0 w : World} {l : List HP} {b : Nat} {v : Value} (h : Mem w0 (boxE b #[v, .slice none 0 0, .slice none 0 0, .slice none 0 0, .slice none 0 0] 114 :: l) w) : Mem w0 (bigE (fbQ b v (.slice none 0 0) (.slice none 0 0) (.slice none 0 0) [] [] [] []) :: l) w := by
  have h1 := h.perm (List.Perm.refl _)
  have h2 : Mem w0 (bigE [] :: boxE b #[v, .slice none 0 0, .slice none 0 0, .slice none 0 0, .slice none 0 0] 114 :: l) w := Mem.big (ps := []) h1
  have h3 := ((h2.nilRow 94 4).nilRow 89 2).nilRow 38 3
  refine Mem.big (ps := fbQ b v (.slice none 0 0) (.slice none 0 0) (.slice none 0 0) [] [] [] []) (h3.perm ?_)
  exact List.perm_middle (l₁ := [rowE 38 3 (.slice none 0 0) 0 [], rowE 89 2 (.slice none 0 0) 0 [], rowE 94 4 (.slice none 0 0) 0 [], bigE []])
def idN (n : Nat) : List Int := (List.range n).map (fun q : Nat => (q : Int))
theorem idN_at {n : Nat} {x : Int} (h : 0 ≤ x ∧ x < n) : (idN n).getD x.toNat 0 = x := by
  unfold idN
  rw [List.getD_eq_getElem?_getD, List.getElem?_map, List.getElem?_range (by omega)]
  show ((x.toNat : Nat) : Int) = x
  omega
theorem sgF_self {m : Md} (hw : ∀ s, s < m.ss.length → (m.ss.getD s sg0).w ≠ 0) (p : Int) : ∀ i, i ≤ m.ss.length → sgF m p false [] [] i = some (idN i, 0, m.ss.take i)
  | 0, _ => rfl
  | i + 1, hi => by
    have h1 := sgF_self hw p i (by omega)
    rw [sgF_new h1 (fun h => by cases h.1)]
    have e1 : idN (i + 1) = idN i ++ [(i : Int)] := by unfold idN; rw [List.range_succ, List.map_append]; rfl
    have e2 : (m.ss.take i).length = i := by rw [List.length_take]; omega
    have e3 : wdF p (m.ss.getD i sg0) = (m.ss.getD i sg0).w := if_neg (hw i (by omega))
    rw [e1, e2, e3, zec sg0 (show i < m.ss.length by omega)]
theorem mem_getD {α : Type} {l : List α} {x : α} (d : α) (h : x ∈ l) : ∃ i, i < l.length ∧ l.getD i d = x := by
  obtain ⟨i, hi, rfl⟩ := List.mem_iff_getElem.1 h
  exact ⟨i, hi, by rw [List.getD_eq_getElem?_getD, List.getElem?_eq_getElem hi]; rfl⟩
theorem addF_self {m : Md} (h : FlP m) (p : Int) : addF [m] 1 0 p false [] fz0 = some ⟨m.ss, m.gs.map asV, m.ms⟩ := by
  have hs := sgF_self (m := m) h.wid p m.ss.length (Nat.le_refl _)
  rw [List.take_length] at hs
  have hm := h.eo.mod
  have hl := h.eo.2.1.len1
  have e1 : m.gs.map (asF (idN m.ss.length) p) = m.gs.map asV := by
    refine List.map_congr_left (fun g hg => ?_)
    obtain ⟨i, hi, rfl⟩ := mem_getD as0 hg
    obtain ⟨⟨h1, -⟩, h2⟩ : ((0 ≤ (m.gs.getD i as0).t ∧ (m.gs.getD i as0).t < m.ss.length) ∧ _) ∧ OpsP m.ss.length (m.gs.getD i as0).os := ⟨(hm.gs i hi).tgt, (hm.gs i hi).2⟩
    show (_, _) = (_, _)
    congr 1
    · exact idN_at h1
    · have e : (m.gs.getD i as0).os.map (opF (idN m.ss.length) p) = (m.gs.getD i as0).os.map id := by
        refine List.map_congr_left (fun o ho => ?_)
        obtain ⟨j, hj, rfl⟩ := mem_getD oq0 ho
        unfold opF
        rw [if_neg (fun h9 => h.par i hi ⟨j, hj, h9⟩)]
        split
        · rename_i hk
          have h3 : 0 ≤ ((m.gs.getD i as0).os.getD j oq0).a ∧ ((m.gs.getD i as0).os.getD j oq0).a < m.ss.length := by
            rcases (h2.op j hj).2 with ⟨p1, p2, p3⟩ | ⟨p1, p2, p3⟩ | ⟨p1, p2, p3⟩ | ⟨p1, p2, p3, p4, p5, p6⟩
            all_goals omega
          rw [idN_at h3]; rfl
        · rfl
      rw [e, List.map_id]
  have e2 : m.ms.map (mmF (idN m.ss.length)) = m.ms := by
    have e : m.ms.map (mmF (idN m.ss.length)) = m.ms.map id := by
      refine List.map_congr_left (fun x hx => ?_)
      obtain ⟨i, hi, rfl⟩ := mem_getD mm0 hx
      have h1 : MmP m (m.ms.getD i mm0) := hm.ms i hi
      obtain ⟨⟨ha, hd, hw⟩, ho⟩ := h1
      have ho := ho.inn
      unfold mmF
      rw [idN_at ha, idN_at hd, idN_at hw, idN_at ho]; rfl
    rw [e, List.map_id]
  have e3 : ownF m p fz0 (idN m.ss.length, 0, m.ss) = ⟨m.ss, m.gs.map asV, m.ms⟩ := by
    unfold ownF; simp only [List.nil_append]; rw [e1, e2]
  have hok : (ownF m p fz0 (idN m.ss.length, 0, m.ss)).Ok := by
    rw [e3]; exact ⟨hl.1, by show (m.gs.map asV).length ≤ 30; rw [List.length_map]; exact hl.2.1, hl.2.2.2⟩
  have hgo := zfb (D := [m]) (f := 0) (k := 0) (p := p) (c := false) (P := []) (F := fz0) (r := (idN m.ss.length, 0, m.ss)) hs hok
  rw [hgo]
  show insA _ _ _ m.xs _ m.xs.length = _
  rw [h.eo.1]
  show some (ownF m p fz0 (idN m.ss.length, 0, m.ss)) = _
  rw [e3]
theorem FlP.noX {m : Md} (h : FlP m) : m.xs = [] := List.eq_nil_of_length_eq_zero h.eo.1
theorem FlP.self {m : Md} (h : FlP m) : MdF m ⟨m.ss, m.gs.map asV, m.ms⟩ := ⟨rfl, rfl, h.noX, rfl⟩
theorem flz_self {m : Md} (h : FlP m) {p : Int} (hp : 1 ≤ p ∧ p ≤ 4) : FlzP [m] p ⟨m.ss, m.gs.map asV, m.ms⟩ := ⟨h.eo.2.1, hp, addF_self h p⟩
theorem FlzP.fn {D : List Md} {p : Int} {F G : Fz} (h : FlzP D p F) (k : FlzP D p G) : F = G := Option.some.inj (h.2.2.symm.trans k.2.2)
def oneX (iv : Value) : Md := ⟨.slice none 0 0, .slice none 0 0, iv, .slice none 0 0, [], [], [ix0], []⟩
theorem oneX_no (iv : Value) : ¬ FlP (oneX iv) := fun h => by exact absurd (show (1 : Nat) = 0 from h.eo.1) (by decide)
theorem readsSignal_ans (os : List Oq) (s : Int) (v : Value) (w : World) (hv : RdsW w v 3 os.length (os.flatMap oqC)) :
   Calls Try.prog 115 #[v, .int .i64 s] w (Ans w (.bool (pB (RdS os s)))) := by
 have hv9 := sml hv
 refine zca (N := 28) (args := [v, .int .i64 s]) Try.func115 rfl rfl (zbg 1 rfl (zag (zag (reQ 1 rfl (hvQ rfl (lnQ rfl rfl rfl (zaf hv)) (zam 1 rfl (?_)))))))
 refine ntQ (zaz ?_)
 refine lkQ1 (α := Nat) [0, 1, 4, 7, 8] rfl (fun i => []) (fun i => [(9, .int .i64 (i : Int))]) (fun i => i ≤ os.length ∧ ∀ q, q < i → ¬ (((os.getD q oq0).k = 2 ∨ (os.getD q oq0).k = 3) ∧ (os.getD q oq0).a = s)) (fun i => os.length - i) 0 ⟨Nat.zero_le _, fun q hq => absurd hq (by omega)⟩ (saQ rfl) (.slnil) ?_
 intro i hi1
 obtain ⟨hi, hall⟩ := hi1
 refine srQ ?_
 refine zbq rfl rfl rfl rfl rfl rfl (fun h2 => ?_) (fun h2 => ?_)
 ·
  refine ntQ (tcQ rfl (zcv (sbQ (srQ (hvQ rfl (riQ 3 rfl rfl rfl rfl (zaf hv)) ?_)))))
  refine hvQ rfl (zbb (us := [.int .i64 ((os.getD i oq0).k), .int .i64 ((os.getD i oq0).a), .int .i64 ((os.getD i oq0).b)]) rfl rfl rfl rfl (zaf hv) (by omega) rfl (zbr oqC 3 (fun _ => rfl) os oq0 (show i < _ by omega) rfl)) (zdn rfl (zbl (z := .agg #[.int .i64 0, .int .i64 0, .int .i64 0]) rfl rfl) ?_)
  intro b3
  refine zbh (cs' := #[.int .i64 ((os.getD i oq0).k), .int .i64 ((os.getD i oq0).a), .int .i64 ((os.getD i oq0).b)]) (i := 0) (off := 0) (us := [.int .i64 ((os.getD i oq0).k), .int .i64 ((os.getD i oq0).a), .int .i64 ((os.getD i oq0).b)]) rfl rfl rfl rfl rfl rfl rfl (zab rfl (zab rfl (zab rfl zbc))) rfl rfl rfl (ntQ (srQ (hvQ rfl (fdQ 0 rfl rfl rfl) (hvQ rfl (zac rfl rfl rfl (zaa 0 rfl rfl)) ?_))))
  refine zbu rfl rfl rfl rfl rfl rfl (fun h4 => ?_) (fun h4 => ?_)
  ·
   refine zam 6 rfl (hvQ rfl (fdQ 1 rfl rfl rfl) (hvQ rfl (zac rfl rfl rfl (zaa 0 rfl rfl)) (zam 1 rfl ?_)))
   refine zbu rfl rfl rfl rfl rfl rfl (fun h5 => ?_) (fun h5 => ?_)
   ·
    refine zay 1 rfl (zah rfl (zbg 1 rfl ?_))
    refine zao (zad ?_)
    refine zdv ?_
    refine zad (zae ?_)
    exact zav rfl rfl (congrArg _ (zdi ⟨i, by omega, by omega, by omega⟩).symm)
   refine zay 1 rfl (fsQ rfl (zdh (zas (hvQ rfl (vaQ rfl rfl rfl) (enQ 1 rfl ?_)))))
   exact zbs (i + 1) ⟨by omega, fun q hq => by by_cases e : q = i; (subst e; omega); exact hall q (by omega)⟩ (by omega) (saQ rfl) (slQ [] rfl)
  refine zam 1 rfl (hvQ rfl (fdQ 0 rfl rfl rfl) (hvQ rfl (zac rfl rfl rfl (zaa 0 rfl rfl)) ?_))
  refine zbu rfl rfl rfl rfl rfl rfl (fun h6 => ?_) (fun h6 => ?_)
  ·
   refine zam 2 rfl (hvQ rfl (fdQ 1 rfl rfl rfl) (hvQ rfl (zac rfl rfl rfl (zaa 0 rfl rfl)) (zam 1 rfl ?_)))
   refine zbu rfl rfl rfl rfl rfl rfl (fun h7 => ?_) (fun h7 => ?_)
   ·
    refine zay 1 rfl (zah rfl (zbg 1 rfl ?_))
    refine zao (zad ?_)
    refine zdv ?_
    refine zad (zae ?_)
    exact zav rfl rfl (congrArg _ (zdi ⟨i, by omega, by omega, by omega⟩).symm)
   refine zay 1 rfl (fsQ rfl (zdh (zas (hvQ rfl (vaQ rfl rfl rfl) (enQ 1 rfl ?_)))))
   exact zbs (i + 1) ⟨by omega, fun q hq => by by_cases e : q = i; (subst e; omega); exact hall q (by omega)⟩ (by omega) (saQ rfl) (slQ [] rfl)
  refine zay 7 rfl (fsQ rfl (zdh (zas ?_)))
  refine hvQ rfl (vaQ rfl rfl rfl) (enQ 1 rfl ?_)
  exact zbs (i + 1) ⟨by omega, fun q hq => by by_cases e : q = i; (subst e; omega); exact hall q (by omega)⟩ (by omega) (saQ rfl) (slQ [] rfl)
 refine ntQ (fcQ rfl ?_)
 refine zbj (zeb ?_)
 refine zal (zba (zbg 1 rfl ?_))
 exact zao (zav rfl rfl (congrArg _ (zbv (fun hp => by first | (obtain ⟨q, h1, h2, h3⟩ := hp; exact hall q (by omega) ⟨h2, h3⟩))).symm))
theorem hasParam_ans (os : List Oq) (v : Value) (w : World) (hv : RdsW w v 3 os.length (os.flatMap oqC)) :
   Calls Try.prog 73 #[v] w (Ans w (.bool (pB (HpP os)))) := by
 have hv9 := sml hv
 refine zca (N := 15) (args := [v]) Try.func73 rfl rfl (zbg 1 rfl (zag (zag (reQ 1 rfl (hvQ rfl (lnQ rfl rfl rfl (zaf hv)) (zam 1 rfl (?_)))))))
 refine ntQ (zaz ?_)
 refine lkQ1 (α := Nat) [0, 2, 5, 6] rfl (fun i => []) (fun i => [(7, .int .i64 (i : Int))]) (fun i => i ≤ os.length ∧ ∀ q, q < i → (os.getD q oq0).k ≠ 1) (fun i => os.length - i) 0 ⟨Nat.zero_le _, fun q hq => absurd hq (by omega)⟩ (saQ rfl) (.slnil) ?_
 intro i hi1
 obtain ⟨hi, hall⟩ := hi1
 refine srQ ?_
 refine zbq rfl rfl rfl rfl rfl rfl (fun h2 => ?_) (fun h2 => ?_)
 ·
  refine ntQ (tcQ rfl (zcv (sbQ (srQ (hvQ rfl (riQ 3 rfl rfl rfl rfl (zaf hv)) ?_)))))
  refine hvQ rfl (zbb (us := [.int .i64 ((os.getD i oq0).k), .int .i64 ((os.getD i oq0).a), .int .i64 ((os.getD i oq0).b)]) rfl rfl rfl rfl (zaf hv) (by omega) rfl (zbr oqC 3 (fun _ => rfl) os oq0 (show i < _ by omega) rfl)) (zdn rfl (zbl (z := .agg #[.int .i64 0, .int .i64 0, .int .i64 0]) rfl rfl) ?_)
  intro b3
  refine zbh (cs' := #[.int .i64 ((os.getD i oq0).k), .int .i64 ((os.getD i oq0).a), .int .i64 ((os.getD i oq0).b)]) (i := 0) (off := 0) (us := [.int .i64 ((os.getD i oq0).k), .int .i64 ((os.getD i oq0).a), .int .i64 ((os.getD i oq0).b)]) rfl rfl rfl rfl rfl rfl rfl (zab rfl (zab rfl (zab rfl zbc))) rfl rfl rfl (ntQ (srQ (hvQ rfl (fdQ 0 rfl rfl rfl) (hvQ rfl (zac rfl rfl rfl (zaa 0 rfl rfl)) ?_))))
  refine zbu rfl rfl rfl rfl rfl rfl (fun h4 => ?_) (fun h4 => ?_)
  ·
   refine ntQ (zah rfl (zbg 1 rfl ?_))
   refine zao (zad ?_)
   refine zdv ?_
   refine zad (zae ?_)
   exact zav rfl rfl (congrArg _ (zdi ⟨i, by omega, by omega⟩).symm)
  refine ntQ (fsQ rfl (zdh (zas (hvQ rfl (vaQ rfl rfl rfl) (enQ 1 rfl ?_)))))
  exact zbs (i + 1) ⟨by omega, fun q hq => by by_cases e : q = i; (subst e; omega); exact hall q (by omega)⟩ (by omega) (saQ rfl) (slQ [] rfl)
 refine ntQ (fcQ rfl ?_)
 refine zbj (zeb ?_)
 refine zal (zba (zbg 1 rfl ?_))
 exact zao (zav rfl rfl (congrArg _ (zbv (fun hp => by first | (obtain ⟨q, h1, h2⟩ := hp; exact hall q (by omega) h2))).symm))
theorem sumInts_ans (L : List Int) (v : Value) (w : World) (hv : RdsW w v 1 L.length (L.map (Value.int .i64))) (hr : ∀ x ∈ L, 0 ≤ x ∧ x ≤ 4) (hl : L.length ≤ 30) :
   Calls Try.prog 74 #[v] w (Ans w (.int .i64 (sumZ L))) := by
 refine zca (N := 17) (args := [v]) Try.func74 rfl rfl (zbg 1 rfl (zbg 1 rfl (zag ?_)))
 refine zag (reQ 1 rfl (hvQ rfl (lnQ rfl rfl rfl (zaf hv)) (zay 1 rfl (zaz ?_))))
 refine lkQ2 (α := Nat) (β := Int) [0, 2, 6, 7] rfl (fun i c => []) (fun i c => [(3, .int .i64 c), (8, .int .i64 (i : Int))]) (fun i c => i ≤ L.length ∧ c = sumA L i) (fun i c => L.length - i) 0 0 ⟨Nat.zero_le _, rfl⟩ (saQ rfl) (.slnil) ?_
 intro i c hi1
 obtain ⟨hi, hc⟩ := hi1
 have hsr := sumA_rng hr i hi
 have hx4 := fun h9 : i < L.length => hr _ (zbw (d := (0 : Int)) h9)
 refine srQ ?_
 refine zbq rfl rfl rfl rfl rfl rfl (fun h2 => ?_) (fun h2 => ?_)
 ·
  refine ntQ (tcQ rfl (zcv (sbQ (srQ (hvQ rfl (riQ 1 rfl rfl rfl rfl (zaf hv)) (hvQ rfl (liQ rfl rfl rfl (zaf hv)) (zam 1 rfl ?_)))))))
  refine ntQ (zas ?_)
  have hx5 := hx4 (by omega)
  refine zam 2 rfl (hvQ rfl (vaQ rfl rfl rfl) (enQ 1 rfl (zdh (zas (hvQ rfl (vaQ rfl rfl rfl) (enQ 1 rfl ?_))))))
  exact zdd (i + 1) (c + (L.getD i 0)) ⟨by omega, by show _ = sumA L i + L.getD i 0; omega⟩ (by omega) (saQ rfl) (.slnil)
 refine ntQ (fcQ rfl ?_)
 refine zbj (zeb ?_)
 refine zal (zba (zbg 2 rfl ?_))
 exact zao (zav rfl rfl (congrArg (Value.int .i64) (by unfold sumZ; rw [hc, show i = L.length by omega])))
theorem l06Sum_ans (L : List Int) (v : Value) (w : World) (hv : RdsW w v 1 L.length (L.map (Value.int .i64))) (hr : ∀ x ∈ L, 0 ≤ x ∧ x ≤ 4) (hl : L.length ≤ 30) :
   Calls Try.prog 118 #[v] w (Ans w (.int .i64 (sumZ L))) := by
 refine zca (N := 18) (args := [v]) Try.func118 rfl rfl (zbg 1 rfl (zbg 1 rfl (zag ?_)))
 refine zbg 1 rfl (zaz ?_)
 refine lkQ2 (α := Nat) (β := Int) [0, 2] rfl (fun i c => []) (fun i c => [(3, .int .i64 c), (4, .int .i64 (i : Int))]) (fun i c => i ≤ L.length ∧ c = sumA L i) (fun i c => L.length - i) 0 0 ⟨Nat.zero_le _, rfl⟩ (saQ rfl) (.slnil) ?_
 intro i c hi1
 obtain ⟨hi, hc⟩ := hi1
 have hsr := sumA_rng hr i hi
 have hx4 := fun h9 : i < L.length => hr _ (zbw (d := (0 : Int)) h9)
 refine zag (zag (reQ 2 rfl (hvQ rfl (lnQ rfl rfl rfl (zaf hv)) ?_)))
 refine zbq rfl rfl rfl rfl rfl rfl (fun h2 => ?_) (fun h2 => ?_)
 ·
  refine ntQ (zah rfl (zcv (sbQ (zas ?_))))
  have hx5 := hx4 (by omega)
  refine zam 3 rfl (hvQ rfl (riQ 1 rfl rfl rfl rfl (zaf hv)) (hvQ rfl (liQ rfl rfl rfl (zaf hv)) (hvQ rfl (vaQ rfl rfl rfl) (enQ 1 rfl (zdh (reQ 1 rfl (hvQ rfl (vaQ rfl rfl rfl) (zam 1 rfl ?_))))))))
  exact zcu (zdd (i + 1) (c + (L.getD i 0)) ⟨by omega, by show _ = sumA L i + L.getD i 0; omega⟩ (by omega) (saQ rfl) (.slnil))
 refine ntQ (zap rfl ?_)
 refine zbj (zeb ?_)
 refine zal (zba (zbg 2 rfl ?_))
 exact zao (zav rfl rfl (congrArg (Value.int .i64) (by unfold sumZ; rw [hc, show i = L.length by omega])))
theorem zex (m : Md) (c : Int) (w : World) (hr : RdsMd w m) :
   Calls Try.prog 65 #[.agg #[m.sv, m.av, m.iv, m.mv], .int .i64 c] w (Ret w (fun v' post => post = [rowE 3 1 v' ((pwK m c)).length (((pwK m c)).map (Value.int .i64))])) := by
 have hs9 := sml hr.s
 refine zca (N := 30) (args := [.agg #[m.sv, m.av, m.iv, m.mv], .int .i64 c]) Try.func65 rfl rfl (srQ ?_)
 refine zdn rfl (zdm rfl rfl) ?_
 intro b1
 refine zej 3 1 (zay 1 rfl (zfi (hvQ rfl (fdQ 0 rfl rfl rfl) (hvQ rfl (zac rfl rfl rfl (zaa 1 rfl rfl)) (hvQ rfl (lnQ rfl rfl rfl (zaf ((hr).s))) ?_)))))
 refine zdr rfl rfl rfl rfl rfl rfl (fun h3 => ?_) (fun h3 => ?_)
 ·
  refine ntQ (zah rfl (srQ ?_))
  refine zej 3 1 (zay 1 rfl ?_)
  refine zao (zae ?_)
  exact zga (post := [rowE 3 1 (.slice none 0 0) 0 ([])]) rfl rfl (slQ [0] rfl) (by unfold pwK; rw [if_neg (by omega)] <;> rfl)
 refine ntQ (zap rfl (zcv (srQ ?_)))
 refine zej 3 1 (zay 1 rfl (zfi (hvQ rfl (fdQ 0 rfl rfl rfl) (hvQ rfl (zac rfl rfl rfl (zaa 2 rfl rfl)) (hvQ rfl (lnQ rfl rfl rfl (zaf ((hr).s))) (zay 1 rfl ?_))))))
 refine zaz ?_
 refine lkQ3 (α := Nat) (β := Value) (γ := List Int) [0, 1, 2, 4, 11, 13, 14] rfl (fun i gu zs => [rowE 3 1 gu zs.length (zs.map (Value.int .i64)), rowE 3 1 (.slice none 0 0) 0 ([]), boxE b1 #[m.sv, m.av, m.iv, m.mv] 35]) (fun i gu zs => [(5, gu), (15, .int .i64 (i : Int))]) (fun i gu zs => i ≤ m.ss.length ∧ zs = pwA m.ss c i) (fun i gu zs => m.ss.length - i) 0 _ [] ⟨Nat.zero_le _, rfl⟩ (saQ rfl) (pfQ rfl) ?_
 intro i gu zs hi6
 obtain ⟨hi, hz⟩ := hi6
 have hzl : zs.length ≤ i := by rw [hz]; exact pwA_le _ _ _
 refine srQ ?_
 refine zbq rfl rfl rfl rfl rfl rfl (fun h7 => ?_) (fun h7 => ?_)
 ·
  refine ntQ (tcQ rfl (zcv (sbQ (srQ (hvQ rfl (riQ 3 rfl rfl rfl rfl (zaf ((hr).s))) ?_)))))
  refine hvQ rfl (zbb (us := [.int .i64 ((m.ss.getD i sg0).k), .int .i64 ((m.ss.getD i sg0).w), .int .i64 ((m.ss.getD i sg0).i)]) rfl rfl rfl rfl (zaf ((hr).s)) (by omega) rfl (zbr sgC 3 (fun _ => rfl) m.ss sg0 (show i < _ by omega) rfl)) (zdn rfl (zbl (z := .agg #[.int .i64 0, .int .i64 0, .int .i64 0]) rfl rfl) ?_)
  intro b8
  refine zbh (cs' := #[.int .i64 ((m.ss.getD i sg0).k), .int .i64 ((m.ss.getD i sg0).w), .int .i64 ((m.ss.getD i sg0).i)]) (i := 0) (off := 0) (us := [.int .i64 ((m.ss.getD i sg0).k), .int .i64 ((m.ss.getD i sg0).w), .int .i64 ((m.ss.getD i sg0).i)]) rfl rfl rfl rfl rfl rfl rfl (zab rfl (zab rfl (zab rfl zbc))) rfl rfl rfl (ntQ (srQ (hvQ rfl (fdQ 0 rfl rfl rfl) (hvQ rfl (zac rfl rfl rfl (zaa 0 rfl rfl)) (zam 1 rfl ?_)))))
  refine zbu rfl rfl rfl rfl rfl rfl (fun h9 => ?_) (fun h9 => ?_)
  ·
   refine ntQ (zah rfl (reQ 1 rfl (hvQ rfl (fdQ 1 rfl rfl rfl) (hvQ rfl (zac rfl rfl rfl (zaa 0 rfl rfl)) ?_))))
   refine zea rfl (zak (z := .int .i64 0) (s := 1) (cs := ([(m.ss.getD i sg0).w].map (Value.int .i64))) rfl Try.underlying48 rfl (by decide) rfl (by kernel_rfl) rfl) ?_
   intro g10
   refine zcs (i := 2) (z := .int .i64 0) (bytes := 8) rfl rfl rfl rfl Try.underlying48 (by kernel_rfl) rfl rfl rfl rfl (zaj 0 rfl) (zbx _) (by first | omega | (simp; done) | (simp; omega)) (zcc zs ([(m.ss.getD i sg0).w])) (zcw zs ([(m.ss.getD i sg0).w])) (fun _ => rfl) ?_
   intro v11
   refine enQ 1 rfl (zdh (zas (hvQ rfl (vaQ rfl rfl rfl) (enQ 1 rfl ?_))))
   exact zcq (i + 1) v11 (zs ++ ([(m.ss.getD i sg0).w])) ⟨by omega, by rw [hz]; exact pwA_yes (by omega)⟩ (by omega) (saQ rfl) (slQ [2, 0, 0] rfl)
  refine ntQ (fsQ rfl (zdh (zas (hvQ rfl (vaQ rfl rfl rfl) (enQ 1 rfl ?_)))))
  exact zcq (i + 1) gu zs ⟨by omega, hz.trans (pwA_no (by omega))⟩ (by omega) (saQ rfl) (slQ [1, 0, 0] rfl)
 refine ntQ (fcQ rfl ?_)
 refine zbj (zeb ?_)
 refine zal (zba (zbg 2 rfl ?_))
 exact zao (zga (post := [rowE 3 1 gu zs.length (zs.map (Value.int .i64))]) rfl rfl (slQ [0] rfl) (by rw [hz, show i = m.ss.length by omega]; unfold pwK; rw [if_pos (by omega)]))
theorem zet (m : Md) (c : Int) (w : World) (hr : RdsMd w m) :
   Calls Try.prog 114 #[.agg #[m.sv, m.av, m.iv, m.mv], .int .i64 c] w (Ret w (fun v' post => post = [rowE 3 1 v' ((pwK m c)).length (((pwK m c)).map (Value.int .i64))])) := by
 have hs9 := sml hr.s
 refine zca (N := 38) (args := [.agg #[m.sv, m.av, m.iv, m.mv], .int .i64 c]) Try.func114 rfl rfl (srQ ?_)
 refine zdn rfl (zdm rfl rfl) ?_
 intro b1
 refine zay 1 rfl (srQ ?_)
 refine zea rfl (zee (s := 1) rfl Try.underlying48 rfl) ?_
 intro g2
 refine zay 1 rfl (zfi (hvQ rfl (fdQ 0 rfl rfl rfl) (hvQ rfl (zac rfl rfl rfl (zaa 1 rfl rfl)) (hvQ rfl (lnQ rfl rfl rfl (zaf ((hr).s))) ?_))))
 refine zdr rfl rfl rfl rfl rfl rfl (fun h3 => ?_) (fun h3 => ?_)
 ·
  refine ntQ (zah rfl (zbg 2 rfl ?_))
  refine zao (zae ?_)
  exact zga (post := [rowE 3 1 (.slice (some ⟨g2, 0, none⟩) 0 0) 0 ([])]) rfl rfl (slQ [0] rfl) (by unfold pwK; rw [if_neg (by omega)] <;> rfl)
 refine ntQ (zap rfl (zcv (zag (zbg 1 rfl (zaz ?_)))))
 refine lkQ3 (α := Nat) (β := Value) (γ := List Int) [0, 1, 2, 4, 11] rfl (fun i gu zs => [rowE 3 1 gu zs.length (zs.map (Value.int .i64)), boxE b1 #[m.sv, m.av, m.iv, m.mv] 35]) (fun i gu zs => [(5, gu), (6, .int .i64 (i : Int))]) (fun i gu zs => i ≤ m.ss.length ∧ zs = pwA m.ss c i) (fun i gu zs => m.ss.length - i) 0 _ [] ⟨Nat.zero_le _, rfl⟩ (saQ rfl) (pfQ rfl) ?_
 intro i gu zs hi4
 obtain ⟨hi, hz⟩ := hi4
 have hzl : zs.length ≤ i := by rw [hz]; exact pwA_le _ _ _
 refine zag (zag (reQ 1 rfl (hvQ rfl (fdQ 0 rfl rfl rfl) (hvQ rfl (zac rfl rfl rfl (zaa 1 rfl rfl)) (hvQ rfl (lnQ rfl rfl rfl (zaf ((hr).s))) ?_)))))
 refine zbq rfl rfl rfl rfl rfl rfl (fun h5 => ?_) (fun h5 => ?_)
 ·
  refine ntQ (zah rfl (zcv (sbQ (srQ (hvQ rfl (fdQ 0 rfl rfl rfl) (hvQ rfl (zac rfl rfl rfl (zaa 1 rfl rfl)) (zam 1 rfl (hvQ rfl (riQ 3 rfl rfl rfl rfl (zaf ((hr).s))) ?_))))))))
  refine hvQ rfl (zaq (k0 := 0) rfl rfl rfl (zaf ((hr).s)) (by omega)) (hvQ rfl (zan (u := .int .i64 ((m.ss.getD i sg0).k)) rfl rfl rfl (zaf ((hr).s)) ((zbd sgC 3 (fun _ => rfl) m.ss sg0 (show i < _ by omega) (by decide)).trans rfl)) ?_)
  refine zam 1 rfl (zbu rfl rfl rfl rfl rfl rfl (fun h6 => ?_) (fun h6 => ?_))
  ·
   refine ntQ (zah rfl (reQ 1 rfl (hvQ rfl (fdQ 0 rfl rfl rfl) (hvQ rfl (zac rfl rfl rfl (zaa 1 rfl rfl)) (zam 1 rfl (hvQ rfl (riQ 3 rfl rfl rfl rfl (zaf ((hr).s))) (hvQ rfl (zaq (k0 := 1) rfl rfl rfl (zaf ((hr).s)) (by omega)) ?_)))))))
   refine hvQ rfl (zan (u := .int .i64 ((m.ss.getD i sg0).w)) rfl rfl rfl (zaf ((hr).s)) ((zbd sgC 3 (fun _ => rfl) m.ss sg0 (show i < _ by omega) (by decide)).trans rfl)) (zea rfl (zak (z := .int .i64 0) (s := 1) (cs := ([(m.ss.getD i sg0).w].map (Value.int .i64))) rfl Try.underlying48 rfl (by decide) rfl (by kernel_rfl) rfl) ?_)
   intro g7
   refine zcs (i := 1) (z := .int .i64 0) (bytes := 8) rfl rfl rfl rfl Try.underlying48 (by kernel_rfl) rfl rfl rfl rfl (zaj 0 rfl) (zbx _) (by first | omega | (simp; done) | (simp; omega)) (zcc zs ([(m.ss.getD i sg0).w])) (zcw zs ([(m.ss.getD i sg0).w])) (fun _ => rfl) ?_
   intro v8
   refine enQ 1 rfl (zdh (reQ 1 rfl (hvQ rfl (vaQ rfl rfl rfl) (enQ 1 rfl ?_))))
   exact zcq (i + 1) v8 (zs ++ ([(m.ss.getD i sg0).w])) ⟨by omega, by rw [hz]; exact pwA_yes (by omega)⟩ (by omega) (saQ rfl) (slQ [1, 0] rfl)
  refine ntQ (fsQ rfl (zdh (reQ 1 rfl (hvQ rfl (vaQ rfl rfl rfl) (enQ 1 rfl ?_)))))
  exact zcq (i + 1) gu zs ⟨by omega, hz.trans (pwA_no (by omega))⟩ (by omega) (saQ rfl) (pfQ rfl)
 refine ntQ (zap rfl ?_)
 refine zbj (zeb ?_)
 refine zal (zba (zbg 2 rfl ?_))
 exact zao (zga (post := [rowE 3 1 gu zs.length (zs.map (Value.int .i64))]) rfl rfl (slQ [0] rfl) (by rw [hz, show i = m.ss.length by omega]; unfold pwK; rw [if_pos (by omega)]))
theorem implEvalOrder_ret (m : Md) (w : World) (hr : RdsMd w m) :
   Calls Try.prog 66 #[.agg #[m.sv, m.av, m.iv, m.mv]] w (Ret w (fun u_ p_ => ∃ v, u_ = .tuple #[v, .bool (pB (EoP m))] ∧ p_ = [rowE 3 1 v (eoK m).length ((eoK m).map (Value.int .i64))])) := by
 have hs9 := sml hr.s
 have hg9 := sml hr.g
 have hx9 := sml hr.x
 refine zca (N := 101) (args := [.agg #[m.sv, m.av, m.iv, m.mv]]) Try.func66 rfl rfl (srQ ?_)
 refine zdn rfl (zdm rfl rfl) ?_
 intro b1
 refine zej 3 1 (zay 2 rfl (zfi (hvQ rfl (fdQ 2 rfl rfl rfl) (hvQ rfl (zac rfl rfl rfl (zaa 1 rfl rfl)) (hvQ rfl (lnQ rfl rfl rfl (zaf ((hr).x))) ?_)))))
 refine zdr rfl rfl rfl rfl rfl rfl (fun h3 => ?_) (fun h3 => ?_)
 ·
  refine zay 7 rfl (zah rfl (srQ ?_))
  refine zej 3 1 (zay 2 rfl ?_)
  refine zao (zae ?_)
  have hE : ¬ EoP m := fun hp => by first | (have := hp.1; omega) | exact absurd hp.2.1 (by assumption) | exact Can.stop (m := m) (T := zs) (fun e => by have h9 : zs.length = 0 := (by rw [e]; rfl); omega) (fun q hq => hnf q (by omega)) (hp.2.2.sub hzs)
  exact zei (rs := [.tmp 2, .tmp 3]) (vs := [.slice none 0 0, .bool false]) (post := [rowE 3 1 (.slice none 0 0) 0 ([])]) rfl ⟨rfl, rfl, trivial⟩ rfl (slQ [0] rfl) ⟨_, by rw [zbv hE]; rfl, by rw [eoK_no hE]; rfl⟩
 refine zam 1 rfl (hvQ rfl (zax (cs := [m.sv, m.av, m.iv, m.mv]) rfl rfl rfl rfl rfl (zat 1 rfl 0 rfl)) ?_)
 refine zea rfl (zak (z := .agg #[.slice none 0 0, .slice none 0 0, .slice none 0 0, .slice none 0 0]) (s := 4) (cs := [m.sv, m.av, m.iv, m.mv]) rfl Try.underlying24 rfl (by decide) rfl (by kernel_rfl) rfl) ?_
 intro g5
 refine hvQ rfl (zbk (cs := #[.slice (some ⟨g5, 0, none⟩) 1 1]) rfl rfl rfl) (zem rfl (zaw rfl rfl (fun w hm => zbf (implDesignOk_ans [m] (.slice (some ⟨g5, 0, none⟩) 1 1) w ⟨zaj 0 rfl w hm, fun m9 h9 => by obtain rfl := List.mem_singleton.1 h9; exact hr.below hm.bel⟩))) ?_)
 refine zbm (fun h6 => ?_) (fun h6 => ?_)
 ·
  have h6p := zes h6
  refine zay 2 rfl (zap rfl (zcv (srQ ?_)))
  have hdes : DesP [m] := by assumption
  have hgs : ∀ i, i < m.gs.length → AsP m (m.gs.getD i as0) := fun i hi => hdes.gs1 hi
  obtain ⟨hl1, hl2, hl3, hl4⟩ := hdes.len1
  refine zej 3 1 (zam 1 rfl ?_)
  refine zej 3 1 (zay 1 rfl (zfi (hvQ rfl (fdQ 1 rfl rfl rfl) (hvQ rfl (zac rfl rfl rfl (zaa 4 rfl rfl)) (hvQ rfl (lnQ rfl rfl rfl (zaf ((hr).g))) (zay 1 rfl ?_))))))
  refine zaz ?_
  refine lkQ3 (α := Nat) (β := Value) (γ := List Int) [0, 1, 2, 3, 5, 24, 26, 27] rfl (fun i gt zs => [rowE 3 1 (.slice none 0 0) 0 ([]), rowE 3 1 gt zs.length (zs.map (Value.int .i64)), rowE 35 4 (.slice (some ⟨g5, 0, none⟩) 1 1) 1 ([m.sv, m.av, m.iv, m.mv]), rowE 3 1 (.slice none 0 0) 0 ([]), boxE b1 #[m.sv, m.av, m.iv, m.mv] 35]) (fun i gt zs => [(4, gt), (28, .int .i64 (i : Int))]) (fun i gt zs => i ≤ m.gs.length ∧ zs = todoA m i) (fun i gt zs => m.gs.length - i) 0 _ [] ⟨Nat.zero_le _, rfl⟩ (saQ rfl) (pfQ rfl) ?_
  intro i gt zs hi9
  obtain ⟨hi, hz⟩ := hi9
  have hzl : zs.length ≤ i := by rw [hz]; exact todoA_le _ _
  refine srQ ?_
  refine zbq rfl rfl rfl rfl rfl rfl (fun h10 => ?_) (fun h10 => ?_)
  ·
   refine ntQ (tcQ rfl (zcv (sbQ (zag (reQ 1 rfl (hvQ rfl (riQ 2 rfl rfl rfl rfl (zaf ((hr).g))) ?_))))))
   refine hvQ rfl (zbb (us := [.int .i64 ((m.gs.getD i as0).t), (m.gs.getD i as0).ov]) rfl rfl rfl rfl (zaf ((hr).g)) (by omega) rfl (zbr asC 2 (fun _ => rfl) m.gs as0 (show i < _ by omega) rfl)) (zdn rfl (zbl (z := .agg #[.int .i64 0, .slice none 0 0]) rfl rfl) ?_)
   intro b11
   refine zam 1 rfl (zbh (cs' := #[.int .i64 ((m.gs.getD i as0).t), (m.gs.getD i as0).ov]) (i := 0) (off := 0) (us := [.int .i64 ((m.gs.getD i as0).t), (m.gs.getD i as0).ov]) rfl rfl rfl rfl rfl rfl rfl (zab rfl (zab (hr.o.at (k := i) (by omega)).one zbc)) rfl rfl rfl ?_)
   refine ntQ (srQ ?_)
   have htg := (hgs i (by omega)).tgt
   refine hvQ rfl (fdQ 0 rfl rfl rfl) (hvQ rfl (zac rfl rfl rfl (zaa 5 rfl rfl)) (hvQ rfl (fdQ 0 rfl rfl rfl) (hvQ rfl (zac rfl rfl rfl (zaa 0 rfl rfl)) (hvQ rfl (riQ 3 rfl rfl rfl rfl (zaf ((hr).s))) (hvQ rfl (zaq (k0 := 0) rfl rfl rfl (zaf ((hr).s)) (by omega)) ?_)))))
   refine hvQ rfl (zan (u := .int .i64 ((m.ss.getD (((m.gs.getD i as0).t).toNat) sg0).k)) rfl rfl rfl (zaf ((hr).s)) ((zbd sgC 3 (fun _ => rfl) m.ss sg0 (show ((m.gs.getD i as0).t).toNat < _ by omega) (by decide)).trans rfl)) (zfq rfl rfl rfl rfl rfl rfl (fun h12 => ?_) (fun h12 => ?_))
   ·
    refine ntQ (zah rfl (reQ 2 rfl ?_))
    refine zea rfl (zak (z := .int .i64 0) (s := 1) (cs := ([(i : Int)].map (Value.int .i64))) rfl Try.underlying48 rfl (by decide) rfl (by kernel_rfl) rfl) ?_
    intro g13
    refine zcs (i := 3) (z := .int .i64 0) (bytes := 8) rfl rfl rfl rfl Try.underlying48 (by kernel_rfl) rfl rfl rfl rfl (zaj 0 rfl) (zbx _) (by first | omega | (simp; done) | (simp; omega)) (zcc zs ([(i : Int)])) (zcw zs ([(i : Int)])) (fun _ => rfl) ?_
    intro v14
    refine enQ 1 rfl (zdh (zas (hvQ rfl (vaQ rfl rfl rfl) (enQ 1 rfl ?_))))
    exact zcq (i + 1) v14 (zs ++ ([(i : Int)])) ⟨by omega, by rw [hz]; exact todoA_yes (by omega)⟩ (by omega) (saQ rfl) (slQ [2, 0, 0, 0, 0] rfl)
   refine ntQ (fsQ rfl (zdh (zas (hvQ rfl (vaQ rfl rfl rfl) (enQ 1 rfl ?_)))))
   exact zcq (i + 1) gt zs ⟨by omega, hz.trans (todoA_no (by omega))⟩ (by omega) (saQ rfl) (slQ [1, 0, 0, 0, 0] rfl)
  refine ntQ (fcQ rfl ?_)
  refine zbj (zeb ?_)
  refine zal (zba (sbQ ?_))
  refine lkQ4 (α := Value) (β := List Int) (γ := Value) (δ := List Int) [0, 1, 2, 3, 24, 26, 27, 28, 29] rfl (fun gu zs go ys => [rowE 3 1 go ys.length (ys.map (Value.int .i64)), rowE 3 1 gu zs.length (zs.map (Value.int .i64)), rowE 35 4 (.slice (some ⟨g5, 0, none⟩) 1 1) 1 ([m.sv, m.av, m.iv, m.mv]), rowE 3 1 (.slice none 0 0) 0 ([]), boxE b1 #[m.sv, m.av, m.iv, m.mv] 35]) (fun gu zs go ys => [(4, gu), (5, go)]) (fun gu zs go ys => (∀ x ∈ zs, x ∈ (todoA m m.gs.length)) ∧ (Can m zs → Can m (todoA m m.gs.length)) ∧ ys ++ ordK m zs = ordK m (todoA m m.gs.length) ∧ ys.length + zs.length ≤ 30) (fun gu zs go ys => zs.length) _ zs _ [] (by have e9 : i = m.gs.length := (by omega); rw [e9] at hz; rw [hz] at hzl ⊢; exact ⟨fun x hx => hx, fun h => h, rfl, by simp only [List.length_nil]; omega⟩) (saQ rfl) (pfQ rfl) ?_
  intro gu zs go ys hi15
  obtain ⟨hzs, hbk, hod, hln⟩ := hi15
  have hin : ∀ x ∈ zs, 0 ≤ x ∧ x < m.gs.length := fun x hx => by obtain ⟨j, h1, -, rfl⟩ := todoA_mem.1 (hzs x hx); omega
  refine zag (zag (reQ 1 rfl (hvQ rfl (lnQ rfl rfl rfl (zaj 1 rfl)) ?_)))
  refine zdr rfl rfl rfl rfl rfl rfl (fun h16 => ?_) (fun h16 => ?_)
  ·
   refine ntQ (zah rfl (zcv (zaz (zbg 1 rfl (zag ?_)))))
   refine zag (reQ 1 rfl (hvQ rfl (lnQ rfl rfl rfl (zaj 1 rfl)) (zay 1 rfl (zaz ?_))))
   refine lkQ1 (α := Nat) [0, 1, 2, 3, 4, 5, 8, 24, 26, 27, 28, 29, 48, 49, 50] rfl (fun k => [rowE 3 1 go ys.length (ys.map (Value.int .i64)), rowE 3 1 gu zs.length (zs.map (Value.int .i64)), rowE 35 4 (.slice (some ⟨g5, 0, none⟩) 1 1) 1 ([m.sv, m.av, m.iv, m.mv]), rowE 3 1 (.slice none 0 0) 0 ([]), boxE b1 #[m.sv, m.av, m.iv, m.mv] 35]) (fun k => [(51, .int .i64 (k : Int))]) (fun k => k ≤ zs.length ∧ ∀ q, q < k → ¬ FreeP m zs (zs.getD q 0)) (fun k => zs.length - k) 0 ⟨Nat.zero_le _, fun q hq => absurd hq (by omega)⟩ (saQ rfl) (pfQ rfl) ?_
   intro k hi17
   obtain ⟨hk, hnf⟩ := hi17
   refine srQ ?_
   refine zbq rfl rfl rfl rfl rfl rfl (fun h18 => ?_) (fun h18 => ?_)
   ·
    refine ntQ (tcQ rfl (zcv (sbQ (srQ ?_))))
    have hkz := hin _ (zbw (d := (0 : Int)) (show k < zs.length by omega))
    refine zam 1 rfl (hvQ rfl (riQ 1 rfl rfl rfl rfl (zaj 1 rfl)) (hvQ rfl (liQ rfl rfl rfl (zaj 1 rfl)) (zay 2 rfl (zbg 1 rfl (zag ?_)))))
    refine zag (reQ 1 rfl (hvQ rfl (lnQ rfl rfl rfl (zaj 1 rfl)) (zay 1 rfl (zaz ?_))))
    refine lkQ2 (α := Nat) (β := Bool) [0, 1, 2, 3, 4, 5, 8, 9, 10, 24, 26, 27, 28, 29, 48, 49, 50, 51, 52, 56, 57] rfl (fun j c => [rowE 3 1 go ys.length (ys.map (Value.int .i64)), rowE 3 1 gu zs.length (zs.map (Value.int .i64)), rowE 35 4 (.slice (some ⟨g5, 0, none⟩) 1 1) 1 ([m.sv, m.av, m.iv, m.mv]), rowE 3 1 (.slice none 0 0) 0 ([]), boxE b1 #[m.sv, m.av, m.iv, m.mv] 35]) (fun j c => [(11, .bool c), (58, .int .i64 (j : Int))]) (fun j c => j ≤ zs.length ∧ c = frB m zs (zs.getD k 0) j) (fun j c => zs.length - j) 0 true ⟨Nat.zero_le _, frB_0.symm⟩ (saQ rfl) (pfQ rfl) ?_
    intro j c hi19
    obtain ⟨hj, hcf⟩ := hi19
    refine srQ ?_
    refine zbq rfl rfl rfl rfl rfl rfl (fun h20 => ?_) (fun h20 => ?_)
    ·
     refine ntQ (tcQ rfl (zcv (sbQ (srQ ?_))))
     have hjz := hin _ (zbw (d := (0 : Int)) (show j < zs.length by omega))
     refine hvQ rfl (riQ 1 rfl rfl rfl rfl (zaj 1 rfl)) (hvQ rfl (liQ rfl rfl rfl (zaj 1 rfl)) (zay 1 rfl ?_))
     rcases Bool.eq_false_or_eq_true (c) with hb21 | hb21
     ·
      have hfr : j = zs.length → frB m zs (zs.getD k 0) zs.length = true := fun e9 => by rw [← e9, ← hcf]; exact hb21
      rcases Bool.eq_false_or_eq_true (pB (RdS (m.gs.getD (zs.getD k 0).toNat as0).os ((m.gs.getD ((zs.getD j 0).toNat) as0).t))) with hb22 | hb22
      ·
       have hb22p := zes hb22
       refine zbz 17 [[], [0], [1], [1, 2], [1], [1, 3, 4], [1, 5], [1, 6], [1], [1, 8], [1], [1, 9, 10], [1, 11], [1, 12], [1, 7, 13], [1, 14], [1, 15]] [62, 63, 64, 65, 66, 67, 68, 69, 70, 71, 72, 73, 74, 75, 76, 77, 78] [.bool true, .bool true, .pointer (some ⟨b1, 0 + 1, none⟩), m.av, .int .i64 (zs.getD k 0), elP m.av ((zs.getD k 0).toNat * 2), elP m.av ((zs.getD k 0).toNat * 2 + 1), (m.gs.getD ((zs.getD k 0).toNat) as0).ov, .pointer (some ⟨b1, 0 + 1, none⟩), m.av, .int .i64 (zs.getD j 0), elP m.av ((zs.getD j 0).toNat * 2), elP m.av ((zs.getD j 0).toNat * 2 + 0), .int .i64 ((m.gs.getD ((zs.getD j 0).toNat) as0).t), .bool true, .bool false, .bool false] (by kernel_rfl) rfl ?_ ?_
       ·
        exact ⟨.inl ⟨rfl, zdl (zau rfl) hb21⟩, iaQ rfl (zau rfl) rfl, iaQ rfl (fdQ 1 rfl rfl rfl) rfl, iaQ rfl (zac rfl rfl rfl (zaa 4 rfl rfl)) rfl, iaQ rfl (zau rfl) rfl, iaQ rfl (riQ 2 rfl rfl rfl rfl (zaf ((hr).g))) rfl, iaQ rfl (zaq (k0 := 1) rfl rfl rfl (zaf ((hr).g)) (by omega)) rfl, iaQ rfl (zan (u := (m.gs.getD ((zs.getD k 0).toNat) as0).ov) rfl rfl rfl (zaf ((hr).g)) ((zbd asC 2 (fun _ => rfl) m.gs as0 (show (zs.getD k 0).toNat < _ by omega) (by decide)).trans rfl)) rfl, iaQ rfl (fdQ 1 rfl rfl rfl) rfl, iaQ rfl (zac rfl rfl rfl (zaa 4 rfl rfl)) rfl, iaQ rfl (zau rfl) rfl, iaQ rfl (riQ 2 rfl rfl rfl rfl (zaf ((hr).g))) rfl, iaQ rfl (zaq (k0 := 0) rfl rfl rfl (zaf ((hr).g)) (by omega)) rfl, iaQ rfl (zan (u := .int .i64 ((m.gs.getD ((zs.getD j 0).toNat) as0).t)) rfl rfl rfl (zaf ((hr).g)) ((zbd asC 2 (fun _ => rfl) m.gs as0 (show (zs.getD j 0).toNat < _ by omega) (by decide)).trans rfl)) rfl, .inl ⟨rfl, rq_cb (zaw rfl rfl (fun w hm => zbf (readsSignal_ans (m.gs.getD (zs.getD k 0).toNat as0).os ((m.gs.getD ((zs.getD j 0).toNat) as0).t) _ w ((hr.o.at (by omega)).below hm.bel)))) hb22⟩, iaQ rfl (zau rfl) rfl, iaQ rfl (zau rfl) rfl, trivial⟩
       simp only [List.drop_succ_cons, List.drop_zero]
       refine enQ 1 rfl (zdh (zas (hvQ rfl (vaQ rfl rfl rfl) (enQ 1 rfl ?_))))
       exact zdd (j + 1) false ⟨by omega, (by first | exact (frB_no (hcf.symm.trans (by assumption))).symm | exact (frB_f (by assumption)).symm)⟩ (by omega) (saQ rfl) (pfQ rfl)
      have hb22p := zdt hb22
      refine zbz 17 [[], [0], [1], [1, 2], [1], [1, 3, 4], [1, 5], [1, 6], [1], [1, 8], [1], [1, 9, 10], [1, 11], [1, 12], [1, 7, 13], [1, 14], [1, 15]] [62, 63, 64, 65, 66, 67, 68, 69, 70, 71, 72, 73, 74, 75, 76, 77, 78] [.bool true, .bool true, .pointer (some ⟨b1, 0 + 1, none⟩), m.av, .int .i64 (zs.getD k 0), elP m.av ((zs.getD k 0).toNat * 2), elP m.av ((zs.getD k 0).toNat * 2 + 1), (m.gs.getD ((zs.getD k 0).toNat) as0).ov, .pointer (some ⟨b1, 0 + 1, none⟩), m.av, .int .i64 (zs.getD j 0), elP m.av ((zs.getD j 0).toNat * 2), elP m.av ((zs.getD j 0).toNat * 2 + 0), .int .i64 ((m.gs.getD ((zs.getD j 0).toNat) as0).t), .bool false, .bool true, .bool true] (by kernel_rfl) rfl ?_ ?_
      ·
       exact ⟨.inl ⟨rfl, zdl (zau rfl) hb21⟩, iaQ rfl (zau rfl) rfl, iaQ rfl (fdQ 1 rfl rfl rfl) rfl, iaQ rfl (zac rfl rfl rfl (zaa 4 rfl rfl)) rfl, iaQ rfl (zau rfl) rfl, iaQ rfl (riQ 2 rfl rfl rfl rfl (zaf ((hr).g))) rfl, iaQ rfl (zaq (k0 := 1) rfl rfl rfl (zaf ((hr).g)) (by omega)) rfl, iaQ rfl (zan (u := (m.gs.getD ((zs.getD k 0).toNat) as0).ov) rfl rfl rfl (zaf ((hr).g)) ((zbd asC 2 (fun _ => rfl) m.gs as0 (show (zs.getD k 0).toNat < _ by omega) (by decide)).trans rfl)) rfl, iaQ rfl (fdQ 1 rfl rfl rfl) rfl, iaQ rfl (zac rfl rfl rfl (zaa 4 rfl rfl)) rfl, iaQ rfl (zau rfl) rfl, iaQ rfl (riQ 2 rfl rfl rfl rfl (zaf ((hr).g))) rfl, iaQ rfl (zaq (k0 := 0) rfl rfl rfl (zaf ((hr).g)) (by omega)) rfl, iaQ rfl (zan (u := .int .i64 ((m.gs.getD ((zs.getD j 0).toNat) as0).t)) rfl rfl rfl (zaf ((hr).g)) ((zbd asC 2 (fun _ => rfl) m.gs as0 (show (zs.getD j 0).toNat < _ by omega) (by decide)).trans rfl)) rfl, .inl ⟨rfl, rq_cb (zaw rfl rfl (fun w hm => zbf (readsSignal_ans (m.gs.getD (zs.getD k 0).toNat as0).os ((m.gs.getD ((zs.getD j 0).toNat) as0).t) _ w ((hr.o.at (by omega)).below hm.bel)))) hb22⟩, iaQ rfl (zau rfl) rfl, iaQ rfl (zau rfl) rfl, trivial⟩
      simp only [List.drop_succ_cons, List.drop_zero]
      refine enQ 1 rfl (zdh (zas (hvQ rfl (vaQ rfl rfl rfl) (enQ 1 rfl ?_))))
      exact zdd (j + 1) true ⟨by omega, (frB_t (hcf.symm.trans (by assumption)) (by assumption)).symm⟩ (by omega) (saQ rfl) (pfQ rfl)
     have hfr : j = zs.length → frB m zs (zs.getD k 0) zs.length = false := fun e9 => by rw [← e9, ← hcf]; exact hb21
     refine zbz 17 [[], [0], [1], [1], [1], [1], [1], [1], [1], [1], [1], [1], [1], [1], [1], [1], [1, 15]] [62, 63, 64, 65, 66, 67, 68, 69, 70, 71, 72, 73, 74, 75, 76, 77, 78] [.bool false, .bool false, undef, undef, undef, undef, undef, undef, undef, undef, undef, undef, undef, undef, undef, undef, .bool false] (by kernel_rfl) rfl ?_ ?_
     ·
      exact ⟨.inl ⟨rfl, zdl (zau rfl) hb21⟩, iaQ rfl (zau rfl) rfl, .inr ⟨rfl, rfl⟩, .inr ⟨rfl, rfl⟩, .inr ⟨rfl, rfl⟩, .inr ⟨rfl, rfl⟩, .inr ⟨rfl, rfl⟩, .inr ⟨rfl, rfl⟩, .inr ⟨rfl, rfl⟩, .inr ⟨rfl, rfl⟩, .inr ⟨rfl, rfl⟩, .inr ⟨rfl, rfl⟩, .inr ⟨rfl, rfl⟩, .inr ⟨rfl, rfl⟩, .inr ⟨rfl, rfl⟩, .inr ⟨rfl, rfl⟩, iaQ rfl (zau rfl) rfl, trivial⟩
     simp only [List.drop_succ_cons, List.drop_zero]
     refine enQ 1 rfl (zdh (zas (hvQ rfl (vaQ rfl rfl rfl) (enQ 1 rfl ?_))))
     exact zdd (j + 1) false ⟨by omega, (by first | exact (frB_no (hcf.symm.trans (by assumption))).symm | exact (frB_f (by assumption)).symm)⟩ (by omega) (saQ rfl) (pfQ rfl)
    refine ntQ (fcQ rfl ?_)
    refine zbj (zeb ?_)
    refine zal (zba (zag (reQ 1 rfl ?_)))
    refine zbm (fun h23 => ?_) (fun h23 => ?_)
    ·
     have hfr : j = zs.length → frB m zs (zs.getD k 0) zs.length = true := fun e9 => by rw [← e9, ← hcf]; exact h23
     refine ntQ (zah rfl (zbg 2 rfl ?_))
     refine zbj (hq_block_past rfl ?_)
     refine zeb ?_
     refine zal (zba (zag (zag (reQ 1 rfl ?_))))
     refine zbq rfl rfl rfl rfl rfl rfl (fun h24 => absurd h24 (by omega)) (fun h24 => ?_)
     refine ntQ (zap rfl (zcv (zag (reQ 3 rfl (hvQ rfl (riQ 1 rfl rfl rfl rfl (zaj 1 rfl)) (hvQ rfl (liQ rfl rfl rfl (zaj 1 rfl)) ?_))))))
     refine zea rfl (zak (z := .int .i64 0) (s := 1) (cs := ([zs.getD k 0].map (Value.int .i64))) rfl Try.underlying48 rfl (by decide) rfl (by kernel_rfl) rfl) ?_
     intro g25
     refine zcs (i := 1) (z := .int .i64 0) (bytes := 8) rfl rfl rfl rfl Try.underlying48 (by kernel_rfl) rfl rfl rfl rfl (zaj 0 rfl) (zbx _) (by first | omega | (simp; done) | (simp; omega)) (zcc ys ([zs.getD k 0])) (zcw ys ([zs.getD k 0])) (fun _ => rfl) ?_
     intro v26
     refine zay 1 rfl ?_
     refine zbz 7 [[], [], [0, 1], [], [], [4], [3, 5]] [92, 93, 94, 95, 96, 97, 98] [gu, .int .i64 (k : Int), slV gu 0 ((k : Int)).toNat 1, gu, .int .i64 (k : Int), .int .i64 ((k : Int) + 1), slV gu ((k : Int) + 1).toNat zs.length 1] (by kernel_rfl) rfl ?_ ?_
     ·
      exact ⟨iaQ rfl (zau rfl) rfl, iaQ rfl (zau rfl) rfl, iaQ rfl (rv_slH rfl Try.underlying48 rfl rfl rfl (zaj 2 rfl) (by omega) (by omega)) rfl, iaQ rfl (zau rfl) rfl, iaQ rfl (zau rfl) rfl, iaQ rfl (vaQ rfl rfl rfl) rfl, iaQ rfl (rv_slL rfl Try.underlying48 rfl rfl rfl (zaj 2 rfl) (by omega) (by omega)) rfl, trivial⟩
     simp only [List.drop_succ_cons, List.drop_zero]
     refine hl_delete (i := 2) (k := ((k : Int)).toNat) (z := .int .i64 0) (bytes := 8) (n' := (zs.eraseIdx (((k : Int)).toNat)).length) (xs' := ((zs.eraseIdx (((k : Int)).toNat)).map (Value.int .i64))) (L := fun v27 => [rowE 3 1 (.slice (some ⟨g25, 0, none⟩) 1 1) 1 ([zs.getD k 0].map (Value.int .i64)), rowE 3 1 v26 ((ys ++ ([zs.getD k 0])).length) ((ys ++ ([zs.getD k 0])).map (Value.int .i64)), rowE 3 1 v27 ((zs.eraseIdx (((k : Int)).toNat)).length) ((zs.eraseIdx (((k : Int)).toNat)).map (Value.int .i64)), rowE 35 4 (.slice (some ⟨g5, 0, none⟩) 1 1) 1 ([m.sv, m.av, m.iv, m.mv]), rowE 3 1 (.slice none 0 0) 0 ([]), boxE b1 #[m.sv, m.av, m.iv, m.mv] 35]) rfl rfl rfl rfl Try.underlying48 rfl rfl rfl rfl rfl (by omega) (zbx _) (by omega) (List.length_eraseIdx_of_lt (by omega)).symm (del_map zs (by omega)) (fun _ => rfl) (fun v27 => ?_)
     refine enQ 1 rfl (zcr ?_)
     exact zdq _ (zs.eraseIdx (((k : Int)).toNat)) _ (ys ++ ([zs.getD k 0])) ⟨fun x hx => hzs x (mem_of_eraseIdx hx), fun h => hbk (Can.back (by omega) (frB_yes (hfr (by omega))) h), by rw [← hod, ord_step (by omega) (frB_yes (hfr (by omega))) hnf]; simp, by rw [List.length_append, List.length_eraseIdx_of_lt (by omega)]; simp only [List.length_singleton]; omega⟩ (by rw [List.length_eraseIdx_of_lt (by omega)]; omega) (saQ rfl) (slQ [1, 0, 0, 0, 0] rfl)
    have hfr : j = zs.length → frB m zs (zs.getD k 0) zs.length = false := fun e9 => by rw [← e9, ← hcf]; exact h23
    refine ntQ (fsQ rfl (zdh (zas (hvQ rfl (vaQ rfl rfl rfl) (enQ 1 rfl ?_)))))
    exact zbs (k + 1) ⟨by omega, fun q hq => by by_cases e : q = k; (subst e; exact frB_nn (hfr (by omega))); exact hnf q (by omega)⟩ (by omega) (saQ rfl) (pfQ rfl)
   refine ntQ (fcQ rfl ?_)
   refine zbj (zeb ?_)
   refine zal (zba (zag (zag (reQ 1 rfl ?_))))
   refine zbq rfl rfl rfl rfl rfl rfl (fun h28 => ?_) (fun h28 => absurd h28 (by omega))
   refine ntQ (zah rfl (srQ ?_))
   refine zej 3 1 (zay 2 rfl ?_)
   refine zao (zae ?_)
   refine zad (zae ?_)
   refine zad (zae ?_)
   have hE : ¬ EoP m := fun hp => by first | (have := hp.1; omega) | exact absurd hp.2.1 (by assumption) | exact Can.stop (m := m) (T := zs) (fun e => by have h9 : zs.length = 0 := (by rw [e]; rfl); omega) (fun q hq => hnf q (by omega)) (hp.2.2.sub hzs)
   exact zei (rs := [.tmp 2, .tmp 3]) (vs := [.slice none 0 0, .bool false]) (post := [rowE 3 1 (.slice none 0 0) 0 ([])]) rfl ⟨rfl, rfl, trivial⟩ rfl (slQ [0] rfl) ⟨_, by rw [zbv hE]; rfl, by rw [eoK_no hE]; rfl⟩
  refine ntQ (zap rfl ?_)
  refine zbj (zeb ?_)
  refine zal (zba (zbg 3 rfl ?_))
  refine zao ?_
  have hz0 : zs = [] := List.eq_nil_of_length_eq_zero (by omega)
  have hE : EoP m := ⟨by omega, hdes, hbk (by rw [hz0]; exact Can.nil m)⟩
  have hys : ys = eoK m := by rw [eoK_yes hE, ← hod, hz0, ord_nil, List.append_nil]
  exact zei (rs := [.tmp 2, .tmp 3]) (vs := [go, .bool true]) (post := [rowE 3 1 go ys.length (ys.map (Value.int .i64))]) rfl ⟨rfl, rfl, trivial⟩ rfl (slQ [0] rfl) ⟨_, by rw [zdi hE]; rfl, by rw [hys]⟩
 have h6p := zdt h6
 refine zay 2 rfl (zah rfl (srQ ?_))
 refine zej 3 1 (zay 2 rfl ?_)
 refine zao (zae ?_)
 have hE : ¬ EoP m := fun hp => by first | (have := hp.1; omega) | exact absurd hp.2.1 (by assumption) | exact Can.stop (m := m) (T := zs) (fun e => by have h9 : zs.length = 0 := (by rw [e]; rfl); omega) (fun q hq => hnf q (by omega)) (hp.2.2.sub hzs)
 exact zei (rs := [.tmp 2, .tmp 3]) (vs := [.slice none 0 0, .bool false]) (post := [rowE 3 1 (.slice none 0 0) 0 ([])]) rfl ⟨rfl, rfl, trivial⟩ rfl (slQ [0] rfl) ⟨_, by rw [zbv hE]; rfl, by rw [eoK_no hE]; rfl⟩
theorem DesP.sg1 {m : Md} (h : DesP [m]) {i : Nat} (hi : i < m.ss.length) : SgP (m.ss.getD i sg0) := (h.2 0 (by simp)).sg i hi
theorem DesP.ms1 {m : Md} (h : DesP [m]) {i : Nat} (hi : i < m.ms.length) : MmP m (m.ms.getD i mm0) := (h.2 0 (by simp)).ms i hi
theorem pwK_rng {m : Md} (h : DesP [m]) (c : Int) : ∀ x ∈ pwK m c, 0 ≤ x ∧ x ≤ 4 := fun x hx => by
  unfold pwK at hx; split at hx
  · exact pwA_rng (fun q hq => (h.sg1 hq).2.1) _ (Nat.le_refl _) x hx
  · cases hx
theorem sumZ_rng {m : Md} (h : DesP [m]) (c : Int) : 0 ≤ sumZ (pwK m c) ∧ sumZ (pwK m c) ≤ 120 := by
  have h1 := sumA_rng (pwK_rng h c) _ (Nat.le_refl _)
  have h2 := pwK_le m c
  unfold sumZ; omega
theorem moA_rng {m : Md} (h : DesP [m]) : ∀ j, j ≤ m.ms.length → 0 ≤ moA m j ∧ moA m j ≤ 4 * j
  | 0, _ => ⟨Int.le_refl _, Int.le_refl _⟩
  | j + 1, hj => by
    have h1 := moA_rng h j (by omega)
    have h2 := (h.ms1 (show j < m.ms.length by omega)).2.inn
    have h3 := (h.sg1 (i := (m.ms.getD j mm0).o.toNat) (by have := h2.1; have := h2.2; omega)).2.1
    show 0 ≤ moA m j + _ ∧ moA m j + _ ≤ _
    omega
theorem memI {m : Md} (h : DesP [m]) {i : Nat} (hi : i < m.ms.length) : ((0 ≤ (m.ms.getD i mm0).a ∧ (m.ms.getD i mm0).a < m.ss.length) ∧ (0 ≤ (m.ms.getD i mm0).d ∧ (m.ms.getD i mm0).d < m.ss.length) ∧ 0 ≤ (m.ms.getD i mm0).w ∧ (m.ms.getD i mm0).w < m.ss.length) ∧ (0 ≤ (m.ms.getD i mm0).o ∧ (m.ms.getD i mm0).o < m.ss.length) ∧ 0 ≤ (m.ss.getD (m.ms.getD i mm0).o.toNat sg0).w ∧ (m.ss.getD (m.ms.getD i mm0).o.toNat sg0).w ≤ 4 := by
  have h1 := h.ms1 hi
  have h2 := h1.2.inn
  have h3 := (h.sg1 (i := (m.ms.getD i mm0).o.toNat) (by have := h2.1; have := h2.2; omega)).2.1
  exact ⟨h1.1, h2, h3⟩
theorem zfs (m : Md) (w : World) (hr : RdsMd w m) :
   Calls Try.prog 29 #[.agg #[m.sv, m.av, m.iv, m.mv]] w (Ans w (.bool (pB (FlP m)))) := by
 have hs9 := sml hr.s
 have hg9 := sml hr.g
 have hx9 := sml hr.x
 have hm9 := sml hr.m
 refine zca (N := 110) (args := [.agg #[m.sv, m.av, m.iv, m.mv]]) Try.func29 rfl rfl (srQ ?_)
 refine zdn rfl (zdm rfl rfl) ?_
 intro b1
 refine zay 1 rfl (srQ (hvQ rfl (zax (cs := [m.sv, m.av, m.iv, m.mv]) rfl rfl rfl rfl rfl (zat 0 rfl 0 rfl)) ?_))
 refine hl_q rfl rfl rfl (zaw rfl rfl (fun w hm => implEvalOrder_ret m w (hr.below hm.bel))) ?_
 intro v2 p3 hR4
 obtain ⟨ov, rfl, rfl⟩ := hR4
 refine zam 3 rfl (zbm (fun h5 => ?_) (fun h5 => ?_))
 ·
  have h5p := zes h5
  refine zay 2 rfl (zag (zbg 2 rfl (zap rfl (zcv ?_))))
  refine zfi ?_
  have hE : EoP m := by assumption
  have hdes := hE.2.1
  obtain ⟨hl1, hl2, hl3, hl4⟩ := hdes.len1
  have hz3 := sumZ_rng hdes 3
  refine hvQ rfl (fdQ 0 rfl rfl rfl) (hvQ rfl (zac rfl rfl rfl (zaa 1 rfl rfl)) (hvQ rfl (lnQ rfl rfl rfl (zaf ((hr).s))) (zay 1 rfl (zaz ?_))))
  refine lkQ1 (α := Nat) [0, 1, 2, 4, 18, 20, 21] rfl (fun i => [rowE 3 1 ov ((eoK m).length) ((eoK m).map (Value.int .i64)), boxE b1 #[m.sv, m.av, m.iv, m.mv] 35]) (fun i => [(22, .int .i64 (i : Int))]) (fun i => i ≤ m.ss.length ∧ ∀ q, q < i → (m.ss.getD q sg0).w ≠ 0) (fun i => m.ss.length - i) 0 ⟨Nat.zero_le _, fun q hq => absurd hq (by omega)⟩ (saQ rfl) (pfQ rfl) ?_
  intro i hi6
  obtain ⟨hi, hwd⟩ := hi6
  refine srQ ?_
  refine zbq rfl rfl rfl rfl rfl rfl (fun h7 => ?_) (fun h7 => ?_)
  ·
   refine ntQ (tcQ rfl (zcv (sbQ (srQ (hvQ rfl (riQ 3 rfl rfl rfl rfl (zaf ((hr).s))) ?_)))))
   refine hvQ rfl (zbb (us := [.int .i64 ((m.ss.getD i sg0).k), .int .i64 ((m.ss.getD i sg0).w), .int .i64 ((m.ss.getD i sg0).i)]) rfl rfl rfl rfl (zaf ((hr).s)) (by omega) rfl (zbr sgC 3 (fun _ => rfl) m.ss sg0 (show i < _ by omega) rfl)) (zdn rfl (zbl (z := .agg #[.int .i64 0, .int .i64 0, .int .i64 0]) rfl rfl) ?_)
   intro b8
   refine zbh (cs' := #[.int .i64 ((m.ss.getD i sg0).k), .int .i64 ((m.ss.getD i sg0).w), .int .i64 ((m.ss.getD i sg0).i)]) (i := 0) (off := 0) (us := [.int .i64 ((m.ss.getD i sg0).k), .int .i64 ((m.ss.getD i sg0).w), .int .i64 ((m.ss.getD i sg0).i)]) rfl rfl rfl rfl rfl rfl rfl (zab rfl (zab rfl (zab rfl zbc))) rfl rfl rfl (ntQ (srQ (hvQ rfl (fdQ 1 rfl rfl rfl) (hvQ rfl (zac rfl rfl rfl (zaa 0 rfl rfl)) ?_))))
   refine zbu rfl rfl rfl rfl rfl rfl (fun h9 => ?_) (fun h9 => ?_)
   ·
    refine ntQ (zah rfl (zbg 1 rfl ?_))
    refine zao (zad ?_)
    refine zdv ?_
    refine zad (zae ?_)
    exact zav rfl rfl (congrArg _ (zbv (fun hp => by first | (exact absurd hp.eo (by assumption)) | (exact absurd (by omega) (hp.wid i (by omega))) | (exact absurd (by assumption) (hp.par k (by omega))) | (have h9 := hp.mem j (by omega); unfold MwP at h9; omega) | (have h9 := hp.ins; omega) | (have h9 := hp.outs; omega) | (have h9 := hp.bits; rw [show m.ms.length = j by omega] at h9; omega))).symm)
   refine ntQ (fsQ rfl (zdh (zas (hvQ rfl (vaQ rfl rfl rfl) (enQ 1 rfl ?_)))))
   exact zbs (i + 1) ⟨by omega, fun q hq => by by_cases e : q = i; (subst e; omega); exact hwd q (by omega)⟩ (by omega) (saQ rfl) (slQ [1, 0] rfl)
  refine ntQ (fcQ rfl ?_)
  refine zbj (zeb ?_)
  refine zal (zba (zfi (hvQ rfl (fdQ 1 rfl rfl rfl) (hvQ rfl (zac rfl rfl rfl (zaa 1 rfl rfl)) (hvQ rfl (lnQ rfl rfl rfl (zaf ((hr).g))) (zay 1 rfl (zaz ?_)))))))
  refine lkQ1 (α := Nat) [0, 1, 2, 4, 18, 20, 21, 22, 23, 31, 32] rfl (fun k => [rowE 3 1 ov ((eoK m).length) ((eoK m).map (Value.int .i64)), boxE b1 #[m.sv, m.av, m.iv, m.mv] 35]) (fun k => [(33, .int .i64 (k : Int))]) (fun k => k ≤ m.gs.length ∧ ∀ q, q < k → ¬ HpP (m.gs.getD q as0).os) (fun k => m.gs.length - k) 0 ⟨Nat.zero_le _, fun q hq => absurd hq (by omega)⟩ (saQ rfl) (pfQ rfl) ?_
  intro k hi10
  obtain ⟨hk, hpr⟩ := hi10
  refine srQ ?_
  refine zbq rfl rfl rfl rfl rfl rfl (fun h11 => ?_) (fun h11 => ?_)
  ·
   refine ntQ (tcQ rfl (zcv (sbQ (srQ (hvQ rfl (riQ 2 rfl rfl rfl rfl (zaf ((hr).g))) ?_)))))
   refine hvQ rfl (zbb (us := [.int .i64 ((m.gs.getD k as0).t), (m.gs.getD k as0).ov]) rfl rfl rfl rfl (zaf ((hr).g)) (by omega) rfl (zbr asC 2 (fun _ => rfl) m.gs as0 (show k < _ by omega) rfl)) (zdn rfl (zbl (z := .agg #[.int .i64 0, .slice none 0 0]) rfl rfl) ?_)
   intro b12
   refine zbh (cs' := #[.int .i64 ((m.gs.getD k as0).t), (m.gs.getD k as0).ov]) (i := 0) (off := 0) (us := [.int .i64 ((m.gs.getD k as0).t), (m.gs.getD k as0).ov]) rfl rfl rfl rfl rfl rfl rfl (zab rfl (zab (hr.o.at (k := k) (by omega)).one zbc)) rfl rfl rfl (ntQ (srQ (hvQ rfl (fdQ 1 rfl rfl rfl) (hvQ rfl (zac rfl rfl rfl (zaa 0 rfl rfl)) ?_))))
   refine zem rfl (zaw rfl rfl (fun w hm => zbf (hasParam_ans (m.gs.getD k as0).os _ w ((hr.o.at (by omega)).below hm.bel)))) (zbm (fun h13 => ?_) (fun h13 => ?_))
   ·
    have h13p := zes h13
    refine ntQ (zah rfl (zbg 1 rfl ?_))
    refine zao (zad ?_)
    refine zdv ?_
    refine zad (zae ?_)
    exact zav rfl rfl (congrArg _ (zbv (fun hp => by first | (exact absurd hp.eo (by assumption)) | (exact absurd (by omega) (hp.wid i (by omega))) | (exact absurd (by assumption) (hp.par k (by omega))) | (have h9 := hp.mem j (by omega); unfold MwP at h9; omega) | (have h9 := hp.ins; omega) | (have h9 := hp.outs; omega) | (have h9 := hp.bits; rw [show m.ms.length = j by omega] at h9; omega))).symm)
   have h13p := zdt h13
   refine ntQ (fsQ rfl (zdh (zas (hvQ rfl (vaQ rfl rfl rfl) (enQ 1 rfl ?_)))))
   exact zbs (k + 1) ⟨by omega, fun q hq => by by_cases e : q = k; (subst e; assumption); exact hpr q (by omega)⟩ (by omega) (saQ rfl) (slQ [1, 0] rfl)
  refine ntQ (fcQ rfl ?_)
  refine zbj (zeb ?_)
  refine zal (zba (srQ (hvQ rfl (zax (cs := [m.sv, m.av, m.iv, m.mv]) rfl rfl rfl rfl rfl (zat 1 rfl 0 rfl)) ?_)))
  refine hl_q rfl rfl rfl (zaw rfl rfl (fun w hm => zex m 3 w (hr.below hm.bel))) ?_
  intro v14 p15 hR16
  subst hR16
  refine zem rfl (zaw rfl rfl (fun w hm => zbf (sumInts_ans (pwK m 3) v14 w (zaj 0 rfl w hm) (pwK_rng hdes _) (pwK_le _ _)))) (zay 1 rfl (zfi (hvQ rfl (fdQ 3 rfl rfl rfl) (hvQ rfl (zac rfl rfl rfl (zaa 2 rfl rfl)) (hvQ rfl (lnQ rfl rfl rfl (zaf ((hr).m))) (zay 1 rfl ?_))))))
  refine zaz ?_
  refine lkQ2 (α := Nat) (β := Int) [0, 1, 2, 4, 18, 20, 21, 22, 23, 31, 32, 33, 34, 45, 46] rfl (fun j c => [rowE 3 1 v14 ((pwK m 3).length) ((pwK m 3).map (Value.int .i64)), rowE 3 1 ov ((eoK m).length) ((eoK m).map (Value.int .i64)), boxE b1 #[m.sv, m.av, m.iv, m.mv] 35]) (fun j c => [(9, .int .i64 c), (47, .int .i64 (j : Int))]) (fun j c => j ≤ m.ms.length ∧ c = sumZ (pwK m 3) + moA m j ∧ ∀ q, q < j → MwP m (m.ms.getD q mm0)) (fun j c => m.ms.length - j) 0 _ ⟨Nat.zero_le _, (by show _ = _ + (0 : Int); omega), fun q hq => absurd hq (by omega)⟩ (saQ rfl) (pfQ rfl) ?_
  intro j c hi17
  obtain ⟨hj, hcs, hmw⟩ := hi17
  have hmo := moA_rng hdes j hj
  refine srQ ?_
  refine zbq rfl rfl rfl rfl rfl rfl (fun h18 => ?_) (fun h18 => ?_)
  ·
   refine ntQ (tcQ rfl (zcv (sbQ (srQ ?_))))
   have hmm := memI hdes (show j < m.ms.length by omega)
   refine hvQ rfl (riQ 4 rfl rfl rfl rfl (zaf ((hr).m))) (hvQ rfl (zbb (us := [.int .i64 ((m.ms.getD j mm0).a), .int .i64 ((m.ms.getD j mm0).d), .int .i64 ((m.ms.getD j mm0).w), .int .i64 ((m.ms.getD j mm0).o)]) rfl rfl rfl rfl (zaf ((hr).m)) (by omega) rfl (zbr mmC 4 (fun _ => rfl) m.ms mm0 (show j < _ by omega) rfl)) ?_)
   refine zdn rfl (zbl (z := .agg #[.int .i64 0, .int .i64 0, .int .i64 0, .int .i64 0]) rfl rfl) ?_
   intro b19
   refine zbh (cs' := #[.int .i64 ((m.ms.getD j mm0).a), .int .i64 ((m.ms.getD j mm0).d), .int .i64 ((m.ms.getD j mm0).w), .int .i64 ((m.ms.getD j mm0).o)]) (i := 0) (off := 0) (us := [.int .i64 ((m.ms.getD j mm0).a), .int .i64 ((m.ms.getD j mm0).d), .int .i64 ((m.ms.getD j mm0).w), .int .i64 ((m.ms.getD j mm0).o)]) rfl rfl rfl rfl rfl rfl rfl (zab rfl (zab rfl (zab rfl (zab rfl zbc)))) rfl rfl rfl (ntQ (zag (zag ?_)))
   rcases Bool.eq_false_or_eq_true (((m.ss.getD (((m.ms.getD j mm0).a).toNat) sg0).w) != 2) with hb20 | hb20
   ·
    have hb20p : (m.ss.getD (((m.ms.getD j mm0).a).toNat) sg0).w ≠ 2 := bne_iff_ne.1 hb20
    refine zbz 35 [[], [0], [], [2], [1, 3], [4], [5], [6], [7], [8], [8], [8], [8], [8], [8], [8], [8], [8, 16], [17], [18], [18], [18], [18], [18], [18], [18], [18], [18], [18], [18], [18], [18], [18], [18], [18, 33]] [51, 52, 53, 54, 55, 56, 57, 58, 59, 60, 61, 62, 63, 64, 65, 66, 67, 68, 69, 70, 71, 72, 73, 74, 75, 76, 77, 78, 79, 80, 81, 82, 83, 84, 85] [.pointer (some ⟨b1, 0 + 0, none⟩), m.sv, .pointer (some ⟨b19, 0 + 0, none⟩), .int .i64 ((m.ms.getD j mm0).a), elP m.sv (((m.ms.getD j mm0).a).toNat * 3), elP m.sv (((m.ms.getD j mm0).a).toNat * 3 + 1), .int .i64 ((m.ss.getD (((m.ms.getD j mm0).a).toNat) sg0).w), .bool true, .bool true, undef, undef, undef, undef, undef, undef, undef, undef, .bool true, .bool true, undef, undef, undef, undef, undef, undef, undef, undef, undef, undef, undef, undef, undef, undef, undef, .bool true] (by kernel_rfl) rfl ?_ ?_
    ·
     exact ⟨iaQ rfl (fdQ 0 rfl rfl rfl) rfl, iaQ rfl (zac rfl rfl rfl (zaa 3 rfl rfl)) rfl, iaQ rfl (fdQ 0 rfl rfl rfl) rfl, iaQ rfl (zac rfl rfl rfl (zaa 0 rfl rfl)) rfl, iaQ rfl (riQ 3 rfl rfl rfl rfl (zaf ((hr).s))) rfl, iaQ rfl (zaq (k0 := 1) rfl rfl rfl (zaf ((hr).s)) (by omega)) rfl, iaQ rfl (zan (u := .int .i64 ((m.ss.getD (((m.ms.getD j mm0).a).toNat) sg0).w)) rfl rfl rfl (zaf ((hr).s)) ((zbd sgC 3 (fun _ => rfl) m.ss sg0 (show ((m.ms.getD j mm0).a).toNat < _ by omega) (by decide)).trans rfl)) rfl, .inl ⟨rfl, zdl (zcf rfl rfl rfl rfl) hb20⟩, iaQ rfl (zau rfl) rfl, .inr ⟨rfl, rfl⟩, .inr ⟨rfl, rfl⟩, .inr ⟨rfl, rfl⟩, .inr ⟨rfl, rfl⟩, .inr ⟨rfl, rfl⟩, .inr ⟨rfl, rfl⟩, .inr ⟨rfl, rfl⟩, .inr ⟨rfl, rfl⟩, iaQ rfl (zau rfl) rfl, iaQ rfl (zau rfl) rfl, .inr ⟨rfl, rfl⟩, .inr ⟨rfl, rfl⟩, .inr ⟨rfl, rfl⟩, .inr ⟨rfl, rfl⟩, .inr ⟨rfl, rfl⟩, .inr ⟨rfl, rfl⟩, .inr ⟨rfl, rfl⟩, .inr ⟨rfl, rfl⟩, .inr ⟨rfl, rfl⟩, .inr ⟨rfl, rfl⟩, .inr ⟨rfl, rfl⟩, .inr ⟨rfl, rfl⟩, .inr ⟨rfl, rfl⟩, .inr ⟨rfl, rfl⟩, .inr ⟨rfl, rfl⟩, iaQ rfl (zau rfl) rfl, trivial⟩
    simp only [List.drop_succ_cons, List.drop_zero]
    refine ntQ (zah rfl (zbg 1 rfl ?_))
    refine zao (zae ?_)
    refine zad (zdv ?_)
    refine zad (zae ?_)
    exact zav rfl rfl (congrArg _ (zbv (fun hp => by first | (exact absurd hp.eo (by assumption)) | (exact absurd (by omega) (hp.wid i (by omega))) | (exact absurd (by assumption) (hp.par k (by omega))) | (have h9 := hp.mem j (by omega); unfold MwP at h9; omega) | (have h9 := hp.ins; omega) | (have h9 := hp.outs; omega) | (have h9 := hp.bits; rw [show m.ms.length = j by omega] at h9; omega))).symm)
   have hb20p : (m.ss.getD (((m.ms.getD j mm0).a).toNat) sg0).w = 2 := (bne_eq_false_iff_eq.1 hb20)
   rcases Bool.eq_false_or_eq_true (((m.ss.getD (((m.ms.getD j mm0).w).toNat) sg0).w) != 1) with hb21 | hb21
   ·
    have hb21p : (m.ss.getD (((m.ms.getD j mm0).w).toNat) sg0).w ≠ 1 := bne_iff_ne.1 hb21
    refine zbz 35 [[], [0], [], [2], [1, 3], [4], [5], [6], [7], [8], [8, 9], [8], [8, 11], [8, 10, 12], [8, 13], [8, 14], [8, 15], [8, 16], [17], [18], [18], [18], [18], [18], [18], [18], [18], [18], [18], [18], [18], [18], [18], [18], [18, 33]] [51, 52, 53, 54, 55, 56, 57, 58, 59, 60, 61, 62, 63, 64, 65, 66, 67, 68, 69, 70, 71, 72, 73, 74, 75, 76, 77, 78, 79, 80, 81, 82, 83, 84, 85] [.pointer (some ⟨b1, 0 + 0, none⟩), m.sv, .pointer (some ⟨b19, 0 + 0, none⟩), .int .i64 ((m.ms.getD j mm0).a), elP m.sv (((m.ms.getD j mm0).a).toNat * 3), elP m.sv (((m.ms.getD j mm0).a).toNat * 3 + 1), .int .i64 ((m.ss.getD (((m.ms.getD j mm0).a).toNat) sg0).w), .bool false, .bool false, .pointer (some ⟨b1, 0 + 0, none⟩), m.sv, .pointer (some ⟨b19, 0 + 2, none⟩), .int .i64 ((m.ms.getD j mm0).w), elP m.sv (((m.ms.getD j mm0).w).toNat * 3), elP m.sv (((m.ms.getD j mm0).w).toNat * 3 + 1), .int .i64 ((m.ss.getD (((m.ms.getD j mm0).w).toNat) sg0).w), .bool true, .bool true, .bool true, undef, undef, undef, undef, undef, undef, undef, undef, undef, undef, undef, undef, undef, undef, undef, .bool true] (by kernel_rfl) rfl ?_ ?_
    ·
     exact ⟨iaQ rfl (fdQ 0 rfl rfl rfl) rfl, iaQ rfl (zac rfl rfl rfl (zaa 3 rfl rfl)) rfl, iaQ rfl (fdQ 0 rfl rfl rfl) rfl, iaQ rfl (zac rfl rfl rfl (zaa 0 rfl rfl)) rfl, iaQ rfl (riQ 3 rfl rfl rfl rfl (zaf ((hr).s))) rfl, iaQ rfl (zaq (k0 := 1) rfl rfl rfl (zaf ((hr).s)) (by omega)) rfl, iaQ rfl (zan (u := .int .i64 ((m.ss.getD (((m.ms.getD j mm0).a).toNat) sg0).w)) rfl rfl rfl (zaf ((hr).s)) ((zbd sgC 3 (fun _ => rfl) m.ss sg0 (show ((m.ms.getD j mm0).a).toNat < _ by omega) (by decide)).trans rfl)) rfl, .inl ⟨rfl, zdl (zcf rfl rfl rfl rfl) hb20⟩, iaQ rfl (zau rfl) rfl, iaQ rfl (fdQ 0 rfl rfl rfl) rfl, iaQ rfl (zac rfl rfl rfl (zaa 3 rfl rfl)) rfl, iaQ rfl (fdQ 2 rfl rfl rfl) rfl, iaQ rfl (zac rfl rfl rfl (zaa 0 rfl rfl)) rfl, iaQ rfl (riQ 3 rfl rfl rfl rfl (zaf ((hr).s))) rfl, iaQ rfl (zaq (k0 := 1) rfl rfl rfl (zaf ((hr).s)) (by omega)) rfl, iaQ rfl (zan (u := .int .i64 ((m.ss.getD (((m.ms.getD j mm0).w).toNat) sg0).w)) rfl rfl rfl (zaf ((hr).s)) ((zbd sgC 3 (fun _ => rfl) m.ss sg0 (show ((m.ms.getD j mm0).w).toNat < _ by omega) (by decide)).trans rfl)) rfl, .inl ⟨rfl, zdl (zcf rfl rfl rfl rfl) hb21⟩, iaQ rfl (zau rfl) rfl, iaQ rfl (zau rfl) rfl, .inr ⟨rfl, rfl⟩, .inr ⟨rfl, rfl⟩, .inr ⟨rfl, rfl⟩, .inr ⟨rfl, rfl⟩, .inr ⟨rfl, rfl⟩, .inr ⟨rfl, rfl⟩, .inr ⟨rfl, rfl⟩, .inr ⟨rfl, rfl⟩, .inr ⟨rfl, rfl⟩, .inr ⟨rfl, rfl⟩, .inr ⟨rfl, rfl⟩, .inr ⟨rfl, rfl⟩, .inr ⟨rfl, rfl⟩, .inr ⟨rfl, rfl⟩, .inr ⟨rfl, rfl⟩, iaQ rfl (zau rfl) rfl, trivial⟩
    simp only [List.drop_succ_cons, List.drop_zero]
    refine ntQ (zah rfl (zbg 1 rfl ?_))
    refine zao (zae ?_)
    refine zad (zdv ?_)
    refine zad (zae ?_)
    exact zav rfl rfl (congrArg _ (zbv (fun hp => by first | (exact absurd hp.eo (by assumption)) | (exact absurd (by omega) (hp.wid i (by omega))) | (exact absurd (by assumption) (hp.par k (by omega))) | (have h9 := hp.mem j (by omega); unfold MwP at h9; omega) | (have h9 := hp.ins; omega) | (have h9 := hp.outs; omega) | (have h9 := hp.bits; rw [show m.ms.length = j by omega] at h9; omega))).symm)
   have hb21p : (m.ss.getD (((m.ms.getD j mm0).w).toNat) sg0).w = 1 := (bne_eq_false_iff_eq.1 hb21)
   rcases Bool.eq_false_or_eq_true (((m.ss.getD (((m.ms.getD j mm0).d).toNat) sg0).w) != ((m.ss.getD (((m.ms.getD j mm0).o).toNat) sg0).w)) with hb22 | hb22
   ·
    have hb22p : (m.ss.getD (((m.ms.getD j mm0).d).toNat) sg0).w ≠ (m.ss.getD (((m.ms.getD j mm0).o).toNat) sg0).w := bne_iff_ne.1 hb22
    refine zbz 35 [[], [0], [], [2], [1, 3], [4], [5], [6], [7], [8], [8, 9], [8], [8, 11], [8, 10, 12], [8, 13], [8, 14], [8, 15], [8, 16], [17], [18], [18, 19], [18], [18, 21], [18, 20, 22], [18, 23], [18, 24], [18], [18, 26], [18], [18, 28], [18, 27, 29], [18, 30], [18, 31], [18, 25, 32], [18, 33]] [51, 52, 53, 54, 55, 56, 57, 58, 59, 60, 61, 62, 63, 64, 65, 66, 67, 68, 69, 70, 71, 72, 73, 74, 75, 76, 77, 78, 79, 80, 81, 82, 83, 84, 85] [.pointer (some ⟨b1, 0 + 0, none⟩), m.sv, .pointer (some ⟨b19, 0 + 0, none⟩), .int .i64 ((m.ms.getD j mm0).a), elP m.sv (((m.ms.getD j mm0).a).toNat * 3), elP m.sv (((m.ms.getD j mm0).a).toNat * 3 + 1), .int .i64 ((m.ss.getD (((m.ms.getD j mm0).a).toNat) sg0).w), .bool false, .bool false, .pointer (some ⟨b1, 0 + 0, none⟩), m.sv, .pointer (some ⟨b19, 0 + 2, none⟩), .int .i64 ((m.ms.getD j mm0).w), elP m.sv (((m.ms.getD j mm0).w).toNat * 3), elP m.sv (((m.ms.getD j mm0).w).toNat * 3 + 1), .int .i64 ((m.ss.getD (((m.ms.getD j mm0).w).toNat) sg0).w), .bool false, .bool false, .bool false, .pointer (some ⟨b1, 0 + 0, none⟩), m.sv, .pointer (some ⟨b19, 0 + 1, none⟩), .int .i64 ((m.ms.getD j mm0).d), elP m.sv (((m.ms.getD j mm0).d).toNat * 3), elP m.sv (((m.ms.getD j mm0).d).toNat * 3 + 1), .int .i64 ((m.ss.getD (((m.ms.getD j mm0).d).toNat) sg0).w), .pointer (some ⟨b1, 0 + 0, none⟩), m.sv, .pointer (some ⟨b19, 0 + 3, none⟩), .int .i64 ((m.ms.getD j mm0).o), elP m.sv (((m.ms.getD j mm0).o).toNat * 3), elP m.sv (((m.ms.getD j mm0).o).toNat * 3 + 1), .int .i64 ((m.ss.getD (((m.ms.getD j mm0).o).toNat) sg0).w), .bool true, .bool true] (by kernel_rfl) rfl ?_ ?_
    ·
     exact ⟨iaQ rfl (fdQ 0 rfl rfl rfl) rfl, iaQ rfl (zac rfl rfl rfl (zaa 3 rfl rfl)) rfl, iaQ rfl (fdQ 0 rfl rfl rfl) rfl, iaQ rfl (zac rfl rfl rfl (zaa 0 rfl rfl)) rfl, iaQ rfl (riQ 3 rfl rfl rfl rfl (zaf ((hr).s))) rfl, iaQ rfl (zaq (k0 := 1) rfl rfl rfl (zaf ((hr).s)) (by omega)) rfl, iaQ rfl (zan (u := .int .i64 ((m.ss.getD (((m.ms.getD j mm0).a).toNat) sg0).w)) rfl rfl rfl (zaf ((hr).s)) ((zbd sgC 3 (fun _ => rfl) m.ss sg0 (show ((m.ms.getD j mm0).a).toNat < _ by omega) (by decide)).trans rfl)) rfl, .inl ⟨rfl, zdl (zcf rfl rfl rfl rfl) hb20⟩, iaQ rfl (zau rfl) rfl, iaQ rfl (fdQ 0 rfl rfl rfl) rfl, iaQ rfl (zac rfl rfl rfl (zaa 3 rfl rfl)) rfl, iaQ rfl (fdQ 2 rfl rfl rfl) rfl, iaQ rfl (zac rfl rfl rfl (zaa 0 rfl rfl)) rfl, iaQ rfl (riQ 3 rfl rfl rfl rfl (zaf ((hr).s))) rfl, iaQ rfl (zaq (k0 := 1) rfl rfl rfl (zaf ((hr).s)) (by omega)) rfl, iaQ rfl (zan (u := .int .i64 ((m.ss.getD (((m.ms.getD j mm0).w).toNat) sg0).w)) rfl rfl rfl (zaf ((hr).s)) ((zbd sgC 3 (fun _ => rfl) m.ss sg0 (show ((m.ms.getD j mm0).w).toNat < _ by omega) (by decide)).trans rfl)) rfl, .inl ⟨rfl, zdl (zcf rfl rfl rfl rfl) hb21⟩, iaQ rfl (zau rfl) rfl, iaQ rfl (zau rfl) rfl, iaQ rfl (fdQ 0 rfl rfl rfl) rfl, iaQ rfl (zac rfl rfl rfl (zaa 3 rfl rfl)) rfl, iaQ rfl (fdQ 1 rfl rfl rfl) rfl, iaQ rfl (zac rfl rfl rfl (zaa 0 rfl rfl)) rfl, iaQ rfl (riQ 3 rfl rfl rfl rfl (zaf ((hr).s))) rfl, iaQ rfl (zaq (k0 := 1) rfl rfl rfl (zaf ((hr).s)) (by omega)) rfl, iaQ rfl (zan (u := .int .i64 ((m.ss.getD (((m.ms.getD j mm0).d).toNat) sg0).w)) rfl rfl rfl (zaf ((hr).s)) ((zbd sgC 3 (fun _ => rfl) m.ss sg0 (show ((m.ms.getD j mm0).d).toNat < _ by omega) (by decide)).trans rfl)) rfl, iaQ rfl (fdQ 0 rfl rfl rfl) rfl, iaQ rfl (zac rfl rfl rfl (zaa 3 rfl rfl)) rfl, iaQ rfl (fdQ 3 rfl rfl rfl) rfl, iaQ rfl (zac rfl rfl rfl (zaa 0 rfl rfl)) rfl, iaQ rfl (riQ 3 rfl rfl rfl rfl (zaf ((hr).s))) rfl, iaQ rfl (zaq (k0 := 1) rfl rfl rfl (zaf ((hr).s)) (by omega)) rfl, iaQ rfl (zan (u := .int .i64 ((m.ss.getD (((m.ms.getD j mm0).o).toNat) sg0).w)) rfl rfl rfl (zaf ((hr).s)) ((zbd sgC 3 (fun _ => rfl) m.ss sg0 (show ((m.ms.getD j mm0).o).toNat < _ by omega) (by decide)).trans rfl)) rfl, .inl ⟨rfl, zdl (zcf rfl rfl rfl rfl) hb22⟩, iaQ rfl (zau rfl) rfl, trivial⟩
    simp only [List.drop_succ_cons, List.drop_zero]
    refine ntQ (zah rfl (zbg 1 rfl ?_))
    refine zao (zae ?_)
    refine zad (zdv ?_)
    refine zad (zae ?_)
    exact zav rfl rfl (congrArg _ (zbv (fun hp => by first | (exact absurd hp.eo (by assumption)) | (exact absurd (by omega) (hp.wid i (by omega))) | (exact absurd (by assumption) (hp.par k (by omega))) | (have h9 := hp.mem j (by omega); unfold MwP at h9; omega) | (have h9 := hp.ins; omega) | (have h9 := hp.outs; omega) | (have h9 := hp.bits; rw [show m.ms.length = j by omega] at h9; omega))).symm)
   have hb22p : (m.ss.getD (((m.ms.getD j mm0).d).toNat) sg0).w = (m.ss.getD (((m.ms.getD j mm0).o).toNat) sg0).w := (bne_eq_false_iff_eq.1 hb22)
   refine zbz 35 [[], [0], [], [2], [1, 3], [4], [5], [6], [7], [8], [8, 9], [8], [8, 11], [8, 10, 12], [8, 13], [8, 14], [8, 15], [8, 16], [17], [18], [18, 19], [18], [18, 21], [18, 20, 22], [18, 23], [18, 24], [18], [18, 26], [18], [18, 28], [18, 27, 29], [18, 30], [18, 31], [18, 25, 32], [18, 33]] [51, 52, 53, 54, 55, 56, 57, 58, 59, 60, 61, 62, 63, 64, 65, 66, 67, 68, 69, 70, 71, 72, 73, 74, 75, 76, 77, 78, 79, 80, 81, 82, 83, 84, 85] [.pointer (some ⟨b1, 0 + 0, none⟩), m.sv, .pointer (some ⟨b19, 0 + 0, none⟩), .int .i64 ((m.ms.getD j mm0).a), elP m.sv (((m.ms.getD j mm0).a).toNat * 3), elP m.sv (((m.ms.getD j mm0).a).toNat * 3 + 1), .int .i64 ((m.ss.getD (((m.ms.getD j mm0).a).toNat) sg0).w), .bool false, .bool false, .pointer (some ⟨b1, 0 + 0, none⟩), m.sv, .pointer (some ⟨b19, 0 + 2, none⟩), .int .i64 ((m.ms.getD j mm0).w), elP m.sv (((m.ms.getD j mm0).w).toNat * 3), elP m.sv (((m.ms.getD j mm0).w).toNat * 3 + 1), .int .i64 ((m.ss.getD (((m.ms.getD j mm0).w).toNat) sg0).w), .bool false, .bool false, .bool false, .pointer (some ⟨b1, 0 + 0, none⟩), m.sv, .pointer (some ⟨b19, 0 + 1, none⟩), .int .i64 ((m.ms.getD j mm0).d), elP m.sv (((m.ms.getD j mm0).d).toNat * 3), elP m.sv (((m.ms.getD j mm0).d).toNat * 3 + 1), .int .i64 ((m.ss.getD (((m.ms.getD j mm0).d).toNat) sg0).w), .pointer (some ⟨b1, 0 + 0, none⟩), m.sv, .pointer (some ⟨b19, 0 + 3, none⟩), .int .i64 ((m.ms.getD j mm0).o), elP m.sv (((m.ms.getD j mm0).o).toNat * 3), elP m.sv (((m.ms.getD j mm0).o).toNat * 3 + 1), .int .i64 ((m.ss.getD (((m.ms.getD j mm0).o).toNat) sg0).w), .bool false, .bool false] (by kernel_rfl) rfl ?_ ?_
   ·
    exact ⟨iaQ rfl (fdQ 0 rfl rfl rfl) rfl, iaQ rfl (zac rfl rfl rfl (zaa 3 rfl rfl)) rfl, iaQ rfl (fdQ 0 rfl rfl rfl) rfl, iaQ rfl (zac rfl rfl rfl (zaa 0 rfl rfl)) rfl, iaQ rfl (riQ 3 rfl rfl rfl rfl (zaf ((hr).s))) rfl, iaQ rfl (zaq (k0 := 1) rfl rfl rfl (zaf ((hr).s)) (by omega)) rfl, iaQ rfl (zan (u := .int .i64 ((m.ss.getD (((m.ms.getD j mm0).a).toNat) sg0).w)) rfl rfl rfl (zaf ((hr).s)) ((zbd sgC 3 (fun _ => rfl) m.ss sg0 (show ((m.ms.getD j mm0).a).toNat < _ by omega) (by decide)).trans rfl)) rfl, .inl ⟨rfl, zdl (zcf rfl rfl rfl rfl) hb20⟩, iaQ rfl (zau rfl) rfl, iaQ rfl (fdQ 0 rfl rfl rfl) rfl, iaQ rfl (zac rfl rfl rfl (zaa 3 rfl rfl)) rfl, iaQ rfl (fdQ 2 rfl rfl rfl) rfl, iaQ rfl (zac rfl rfl rfl (zaa 0 rfl rfl)) rfl, iaQ rfl (riQ 3 rfl rfl rfl rfl (zaf ((hr).s))) rfl, iaQ rfl (zaq (k0 := 1) rfl rfl rfl (zaf ((hr).s)) (by omega)) rfl, iaQ rfl (zan (u := .int .i64 ((m.ss.getD (((m.ms.getD j mm0).w).toNat) sg0).w)) rfl rfl rfl (zaf ((hr).s)) ((zbd sgC 3 (fun _ => rfl) m.ss sg0 (show ((m.ms.getD j mm0).w).toNat < _ by omega) (by decide)).trans rfl)) rfl, .inl ⟨rfl, zdl (zcf rfl rfl rfl rfl) hb21⟩, iaQ rfl (zau rfl) rfl, iaQ rfl (zau rfl) rfl, iaQ rfl (fdQ 0 rfl rfl rfl) rfl, iaQ rfl (zac rfl rfl rfl (zaa 3 rfl rfl)) rfl, iaQ rfl (fdQ 1 rfl rfl rfl) rfl, iaQ rfl (zac rfl rfl rfl (zaa 0 rfl rfl)) rfl, iaQ rfl (riQ 3 rfl rfl rfl rfl (zaf ((hr).s))) rfl, iaQ rfl (zaq (k0 := 1) rfl rfl rfl (zaf ((hr).s)) (by omega)) rfl, iaQ rfl (zan (u := .int .i64 ((m.ss.getD (((m.ms.getD j mm0).d).toNat) sg0).w)) rfl rfl rfl (zaf ((hr).s)) ((zbd sgC 3 (fun _ => rfl) m.ss sg0 (show ((m.ms.getD j mm0).d).toNat < _ by omega) (by decide)).trans rfl)) rfl, iaQ rfl (fdQ 0 rfl rfl rfl) rfl, iaQ rfl (zac rfl rfl rfl (zaa 3 rfl rfl)) rfl, iaQ rfl (fdQ 3 rfl rfl rfl) rfl, iaQ rfl (zac rfl rfl rfl (zaa 0 rfl rfl)) rfl, iaQ rfl (riQ 3 rfl rfl rfl rfl (zaf ((hr).s))) rfl, iaQ rfl (zaq (k0 := 1) rfl rfl rfl (zaf ((hr).s)) (by omega)) rfl, iaQ rfl (zan (u := .int .i64 ((m.ss.getD (((m.ms.getD j mm0).o).toNat) sg0).w)) rfl rfl rfl (zaf ((hr).s)) ((zbd sgC 3 (fun _ => rfl) m.ss sg0 (show ((m.ms.getD j mm0).o).toNat < _ by omega) (by decide)).trans rfl)) rfl, .inl ⟨rfl, zdl (zcf rfl rfl rfl rfl) hb22⟩, iaQ rfl (zau rfl) rfl, trivial⟩
   simp only [List.drop_succ_cons, List.drop_zero]
   refine ntQ (zap rfl (zcv (reQ 1 rfl (hvQ rfl (fdQ 0 rfl rfl rfl) (hvQ rfl (zac rfl rfl rfl (zaa 3 rfl rfl)) (hvQ rfl (fdQ 3 rfl rfl rfl) (hvQ rfl (zac rfl rfl rfl (zaa 0 rfl rfl)) (hvQ rfl (riQ 3 rfl rfl rfl rfl (zaf ((hr).s))) (hvQ rfl (zaq (k0 := 1) rfl rfl rfl (zaf ((hr).s)) (by omega)) ?_)))))))))
   refine hvQ rfl (zan (u := .int .i64 ((m.ss.getD (((m.ms.getD j mm0).o).toNat) sg0).w)) rfl rfl rfl (zaf ((hr).s)) ((zbd sgC 3 (fun _ => rfl) m.ss sg0 (show ((m.ms.getD j mm0).o).toNat < _ by omega) (by decide)).trans rfl)) (hvQ rfl (vaQ rfl rfl rfl) (enQ 1 rfl (zdh (zas (hvQ rfl (vaQ rfl rfl rfl) (enQ 1 rfl ?_))))))
   exact zdd (j + 1) (c + ((m.ss.getD (((m.ms.getD j mm0).o).toNat) sg0).w)) ⟨by omega, (by show _ = _ + (moA m j + _); omega), fun q hq => by by_cases e : q = j; (subst e; exact ⟨by omega, by omega, by omega⟩); exact hmw q (by omega)⟩ (by omega) (saQ rfl) (slQ [1, 0, 0] rfl)
  refine ntQ (fcQ rfl ?_)
  refine zbj (zeb ?_)
  refine zal (zba (srQ (hvQ rfl (zax (cs := [m.sv, m.av, m.iv, m.mv]) rfl rfl rfl rfl rfl (zat 2 rfl 0 rfl)) ?_)))
  refine hl_q rfl rfl rfl (zaw rfl rfl (fun w hm => zex m 0 w (hr.below hm.bel))) ?_
  intro v23 p24 hR25
  subst hR25
  refine zem rfl (zaw rfl rfl (fun w hm => zbf (sumInts_ans (pwK m 0) v23 w (zaj 0 rfl w hm) (pwK_rng hdes _) (pwK_le _ _)))) (hl_leq rfl rfl rfl rfl rfl rfl (fun h26 => ?_) (fun h26 => ?_))
  ·
   refine zam 1 rfl (hvQ rfl (zax (cs := [m.sv, m.av, m.iv, m.mv]) rfl rfl rfl rfl rfl (zat 3 rfl 0 rfl)) ?_)
   refine hl_q rfl rfl rfl (zaw rfl rfl (fun w hm => zex m 1 w (hr.below hm.bel))) ?_
   intro v27 p28 hR29
   subst hR29
   refine zem rfl (zaw rfl rfl (fun w hm => zbf (sumInts_ans (pwK m 1) v27 w (zaj 0 rfl w hm) (pwK_rng hdes _) (pwK_le _ _)))) (hl_leq rfl rfl rfl rfl rfl rfl (fun h30 => ?_) (fun h30 => ?_))
   ·
    refine zam 3 rfl (hl_leq rfl rfl rfl rfl rfl rfl (fun h31 => ?_) (fun h31 => ?_))
    ·
     refine zay 2 rfl ?_
     exact zao (zav rfl rfl (congrArg _ (zdi ⟨hE, fun s hs => hwd s (by omega), fun i hi => hpr i (by omega), fun i hi => hmw i (by omega), by omega, by omega, by rw [show m.ms.length = j by omega]; omega⟩).symm))
    refine zay 2 rfl ?_
    exact zao (zav rfl rfl (congrArg _ (zbv (fun hp => by first | (exact absurd hp.eo (by assumption)) | (exact absurd (by omega) (hp.wid i (by omega))) | (exact absurd (by assumption) (hp.par k (by omega))) | (have h9 := hp.mem j (by omega); unfold MwP at h9; omega) | (have h9 := hp.ins; omega) | (have h9 := hp.outs; omega) | (have h9 := hp.bits; rw [show m.ms.length = j by omega] at h9; omega))).symm))
   refine zay 6 rfl ?_
   exact zao (zav rfl rfl (congrArg _ (zbv (fun hp => by first | (exact absurd hp.eo (by assumption)) | (exact absurd (by omega) (hp.wid i (by omega))) | (exact absurd (by assumption) (hp.par k (by omega))) | (have h9 := hp.mem j (by omega); unfold MwP at h9; omega) | (have h9 := hp.ins; omega) | (have h9 := hp.outs; omega) | (have h9 := hp.bits; rw [show m.ms.length = j by omega] at h9; omega))).symm))
  refine zay 11 rfl ?_
  exact zao (zav rfl rfl (congrArg _ (zbv (fun hp => by first | (exact absurd hp.eo (by assumption)) | (exact absurd (by omega) (hp.wid i (by omega))) | (exact absurd (by assumption) (hp.par k (by omega))) | (have h9 := hp.mem j (by omega); unfold MwP at h9; omega) | (have h9 := hp.ins; omega) | (have h9 := hp.outs; omega) | (have h9 := hp.bits; rw [show m.ms.length = j by omega] at h9; omega))).symm))
 have h5p := zdt h5
 refine zay 2 rfl (zag (zbg 2 rfl (zah rfl (srQ ?_))))
 refine zay 1 rfl ?_
 refine zao (zae ?_)
 exact zav rfl rfl (congrArg _ (zbv (fun hp => by first | (exact absurd hp.eo (by assumption)) | (exact absurd (by omega) (hp.wid i (by omega))) | (exact absurd (by assumption) (hp.par k (by omega))) | (have h9 := hp.mem j (by omega); unfold MwP at h9; omega) | (have h9 := hp.ins; omega) | (have h9 := hp.outs; omega) | (have h9 := hp.bits; rw [show m.ms.length = j by omega] at h9; omega))).symm)
end Go.Proofs.Ytodiifjigjnalaa
