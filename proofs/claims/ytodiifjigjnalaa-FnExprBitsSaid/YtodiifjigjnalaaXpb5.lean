/- Texts of the law FnExprBits, part 5: what it uses. -/
import Derived.Test.YtodiifjigjnalaaXpb4
set_option linter.unusedVariables false
set_option linter.unusedSimpArgs false
set_option maxHeartbeats 4000000
set_option maxRecDepth 100000
namespace Go.Proofs.Ytodiifjigjnalaa
open Go.RowKit Go.ChangeShapes
open Go.RowKit
theorem l11Expr_step (n : Nt) (rs : List CRow) (os : List Oq) (sv vO : Value) (W f p : Nat) (w : World) (hr : RdsNt w n) (hn : NtOk n) (hS : SgOk n n.gs (rs.map CRow.xs)) (hsv : RdsW w sv 1 rs.length (rs.flatMap crowC)) (hra : RdsAll w rs) (hv : RdsW w vO 3 os.length (os.flatMap oqC)) (hW : 1 ≤ W ∧ W ≤ 4) (hok : OpsP (rs.map CRow.xs).length os) (hp : p < os.length) (hpf : os.length - p ≤ f + 1) (h1k : ∀ i, i < os.length → (os.getD i oq0).k ≠ 1) (IH : ∀ (q : Nat) (n2 : Nt) (w2 : World), p < q → q < os.length → RdsNt w2 n2 → NtOk n2 → SgOk n2 n2.gs (rs.map CRow.xs) → RdsW w2 sv 1 rs.length (rs.flatMap crowC) → RdsAll w2 rs → RdsW w2 vO 3 os.length (os.flatMap oqC) → Calls Try.prog 92 #[.agg #[.int .i64 n2.ins, n2.sv, n2.av, n2.ov], sv, vO, .int .i64 (q : Int), .int .i64 (W : Int)] w2 (Ret w2 (fun u_ p_ => XR9 n2 W rs os f q u_ p_))) :
   Calls Try.prog 92 #[.agg #[.int .i64 n.ins, n.sv, n.av, n.ov], sv, vO, .int .i64 (p : Int), .int .i64 (W : Int)] w (Ret w (fun u_ p_ => XR9 n W rs os (f + 1) p u_ p_)) := by
 have hi0 := hn.i0
 have hi1 := hn.i1
 have hs1 := hn.s1
 have ha1 := hn.a1
 have ho1 := hn.o1
 have hcnt : n.cnt = 1 + n.ins + n.ss.length + n.gs.length := rfl
 have hfst : n.fst = 1 + n.ins + n.ss.length := rfl
 have hcr := zdw hn
 have hl15 := hok.len
 have har0 := arI_val hok hp
 have hop := (hok.op p hp).2
 have harc := ar_cases (k := (os.getD p oq0).k) (by omega)
 have hrl : (rs.map CRow.xs).length = rs.length := List.length_map _
 have hlf9 : arI (os.getD p oq0).k = 0 → (os.getD p oq0).k = 0 ∨ ((os.getD p oq0).k = 2 ∧ 0 ≤ (os.getD p oq0).a ∧ (os.getD p oq0).a < rs.length) ∨ ((os.getD p oq0).k = 3 ∧ (0 ≤ (os.getD p oq0).a ∧ (os.getD p oq0).a < rs.length) ∧ 0 ≤ (os.getD p oq0).b ∧ (os.getD p oq0).b ≤ 3) := fun h0 => leaf_kind (by rw [← hrl]; exact hop) h0 (h1k p hp)
 have hv9 := sml hv
 have hs9 := sml hsv
 refine zbq (N := 180) (args := [.agg #[.int .i64 n.ins, n.sv, n.av, n.ov], sv, vO, .int .i64 (p : Int), .int .i64 (W : Int)]) Try.func92 rfl rfl (srQ ?_)
 refine zed rfl (zdh rfl rfl) ?_
 intro b1
 refine zed rfl (zcc (z := .agg #[.int .i64 0, .slice none 0 0, .slice none 0 0, .slice none 0 0]) rfl rfl) ?_
 intro b2
 refine zbc 2 rfl (zac (reQ 2 rfl (hvQ rfl (riQ 3 rfl rfl rfl rfl (zap hv)) ?_)))
 refine hvQ rfl (zda (us := [.int .i64 ((os.getD p oq0).k), .int .i64 ((os.getD p oq0).a), .int .i64 ((os.getD p oq0).b)]) rfl rfl rfl rfl (zap hv) (by omega) rfl (zdt oqC 3 (fun _ => rfl) os oq0 (show p < _ by omega) rfl)) (zed rfl (zcc (z := .agg #[.int .i64 0, .int .i64 0, .int .i64 0]) rfl rfl) ?_)
 intro b3
 refine zbm (cs' := #[.int .i64 ((os.getD p oq0).k), .int .i64 ((os.getD p oq0).a), .int .i64 ((os.getD p oq0).b)]) (i := 0) (off := 0) (us := [.int .i64 ((os.getD p oq0).k), .int .i64 ((os.getD p oq0).a), .int .i64 ((os.getD p oq0).b)]) rfl rfl rfl rfl rfl rfl rfl (zaa rfl (zaa rfl (zaa rfl zbe))) rfl rfl rfl (ntQ (zac (reQ 1 rfl (hvQ rfl (vaQ rfl rfl rfl) (zbc 1 rfl (srQ ?_))))))
 refine zey rfl (zds (s := 1) rfl Try.underlying48 rfl) ?_
 intro g4
 refine zbc 1 rfl (zgk (hvQ rfl (fdQ 0 rfl rfl rfl) (hvQ rfl (zan rfl rfl rfl (zai 1 rfl rfl)) ?_)))
 refine zdu rfl (zam rfl rfl (fun w hm => zbb (zfy ((os.getD p oq0).k) w))) (zbj rfl rfl rfl rfl rfl rfl (fun h5 => ?_) (fun h5 => ?_))
 ·
  refine ntQ (zaj rfl (zgk ?_))
  have hlf8 := hlf9 (by omega)
  refine zbc 1 rfl (zbf ?_)
  refine zeo [rowE 3 1 (.slice (some ⟨g4, 0, none⟩) 0 0) ((lfL (rs.map CRow.xs) (os.getD p oq0) 0).length) ((lfL (rs.map CRow.xs) (os.getD p oq0) 0).map (Value.int .i64)), boxE b3 #[.int .i64 ((os.getD p oq0).k), .int .i64 ((os.getD p oq0).a), .int .i64 ((os.getD p oq0).b)] 97, eB9 b2, nB9 b1 n] (fun w hm => hm) ?_
  refine lkQ2 (α := Nat) (β := Value) [0, 1, 2, 3, 4, 5, 10, 11, 12, 13, 34] rfl (fun k uv => [rowE 3 1 uv ((lfL (rs.map CRow.xs) (os.getD p oq0) k).length) ((lfL (rs.map CRow.xs) (os.getD p oq0) k).map (Value.int .i64)), boxE b3 #[.int .i64 ((os.getD p oq0).k), .int .i64 ((os.getD p oq0).a), .int .i64 ((os.getD p oq0).b)] 97, eB9 b2, nB9 b1 n]) (fun k uv => [(14, uv), (15, .int .i64 (k : Int))]) (fun k uv => k ≤ W) (fun k uv => W - k) 0 _ (Nat.zero_le _) (saQ rfl) (pfQ rfl) ?_
  intro k uv hi6
  have hk := hi6
  have hll : (lfL (rs.map CRow.xs) (os.getD p oq0) k).length = k := lf_len _ _ _
  refine zac (zac (reQ 2 rfl ?_))
  refine zcb rfl rfl rfl rfl rfl rfl (fun h7 => ?_) (fun h7 => ?_)
  ·
   refine ntQ (zaj rfl (zdb (sbQ (zbf (srQ (hvQ rfl (fdQ 0 rfl rfl rfl) (hvQ rfl (zan rfl rfl rfl (zai 1 rfl rfl)) ?_)))))))
   refine zbj rfl rfl rfl rfl rfl rfl (fun h8 => ?_) (fun h8 => ?_)
   ·
    refine zag 1 rfl (zbu (zaw (zaj rfl (zav (zag 1 rfl (hvQ rfl (fdQ 1 rfl rfl rfl) (hvQ rfl (zan rfl rfl rfl (zai 1 rfl rfl)) (zag 1 rfl (hvQ rfl (rv_shr rfl rfl rfl (by omega)) (hvQ rfl (zcl rfl (by decide) rfl rfl (r := (os.getD p oq0).a / 2 ^ k % 2) (by rw [show ((os.getD p oq0).a / 2 ^ ((k : Int)).toNat : Int) = (os.getD p oq0).a / 2 ^ k by rw [Int.toNat_natCast]]; exact and1N _)) ?_))))))))))
    refine zey rfl (zas (z := .int .i64 0) (s := 1) (cs := ([(os.getD p oq0).a / 2 ^ k % 2].map (Value.int .i64))) rfl Try.underlying48 rfl (by decide) rfl (by kernel_rfl) rfl) ?_
    intro g9
    refine zdc (i := 1) (z := .int .i64 0) (bytes := 8) rfl rfl rfl rfl Try.underlying48 (by kernel_rfl) rfl rfl rfl rfl (zao 0 rfl) (zcj _) (by first | omega | (simp; done) | (simp; omega)) (zco (lfL (rs.map CRow.xs) (os.getD p oq0) k) ([(os.getD p oq0).a / 2 ^ k % 2])) (zcx (lfL (rs.map CRow.xs) (os.getD p oq0) k) ([(os.getD p oq0).a / 2 ^ k % 2])) (fun _ => rfl) ?_
    intro v10
    refine enQ 1 rfl (zbt (zdn (reQ 1 rfl (hvQ rfl (vaQ rfl rfl rfl) ?_))))
    have hlf8 := hlf9 (by omega)
    refine enQ 1 rfl ?_
    have hlb : lfB (rs.map CRow.xs) (os.getD p oq0) k = (os.getD p oq0).a / 2 ^ k % 2 := by unfold lfB; first | exact if_pos (by omega) | exact (if_neg (by omega)).trans ((if_pos (by omega)).trans (by rw [sb_at] <;> rfl)) | exact (if_neg (by omega)).trans ((if_neg (by omega)).trans ((if_pos (by omega)).trans (by rw [sb_at] <;> rfl))) | exact (if_neg (by omega)).trans ((if_neg (by omega)).trans (if_neg (by omega)))
    have hset : (lfL (rs.map CRow.xs) (os.getD p oq0) k) ++ ([(os.getD p oq0).a / 2 ^ k % 2]) = lfL (rs.map CRow.xs) (os.getD p oq0) (k + 1) := by rw [lf_succ, hlb]
    rw [hset]
    exact zci (k + 1) v10 (by omega) (by omega) (saQ rfl) (slQ [1, 0, 0, 0] rfl)
   refine zbc 1 rfl (zal rfl (srQ (hvQ rfl (fdQ 0 rfl rfl rfl) (hvQ rfl (zan rfl rfl rfl (zai 1 rfl rfl)) ?_))))
   refine zbj rfl rfl rfl rfl rfl rfl (fun h11 => ?_) (fun h11 => ?_)
   ·
    refine zbc 1 rfl (zaj rfl (reQ 2 rfl (hvQ rfl (fdQ 1 rfl rfl rfl) (hvQ rfl (zan rfl rfl rfl (zai 1 rfl rfl)) (hvQ rfl (riQ 1 rfl rfl rfl rfl (zap hsv)) ?_)))))
    refine hvQ rfl (zba (u := (rs.getD (((os.getD p oq0).a).toNat) crow0).v) rfl rfl rfl (zap hsv) (zcv crowC (fun r => r.v) (fun _ => rfl) rs crow0 (show ((os.getD p oq0).a).toNat < _ by omega))) (zag 1 rfl ?_)
    refine zdu rfl (zam rfl rfl (fun w hm => zbb (l11Pick_ans ((rs.getD (((os.getD p oq0).a).toNat) crow0).xs) _ k w ((hra.at (k := (os.getD p oq0).a.toNat) (by omega)).below hm.bel)))) (zey rfl (zas (z := .int .i64 0) (s := 1) (cs := ([(((rs.getD (((os.getD p oq0).a).toNat) crow0).xs).getD k 0)].map (Value.int .i64))) rfl Try.underlying48 rfl (by decide) rfl (by kernel_rfl) rfl) ?_)
    intro g12
    refine zdc (i := 1) (z := .int .i64 0) (bytes := 8) rfl rfl rfl rfl Try.underlying48 (by kernel_rfl) rfl rfl rfl rfl (zao 0 rfl) (zcj _) (by first | omega | (simp; done) | (simp; omega)) (zco (lfL (rs.map CRow.xs) (os.getD p oq0) k) ([(((rs.getD (((os.getD p oq0).a).toNat) crow0).xs).getD k 0)])) (zcx (lfL (rs.map CRow.xs) (os.getD p oq0) k) ([(((rs.getD (((os.getD p oq0).a).toNat) crow0).xs).getD k 0)])) (fun _ => rfl) ?_
    intro v13
    refine enQ 1 rfl (zbt (zdn (reQ 1 rfl (hvQ rfl (vaQ rfl rfl rfl) ?_))))
    have hlf8 := hlf9 (by omega)
    refine enQ 1 rfl ?_
    have hlb : lfB (rs.map CRow.xs) (os.getD p oq0) k = (((rs.getD (((os.getD p oq0).a).toNat) crow0).xs).getD k 0) := by unfold lfB; first | exact if_pos (by omega) | exact (if_neg (by omega)).trans ((if_pos (by omega)).trans (by rw [sb_at] <;> rfl)) | exact (if_neg (by omega)).trans ((if_neg (by omega)).trans ((if_pos (by omega)).trans (by rw [sb_at] <;> rfl))) | exact (if_neg (by omega)).trans ((if_neg (by omega)).trans (if_neg (by omega)))
    have hset : (lfL (rs.map CRow.xs) (os.getD p oq0) k) ++ ([(((rs.getD (((os.getD p oq0).a).toNat) crow0).xs).getD k 0)]) = lfL (rs.map CRow.xs) (os.getD p oq0) (k + 1) := by rw [lf_succ, hlb]
    rw [hset]
    exact zci (k + 1) v13 (by omega) (by omega) (saQ rfl) (slQ [1, 0, 0, 0] rfl)
   refine zbc 1 rfl (zal rfl (zac (reQ 1 rfl ?_)))
   refine zbj rfl rfl rfl rfl rfl rfl (fun h14 => ?_) (fun h14 => ?_)
   ·
    refine zbc 1 rfl (zaj rfl ?_)
    refine hc_draw rfl 10 [0, 1, 2, 3, 4, 5, 6, 7, 8, 9] (List.take 10 _) (List.drop 10 _) [[], [], [], [2], [1, 3], [4], [], [6], [5, 7], [8]] [72, 73, 74, 75, 76, 77, 78, 79, 80, 81] (fun i_ vs_ v_ p_ => match i_ with | 0 => v_ = uv ∧ p_ = [] | 1 => v_ = sv ∧ p_ = [] | 2 => v_ = .pointer (some ⟨b3, 0 + 1, none⟩) ∧ p_ = [] | 3 => v_ = .int .i64 ((os.getD p oq0).a) ∧ p_ = [] | 4 => v_ = elP sv (((os.getD p oq0).a).toNat * 1) ∧ p_ = [] | 5 => v_ = (rs.getD (((os.getD p oq0).a).toNat) crow0).v ∧ p_ = [] | 6 => v_ = .pointer (some ⟨b3, 0 + 2, none⟩) ∧ p_ = [] | 7 => v_ = .int .i64 ((os.getD p oq0).b) ∧ p_ = [] | 8 => v_ = .int .i64 (((rs.getD (((os.getD p oq0).a).toNat) crow0).xs).getD (((os.getD p oq0).b).toNat) 0) ∧ p_ = [] | 9 => IsRow 3 1 1 ([(((rs.getD (((os.getD p oq0).a).toNat) crow0).xs).getD (((os.getD p oq0).b).toNat) 0)].map (Value.int .i64)) v_ p_ | _ => True) (List.take_append_drop 10 _).symm (by kernel_rfl) (by kernel_rfl) rfl rfl ?_ ?_
    ·
     refine ⟨?_, ?_, ?_, ?_, ?_, ?_, ?_, ?_, ?_, ?_, trivial⟩
     ·
      intro vf pf hR
      exact ovQ rfl (zae [14] rfl) (zbi (zax rfl))
     ·
      intro vf pf hR
      exact ovQ rfl (zae [1] rfl) (zbi (zax rfl))
     ·
      intro vf pf hR
      exact ovQ rfl (zae [13] rfl) (zbi (fdQ 1 rfl rfl rfl))
     ·
      intro vf pf hR
      have e2 := hR 2 (by decide)
      exact olQ rfl (sk 74 (congrArg some e2.1) (zab _)) (zbi (zan rfl rfl rfl (zai 1 rfl rfl)))
     ·
      intro vf pf hR
      have e1 := hR 1 (by decide)
      have e3 := hR 3 (by decide)
      exact olQ rfl (sk 73 (congrArg some e1.1) (sk 75 (congrArg some e3.1) (zab _))) (zbi (riQ 1 rfl rfl rfl rfl (zap hsv)))
     ·
      intro vf pf hR
      have e4 := hR 4 (by decide)
      exact olQ rfl (sk 76 (congrArg some e4.1) (zab _)) (zbi (zba (u := (rs.getD (((os.getD p oq0).a).toNat) crow0).v) rfl rfl rfl (zap hsv) (zcv crowC (fun r => r.v) (fun _ => rfl) rs crow0 (show ((os.getD p oq0).a).toNat < _ by omega))))
     ·
      intro vf pf hR
      exact ovQ rfl (zae [13] rfl) (zbi (fdQ 2 rfl rfl rfl))
     ·
      intro vf pf hR
      have e6 := hR 6 (by decide)
      exact olQ rfl (sk 78 (congrArg some e6.1) (zab _)) (zbi (zan rfl rfl rfl (zai 1 rfl rfl)))
     ·
      intro vf pf hR
      have e5 := hR 5 (by decide)
      have e7 := hR 7 (by decide)
      exact olQ rfl (sk 77 (congrArg some e5.1) (sk 79 (congrArg some e7.1) (zab _))) (zam rfl rfl (fun w hm => zbb (by have h9 := l11Pick_ans ((rs.getD (((os.getD p oq0).a).toNat) crow0).xs) _ (((os.getD p oq0).b).toNat) w ((hra.at (k := (os.getD p oq0).a.toNat) (by omega)).below hm.bel); rw [Int.toNat_of_nonneg (by omega)] at h9; exact h9)))
     intro vf pf hR
     have e8 := hR 8 (by decide)
     exact olQ rfl (sk 80 (congrArg some e8.1) (zab _)) (zas (z := .int .i64 0) (s := 1) (cs := ([(((rs.getD (((os.getD p oq0).a).toNat) crow0).xs).getD (((os.getD p oq0).b).toNat) 0)].map (Value.int .i64))) rfl Try.underlying48 rfl (by decide) rfl (by kernel_rfl) rfl)
    intro vf pf hR
    have e0 := hR 0 (by decide)
    have e9 : IsRow 3 1 1 ([(((rs.getD (((os.getD p oq0).a).toNat) crow0).xs).getD (((os.getD p oq0).b).toNat) 0)].map (Value.int .i64)) (vf 9) (pf 9) := hR 9 (by decide)
    obtain ⟨g15, vE9, pE9⟩ := e9
    have q0 := hR 0 (by decide)
    have q1 := hR 1 (by decide)
    have q2 := hR 2 (by decide)
    have q3 := hR 3 (by decide)
    have q4 := hR 4 (by decide)
    have q5 := hR 5 (by decide)
    have q6 := hR 6 (by decide)
    have q7 := hR 7 (by decide)
    have q8 := hR 8 (by decide)
    refine zcd (zbs [69, 55, 43, 37, 34, 15, 14, 13, 12, 11, 10, 5, 4, 3, 2, 1, 0] _ (sk 72 (congrArg some e0.1) (sk 81 (congrArg some vE9) (zab _))) rfl) (by simp only [pE9, vE9, q0.2, q1.2, q2.2, q3.2, q4.2, q5.2, q6.2, q7.2, q8.2, fS] <;> rfl) ?_
    simp only [List.drop_succ_cons, List.drop_zero]
    refine zdc (i := 1) (z := .int .i64 0) (bytes := 8) rfl rfl rfl rfl Try.underlying48 (by kernel_rfl) rfl rfl rfl rfl (zao 0 rfl) (zcj _) (by first | omega | (simp; done) | (simp; omega)) (zco (lfL (rs.map CRow.xs) (os.getD p oq0) k) ([(((rs.getD (((os.getD p oq0).a).toNat) crow0).xs).getD (((os.getD p oq0).b).toNat) 0)])) (zcx (lfL (rs.map CRow.xs) (os.getD p oq0) k) ([(((rs.getD (((os.getD p oq0).a).toNat) crow0).xs).getD (((os.getD p oq0).b).toNat) 0)])) (fun _ => rfl) ?_
    intro v16
    refine enQ 1 rfl (zbt (zdn (reQ 1 rfl (hvQ rfl (vaQ rfl rfl rfl) ?_))))
    have hlf8 := hlf9 (by omega)
    refine enQ 1 rfl ?_
    have hlb : lfB (rs.map CRow.xs) (os.getD p oq0) k = (((rs.getD (((os.getD p oq0).a).toNat) crow0).xs).getD (((os.getD p oq0).b).toNat) 0) := by unfold lfB; first | exact if_pos (by omega) | exact (if_neg (by omega)).trans ((if_pos (by omega)).trans (by rw [sb_at] <;> rfl)) | exact (if_neg (by omega)).trans ((if_neg (by omega)).trans ((if_pos (by omega)).trans (by rw [sb_at] <;> rfl))) | exact (if_neg (by omega)).trans ((if_neg (by omega)).trans (if_neg (by omega)))
    have hset : (lfL (rs.map CRow.xs) (os.getD p oq0) k) ++ ([(((rs.getD (((os.getD p oq0).a).toNat) crow0).xs).getD (((os.getD p oq0).b).toNat) 0)]) = lfL (rs.map CRow.xs) (os.getD p oq0) (k + 1) := by rw [lf_succ, hlb]
    rw [hset]
    exact zci (k + 1) v16 (by omega) (by omega) (saQ rfl) (slQ [1, 0, 0, 0] rfl)
   refine zbc 1 rfl (zal rfl (reQ 1 rfl ?_))
   refine zey rfl (zas (z := .int .i64 0) (s := 1) (cs := ([0].map (Value.int .i64))) rfl Try.underlying48 rfl (by decide) rfl (by kernel_rfl) rfl) ?_
   intro g17
   refine zdc (i := 1) (z := .int .i64 0) (bytes := 8) rfl rfl rfl rfl Try.underlying48 (by kernel_rfl) rfl rfl rfl rfl (zao 0 rfl) (zcj _) (by first | omega | (simp; done) | (simp; omega)) (zco (lfL (rs.map CRow.xs) (os.getD p oq0) k) ([0])) (zcx (lfL (rs.map CRow.xs) (os.getD p oq0) k) ([0])) (fun _ => rfl) ?_
   intro v18
   refine enQ 1 rfl (zbt (zdn (reQ 1 rfl (hvQ rfl (vaQ rfl rfl rfl) ?_))))
   have hlf8 := hlf9 (by omega)
   refine enQ 1 rfl ?_
   have hlb : lfB (rs.map CRow.xs) (os.getD p oq0) k = 0 := by unfold lfB; first | exact if_pos (by omega) | exact (if_neg (by omega)).trans ((if_pos (by omega)).trans (by rw [sb_at] <;> rfl)) | exact (if_neg (by omega)).trans ((if_neg (by omega)).trans ((if_pos (by omega)).trans (by rw [sb_at] <;> rfl))) | exact (if_neg (by omega)).trans ((if_neg (by omega)).trans (if_neg (by omega)))
   have hset : (lfL (rs.map CRow.xs) (os.getD p oq0) k) ++ ([0]) = lfL (rs.map CRow.xs) (os.getD p oq0) (k + 1) := by rw [lf_succ, hlb]
   rw [hset]
   exact zci (k + 1) v18 (by omega) (by omega) (saQ rfl) (slQ [1, 0, 0, 0] rfl)
  refine ntQ (zal rfl ?_)
  refine zby (zes ?_)
  refine zat (zaw (srQ (hvQ rfl (zar (cs := [.int .i64 n.ins, n.sv, n.av, n.ov]) rfl rfl rfl rfl rfl (zah 3 rfl 0 rfl)) (zag 2 rfl ?_))))
  refine zbm (cs' := #[.int .i64 n.ins, n.sv, n.av, n.ov]) (i := 2) (off := 0) (us := [.int .i64 n.ins, n.sv, n.av, n.ov]) rfl rfl rfl rfl rfl rfl rfl (zaa rfl (zaa hr.sq.one (zaa hr.an.one (zaa hr.ou.one zbe)))) rfl rfl rfl (zbc 2 rfl ?_)
  refine zak (zad ?_)
  refine zcu _ zfq ?_
  rw [show k = W by omega]
  have hlf := leaf_bits (g0 := n.gs) (g := n.gs) hW hn (Ext.refl hn) hS hop (by omega) (h1k p hp)
  refine zaz 5 [3, 1, 0] rfl rfl (by decide) ?_
  exact zca (rs := [.cell 10 70, .tmp 11, .tmp 12]) (vs := [.agg #[.int .i64 n.ins, n.sv, n.av, n.ov], uv, .int .i64 ((p : Int) + 1)]) (post := [bigE [], rowE 3 1 uv ((lfL (rs.map CRow.xs) (os.getD p oq0) W).length) ((lfL (rs.map CRow.xs) (os.getD p oq0) W).map (Value.int .i64))]) rfl ⟨⟨b2, 0, [.int .i64 n.ins, n.sv, n.av, n.ov], rfl, rfl, by kernel_rfl, by kernel_rfl, zah 2 rfl 0 rfl⟩, rfl, rfl, trivial⟩ rfl (slQ [0, 0] rfl) ⟨[], n, _, _, (by rw [en_0 (by omega)]; rfl), rfl, .inl rfl, ⟨hr.sq.one, hr.an.one, hr.ou.one⟩, Gr.refl hn, hlf.2.1, ls_bndE hlf.1, es_fin (i := 0) (by omega) (ES.one (a := (n.gs, ([] : List (List Int))))) (fun _ => by rw [fin_leafE (by omega)]; exact .inl ⟨fun h9 => h9 (lf_posE hlf.1), rfl⟩) False.elim⟩
 refine ntQ (zal rfl (zdb (srQ ?_)))
 have hl1 : (p + 1) < os.length := posA_lt hok hpf hp 0 (by omega)
 have hp1 : p < (p + 1) := (posA_ok hok hpf hp 0 (by omega)).1
 refine hvQ rfl (zar (cs := [.int .i64 n.ins, n.sv, n.av, n.ov]) rfl rfl rfl rfl rfl (zah 3 rfl 0 rfl)) (zag 4 rfl ?_)
 refine zfg rfl rfl rfl (zam rfl rfl (fun w hm => IH (p + 1) n w (by omega) hl1 (hr.below hm.bel) hn hS (hsv.below hm.bel) (hra.sub9 hm.bel) (hv.below hm.bel))) ?_
 intro v19 p20 hR21
 obtain ⟨pshR21, mhR21, zvhR21, zshR21, rfl, rfl, hN0mhR21, ⟨o1mhR21, o2mhR21, o3mhR21⟩, G0mhR21, zlhR21, zbhR21, zehR21⟩ := hR21
 have fmhR21 : mhR21.fst = n.fst := G0mhR21.fst
 have GmhR21 : Gr n mhR21 := G0mhR21
 have hNmhR21 := hN0mhR21
 have cmhR21 := G0mhR21.cnt
 have rmhR21 := zdw GmhR21.ok
 refine zag 4 rfl (zbm (cs' := #[.int .i64 mhR21.ins, mhR21.sv, mhR21.av, mhR21.ov]) (i := 5) (off := 0) (us := [.int .i64 mhR21.ins, mhR21.sv, mhR21.av, mhR21.ov]) rfl rfl rfl rfl rfl rfl rfl (zaa rfl (zaa o1mhR21 (zaa o2mhR21 (zaa o3mhR21 zbe)))) rfl rfl rfl ?_)
 refine zbc 2 rfl (zgk (hvQ rfl (fdQ 0 rfl rfl rfl) (hvQ rfl (zan rfl rfl rfl (zai 3 rfl rfl)) ?_)))
 refine zbj rfl rfl rfl rfl rfl rfl (fun h22 => ?_) (fun h22 => ?_)
 ·
  refine ntQ (zaj rfl (zac (hc_keep _ [98, 34, 16, 14, 13, 12, 10, 5, 4, 3, 2, 1, 0] rfl ?_)))
  refine zdo 6 [5, 3, 2, 1, 0, 4] rfl rfl (by decide) ?_
  refine zdq (l := [bigE pshR21, rI9 3 zvhR21 zshR21, rowE 3 1 (.slice (some ⟨g4, 0, none⟩) 0 0) 0 ([]), boxE b3 #[.int .i64 ((os.getD p oq0).k), .int .i64 ((os.getD p oq0).a), .int .i64 ((os.getD p oq0).b)] 97, nB9 b1 mhR21]) rfl 6 [0, 1, 2, 3, 4, 5] (List.take 6 _) (List.drop 6 _) [[], [], [1], [], [0], [2]] [some 99, some 100, some 101, some 102, none, some 11] (fun i_ vs_ v_ p_ => match i_ with | 0 => v_ = .agg #[.int .i64 mhR21.ins, mhR21.sv, mhR21.av, mhR21.ov] ∧ p_ = [] | 1 => v_ = zvhR21 ∧ p_ = [] | 2 => (fun v' post => post = [rI9 3 v' ((zshR21.map ntL))]) v_ p_ | 3 => v_ = .int .i64 (enX os f (p + 1) : Int) ∧ p_ = [] | 4 => p_ = [nB9 b2 mhR21] | 5 => v_ = (gV9 vs_ 0) ∧ p_ = [] | _ => True) [[], [], [1], [], [0], [2]] [none, none, none, none, some 7, none] [[eB9 b2]] [0, 1, 2, 3, 4, 5] 7 (List.take_append_drop 6 _).symm (by kernel_rfl) (by kernel_rfl) (by kernel_rfl) rfl rfl ?_ ?_
  ·
   refine ⟨?_, ?_, ?_, ?_, ?_, ?_, trivial⟩
   ·
    intro vf pf hmu hR
    refine zce [] [] rfl (zaq (zae [5] rfl) (List.sublist_append_right _ _) ?_)
    exact zbi (zar (cs := [.int .i64 mhR21.ins, mhR21.sv, mhR21.av, mhR21.ov]) rfl rfl rfl rfl rfl (zah 4 rfl 0 rfl))
   ·
    intro vf pf hmu hR
    refine zce [] [] rfl (zay (zae [16] rfl) ?_)
    exact zbi (zax rfl)
   ·
    intro vf pf hmu hR
    have e1 := hR 1 (by decide)
    refine zce [1] [1] rfl (zaq (sk 100 (congrArg some e1.1) (zab _)) (List.sublist_append_right _ _) ?_)
    exact zam rfl rfl (fun w hm => l11Not_ret zshR21 _ w ((zao 1 rfl) w hm) (fun x hx => by have h9 := zbhR21 x hx; omega) (by omega))
   ·
    intro vf pf hmu hR
    refine zce [] [] rfl (zay (zae [3] rfl) ?_)
    exact zbi (zax rfl)
   ·
    intro vf pf hmu hR
    have e0 := hR 0 (by decide)
    refine Or.inl ⟨rfl, ?_⟩
    show RunM _ _ _ (pf 7) (([0] : List Nat).flatMap pf ++ _) (envOf3 _ vf [0] ++ _) _ _
    have hmu0 : pf 7 = [eB9 b2] := hmu 0 (show 0 < 1 by omega)
    rw [hmu0]
    exact zbx (sk 10 rfl (sk 99 (congrArg some e0.1) (zab _))) (by simp only [e0.2, fS] <;> rfl) (zel (zcs (us := [.int .i64 mhR21.ins, mhR21.sv, mhR21.av, mhR21.ov]) (off := 0) 0 rfl rfl rfl rfl rfl rfl (zaa rfl (zaa o1mhR21 (zaa o2mhR21 (zaa o3mhR21 zbe)))) rfl rfl) (fun v_ p_ h => by show p_ = [nB9 b2 mhR21]; exact h))
   intro vf pf hmu hR
   have e2 : (fun v' post => post = [rI9 3 v' ((zshR21.map ntL))]) (vf 2) (pf 2) := hR 2 (by decide)
   obtain ⟨v23, vE2⟩ : ∃ x, vf 2 = x := ⟨_, rfl⟩
   obtain ⟨p24, pE2⟩ : ∃ x, pf 2 = x := ⟨_, rfl⟩
   have hR25 := e2
   rw [vE2, pE2] at hR25
   subst hR25
   refine zce [2] [2] rfl (zbg (sk 101 (congrArg some vE2) (zab _)) (by simp only [pE2, vE2, fS] <;> rfl) ?_)
   exact zbo (zbi (zax rfl)) (fun _ _ h => ⟨h.1.trans (by show _ = ((vf 2) : Value); first | (rw [vE2]; done) | (rw [vE2]; rfl)), h.2⟩)
  intro vf pf hmu hR
  have e2 : (fun v' post => post = [rI9 3 v' ((zshR21.map ntL))]) (vf 2) (pf 2) := hR 2 (by decide)
  obtain ⟨v23, vE2⟩ : ∃ x, vf 2 = x := ⟨_, rfl⟩
  obtain ⟨p24, pE2⟩ : ∃ x, pf 2 = x := ⟨_, rfl⟩
  have hR25 := e2
  rw [vE2, pE2] at hR25
  subst hR25
  have e3 := hR 3 (by decide)
  have e4 : (pf 4) = [nB9 b2 mhR21] := hR 4 (by decide)
  have pE4 := e4
  have e5 : (vf 5) = (vf 2) ∧ (pf 5) = [] := hR 5 (by decide)
  rw [vE2] at e5
  have q0 := hR 0 (by decide)
  have q1 := hR 1 (by decide)
  have q3 := hR 3 (by decide)
  have q5 := hR 5 (by decide)
  refine zcd (zbs [10, 5, 4, 3, 2, 1, 0] _ (sk 11 (congrArg some e5.1) (zbs [98, 34, 16, 14, 13, 12] _ (sk 102 (congrArg some e3.1) (zab _)) rfl)) rfl) (by simp only [pE2, vE2, pE4, q0.2, q1.2, q3.2, q5.2, fS] <;> rfl) ?_
  simp only [List.drop_succ_cons, List.drop_zero]
  refine zbc 1 rfl ?_
  refine zak (zad ?_)
  refine zaz 7 [1, 0, 2] rfl rfl (by decide) ?_
  exact zca (rs := [.cell 10 70, .tmp 11, .tmp 12]) (vs := [.agg #[.int .i64 mhR21.ins, mhR21.sv, mhR21.av, mhR21.ov], v23, .int .i64 (enX os f (p + 1) : Int)]) (post := [bigE pshR21, rowE 3 1 v23 ((zshR21.map ntL).length) ((zshR21.map ntL).map (Value.int .i64))]) rfl ⟨⟨b2, 0, [.int .i64 mhR21.ins, mhR21.sv, mhR21.av, mhR21.ov], rfl, rfl, by kernel_rfl, by kernel_rfl, zah 2 rfl 0 rfl⟩, rfl, rfl, trivial⟩ rfl (slQ [0, 0] rfl) ⟨_, mhR21, _, _, (by rw [en_4 (by omega)]; rfl), rfl, hNmhR21, ⟨o1mhR21, o2mhR21, o3mhR21⟩, GmhR21, (by rw [List.length_map]; exact zlhR21), nt_bnd (by omega) zbhR21, es_fin (i := 1) (by omega) (es_arg (i := 0) (L := []) (ES.one (a := (n.gs, ([] : List (List Int))))) zehR21) (fun h9 => fin_notE (by omega) rfl (Classical.not_not.1 (fun h8 => h9 (.inr h8)))) (fun h9 => nt_npos (h9.resolve_left id))⟩
 refine ntQ (zal rfl (zdb (srQ ?_)))
 have hl2 : (enX os f (p + 1)) < os.length := posA_lt hok hpf hp 1 (by omega)
 have hp2 : p < (enX os f (p + 1)) := (posA_ok hok hpf hp 1 (by omega)).1
 refine hvQ rfl (zar (cs := [.int .i64 mhR21.ins, mhR21.sv, mhR21.av, mhR21.ov]) rfl rfl rfl rfl rfl (zah 5 rfl 0 rfl)) (zag 4 rfl ?_)
 refine zfg rfl rfl rfl (zam rfl rfl (fun w hm => IH (enX os f (p + 1)) mhR21 w (by omega) hl2 (rd_or hNmhR21 (hr.below hm.bel) (hm.holds _ (zbr (i := 0) rfl))) GmhR21.ok (hS.gr GmhR21) (hsv.below hm.bel) (hra.sub9 hm.bel) (hv.below hm.bel))) ?_
 intro v26 p27 hR28
 obtain ⟨pshR28, mhR28, zvhR28, zshR28, rfl, rfl, hN0mhR28, ⟨o1mhR28, o2mhR28, o3mhR28⟩, G0mhR28, zlhR28, zbhR28, zehR28⟩ := hR28
 have fmhR28 : mhR28.fst = n.fst := G0mhR28.fst.trans fmhR21
 have GmhR28 : Gr n mhR28 := GmhR21.trans G0mhR28
 have hNmhR28 := or_tr hNmhR21 hN0mhR28
 have cmhR28 := G0mhR28.cnt
 have rmhR28 := zdw GmhR28.ok
 rw [fmhR21] at zehR28
 refine zag 1 rfl (zew 8 [7, 6, 5, 4, 3, 1, 0, 2] rfl rfl (by decide) ?_)
 refine hl_pool 2 rfl ?_
 refine zag 3 rfl (zbm (cs' := #[.int .i64 mhR28.ins, mhR28.sv, mhR28.av, mhR28.ov]) (i := 6) (off := 0) (us := [.int .i64 mhR28.ins, mhR28.sv, mhR28.av, mhR28.ov]) rfl rfl rfl rfl rfl rfl rfl (zaa rfl (zaa o1mhR28 (zaa o2mhR28 (zaa o3mhR28 zbe)))) rfl rfl rfl ?_)
 refine zbc 2 rfl (zgk (hvQ rfl (fdQ 0 rfl rfl rfl) (hvQ rfl (zan rfl rfl rfl (zai 4 rfl rfl)) ?_)))
 refine hl_neq rfl rfl rfl rfl rfl rfl (fun h29 => ?_) (fun h29 => ?_)
 ·
  refine ntQ (zaj rfl (srQ (hvQ rfl (zar (cs := [.int .i64 mhR28.ins, mhR28.sv, mhR28.av, mhR28.ov]) rfl rfl rfl rfl rfl (zah 6 rfl 0 rfl)) (hvQ rfl (fdQ 0 rfl rfl rfl) (hvQ rfl (zan rfl rfl rfl (zai 4 rfl rfl)) (zag 2 rfl ?_))))))
  refine zfg rfl rfl rfl (zam rfl rfl (fun w hm => l11Two_ret mhR28 (os.getD p oq0).k zshR21 zshR28 _ _ W w (rd_or hNmhR28 (hr.below hm.bel) (hm.holds _ (zbr (i := 0) rfl))) GmhR28.ok ((zao 2 rfl) w hm) ((zao 1 rfl) w hm) zlhR21 zlhR28 hW (fun x hx => by have h9 := zbhR21 x hx; omega) (fun x hx => by have h9 := zbhR28 x hx; omega) (by omega))) ?_
  intro v30 p31 hR32
  obtain ⟨pshR32, mhR32, zvhR32, zshR32, rfl, rfl, hN0mhR32, ⟨o1mhR32, o2mhR32, o3mhR32⟩, G0mhR32, zlhR32, zbhR32, zehR32⟩ := hR32
  have fmhR32 : mhR32.fst = n.fst := G0mhR32.fst.trans fmhR28
  have GmhR32 : Gr n mhR32 := GmhR28.trans G0mhR32
  have hNmhR32 := or_tr hNmhR28 hN0mhR32
  have cmhR32 := G0mhR32.cnt
  have rmhR32 := zdw GmhR32.ok
  rw [fmhR28] at zehR32
  refine zag 3 rfl (zbm (cs' := #[.int .i64 mhR32.ins, mhR32.sv, mhR32.av, mhR32.ov]) (i := 8) (off := 0) (us := [.int .i64 mhR32.ins, mhR32.sv, mhR32.av, mhR32.ov]) rfl rfl rfl rfl rfl rfl rfl (zaa rfl (zaa o1mhR32 (zaa o2mhR32 (zaa o3mhR32 zbe)))) rfl rfl rfl ?_)
  refine zbc 1 rfl (srQ (hvQ rfl (zar (cs := [.int .i64 mhR32.ins, mhR32.sv, mhR32.av, mhR32.ov]) rfl rfl rfl rfl rfl (zah 8 rfl 0 rfl)) (zag 2 rfl ?_)))
  refine zbm (cs' := #[.int .i64 mhR32.ins, mhR32.sv, mhR32.av, mhR32.ov]) (i := 7) (off := 0) (us := [.int .i64 mhR32.ins, mhR32.sv, mhR32.av, mhR32.ov]) rfl rfl rfl rfl rfl rfl rfl (zaa rfl (zaa o1mhR32 (zaa o2mhR32 (zaa o3mhR32 zbe)))) rfl rfl rfl (zbc 2 rfl ?_)
  refine zak (zad ?_)
  refine zaz 9 [7, 1, 0, 2] rfl rfl (by decide) ?_
  refine zbk 2 rfl ?_
  refine zaz 3 [2, 1, 0] rfl rfl (by decide) ?_
  exact zca (rs := [.cell 10 70, .tmp 11, .tmp 12]) (vs := [.agg #[.int .i64 mhR32.ins, mhR32.sv, mhR32.av, mhR32.ov], zvhR32, .int .i64 (enX os f (enX os f (p + 1)) : Int)]) (post := [bigE [bigE [bigE pshR21, bigE pshR28], bigE pshR32], rI9 3 zvhR32 zshR32]) rfl ⟨⟨b2, 0, [.int .i64 mhR32.ins, mhR32.sv, mhR32.av, mhR32.ov], rfl, rfl, by kernel_rfl, by kernel_rfl, zah 2 rfl 0 rfl⟩, rfl, rfl, trivial⟩ rfl (slQ [0, 0] rfl) ⟨_, mhR32, _, _, (by rw [en_two (by omega)]; rfl), rfl, hNmhR32, ⟨o1mhR32, o2mhR32, o3mhR32⟩, GmhR32, zlhR32, zbhR32, es_fin (i := 2) (by omega) (es_arg (i := 1) (es_arg (i := 0) (L := []) (ES.one (a := (n.gs, ([] : List (List Int))))) zehR21) zehR28) (fun _ => by rw [fin_twoE (by omega)]; exact zehR32) (es_two zehR32 zlhR21 zlhR28)⟩
 refine ntQ (zal rfl (zdb (srQ ?_)))
 have hl3 : (enX os f (enX os f (p + 1))) < os.length := posA_lt hok hpf hp 2 (by omega)
 have hp3 : p < (enX os f (enX os f (p + 1))) := (posA_ok hok hpf hp 2 (by omega)).1
 refine hvQ rfl (zar (cs := [.int .i64 mhR28.ins, mhR28.sv, mhR28.av, mhR28.ov]) rfl rfl rfl rfl rfl (zah 6 rfl 0 rfl)) (zag 4 rfl ?_)
 refine zfg rfl rfl rfl (zam rfl rfl (fun w hm => IH (enX os f (enX os f (p + 1))) mhR28 w (by omega) hl3 (rd_or hNmhR28 (hr.below hm.bel) (hm.holds _ (zbr (i := 0) rfl))) GmhR28.ok (hS.gr GmhR28) (hsv.below hm.bel) (hra.sub9 hm.bel) (hv.below hm.bel))) ?_
 intro v33 p34 hR35
 obtain ⟨pshR35, mhR35, zvhR35, zshR35, rfl, rfl, hN0mhR35, ⟨o1mhR35, o2mhR35, o3mhR35⟩, G0mhR35, zlhR35, zbhR35, zehR35⟩ := hR35
 have fmhR35 : mhR35.fst = n.fst := G0mhR35.fst.trans fmhR28
 have GmhR35 : Gr n mhR35 := GmhR28.trans G0mhR35
 have hNmhR35 := or_tr hNmhR28 hN0mhR35
 have cmhR35 := G0mhR35.cnt
 have rmhR35 := zdw GmhR35.ok
 rw [fmhR28] at zehR35
 refine zag 1 rfl (zew 9 [8, 7, 6, 5, 4, 3, 1, 0, 2] rfl rfl (by decide) ?_)
 refine hl_pool 2 rfl ?_
 refine zag 3 rfl (zbm (cs' := #[.int .i64 mhR35.ins, mhR35.sv, mhR35.av, mhR35.ov]) (i := 7) (off := 0) (us := [.int .i64 mhR35.ins, mhR35.sv, mhR35.av, mhR35.ov]) rfl rfl rfl rfl rfl rfl rfl (zaa rfl (zaa o1mhR35 (zaa o2mhR35 (zaa o3mhR35 zbe)))) rfl rfl rfl ?_)
 refine zbc 2 rfl (zbn 1 rfl (zac (zac (reQ 1 rfl ?_))))
 refine ntQ (zbf ?_)
 refine lkQ2 (α := Nat) (β := RSt) [0, 1, 2, 3, 4, 5, 10, 11, 12, 13, 14, 16, 17, 18, 34, 98, 115] rfl (fun k q => [bigE q.ps, rI9 3 zvhR35 zshR35, rI9 3 zvhR28 zshR28, rI9 3 zvhR21 zshR21, rowE 3 1 (.slice (some ⟨g4, 0, none⟩) 0 0) 0 ([]), boxE b3 #[.int .i64 ((os.getD p oq0).k), .int .i64 ((os.getD p oq0).a), .int .i64 ((os.getD p oq0).b)] 97, eB9 b2, nB9 b1 q.N]) (fun k q => [(19, .int .i64 q.c), (20, .int .i64 (k : Int))]) (fun k q => k ≤ W ∧ Gr n q.N ∧ (q.N = n ∨ ∀ w, (bigE q.ps).holds w → RdsNt w q.N) ∧ (q.N.sv.oneCell' = true ∧ q.N.av.oneCell' = true ∧ q.N.ov.oneCell' = true) ∧ mhR35.cnt ≤ q.N.cnt ∧ q.c < 2 * q.N.cnt ∧ ES (q.c < 0) (itO (orS n.fst zshR21) (mhR35.gs, 0) k) (q.N.gs, q.c)) (fun k q => W - k) 0 ⟨mhR35, [bigE [bigE pshR21, bigE pshR28], bigE pshR35], 0, [], .slice none 0 0⟩ ⟨Nat.zero_le _, GmhR35, hNmhR35, ⟨o1mhR35, o2mhR35, o3mhR35⟩, Int.le_refl _, (by dsimp only; omega), .inl ⟨(by dsimp only; omega), rfl⟩⟩ (saQ rfl) (pfQ rfl) ?_
 intro k q hi36
 obtain ⟨hkq, hGq, hNq, ⟨o1q, o2q, o3q⟩, hbq, hcq, hEq⟩ := hi36
 have cq := hGq.cnt
 have rq := zdw hGq.ok
 refine zac (zac (reQ 2 rfl ?_))
 refine zcb rfl rfl rfl rfl rfl rfl (fun h37 => ?_) (fun h37 => ?_)
 ·
  refine ntQ (zaj rfl (zdb (sbQ ?_)))
  have hAk := zbhR21 _ (zbd (d := 0) (show k < zshR21.length by omega))
  refine zdo 8 [6, 5, 4, 3, 2, 1, 0, 7] rfl rfl (by decide) ?_
  refine zdq (l := [bigE q.ps, rI9 3 zvhR35 zshR35, rI9 3 zvhR28 zshR28, rI9 3 zvhR21 zshR21, rowE 3 1 (.slice (some ⟨g4, 0, none⟩) 0 0) 0 ([]), boxE b3 #[.int .i64 ((os.getD p oq0).k), .int .i64 ((os.getD p oq0).a), .int .i64 ((os.getD p oq0).b)] 97, eB9 b2]) rfl 11 [0, 1, 2, 3, 4, 5, 6, 7, 8, 9, 10] (List.take 11 _) (List.drop 11 _) [[], [], [], [], [2, 3], [4], [0, 1, 5], [6], [6, 7], [6, 7], [6, 8]] [some 144, some 145, some 146, some 147, some 148, some 149, some 150, some 143, some 151, some 152, none] (fun i_ vs_ v_ p_ => match i_ with | 0 => v_ = .agg #[.int .i64 q.N.ins, q.N.sv, q.N.av, q.N.ov] ∧ p_ = [] | 1 => v_ = .int .i64 q.c ∧ p_ = [] | 2 => v_ = zvhR21 ∧ p_ = [] | 3 => v_ = .int .i64 (k : Int) ∧ p_ = [] | 4 => v_ = elP zvhR21 (((k : Int)).toNat * 1) ∧ p_ = [] | 5 => v_ = .int .i64 (zshR21.getD k 0) ∧ p_ = [] | 6 => (fun u_ p_ => GP9 q.N (orO q.N.fst q.N.gs q.c (zshR21.getD k 0)) u_ p_) v_ p_ | 7 => v_ = .tuple #[.agg #[.int .i64 (intOf_o (ag9 0 (tp9 0 (gV9 vs_ 0)))), (ag9 1 (tp9 0 (gV9 vs_ 0))), (ag9 2 (tp9 0 (gV9 vs_ 0))), (ag9 3 (tp9 0 (gV9 vs_ 0)))], .int .i64 (intOf_o (tp9 1 (gV9 vs_ 0)))] ∧ p_ = [] | 8 => v_ = .agg #[.int .i64 (intOf_o (ag9 0 (tp9 0 (gV9 vs_ 0)))), (ag9 1 (tp9 0 (gV9 vs_ 0))), (ag9 2 (tp9 0 (gV9 vs_ 0))), (ag9 3 (tp9 0 (gV9 vs_ 0)))] ∧ p_ = [] | 9 => v_ = .int .i64 (intOf_o (tp9 1 (gV9 vs_ 0))) ∧ p_ = [] | 10 => p_ = [boxE b1 #[.int .i64 (intOf_o (ag9 0 (tp9 0 (gV9 vs_ 0)))), (ag9 1 (tp9 0 (gV9 vs_ 0))), (ag9 2 (tp9 0 (gV9 vs_ 0))), (ag9 3 (tp9 0 (gV9 vs_ 0)))] 70] | _ => True) [[12], [], [], [], [2, 3], [4], [0, 1, 5], [6], [6, 7], [6, 7], [6, 8]] [none, none, none, none, none, none, none, none, none, none, some 12] [[nB9 b1 q.N]] [0, 1, 2, 3, 4, 5, 6, 7, 8, 9, 10] 12 (List.take_append_drop 11 _).symm (by kernel_rfl) (by kernel_rfl) (by kernel_rfl) rfl rfl ?_ ?_
  ·
   refine ⟨?_, ?_, ?_, ?_, ?_, ?_, ?_, ?_, ?_, ?_, ?_, trivial⟩
   ·
    intro vf pf hmu hR
    refine zce [12] [] rfl ?_
    have hmu0 : pf 12 = [nB9 b1 q.N] := hmu 0 (show 0 < 1 by omega)
    exact zbg (zae [5] rfl) (by simp only [hmu0, fS] <;> rfl) (zbi (zar (cs := [.int .i64 q.N.ins, q.N.sv, q.N.av, q.N.ov]) rfl rfl rfl rfl rfl (zah 0 rfl 0 rfl)))
   ·
    intro vf pf hmu hR
    refine zce [] [] rfl (zay (zae [19] rfl) ?_)
    exact zbi (zax rfl)
   ·
    intro vf pf hmu hR
    refine zce [] [] rfl (zay (zae [16] rfl) ?_)
    exact zbi (zax rfl)
   ·
    intro vf pf hmu hR
    refine zce [] [] rfl (zay (zae [20] rfl) ?_)
    exact zbi (zax rfl)
   ·
    intro vf pf hmu hR
    have e2 := hR 2 (by decide)
    have e3 := hR 3 (by decide)
    refine zce [2, 3] [2, 3] rfl (zaq (sk 146 (congrArg some e2.1) (sk 147 (congrArg some e3.1) (zab _))) (List.sublist_append_right _ _) ?_)
    exact zbi (riQ 1 rfl rfl rfl rfl (zao 3 rfl))
   ·
    intro vf pf hmu hR
    have e4 := hR 4 (by decide)
    refine zce [4] [4] rfl (zaq (sk 148 (congrArg some e4.1) (zab _)) (List.sublist_append_right _ _) ?_)
    exact zbi (liQ rfl rfl rfl (zao 3 rfl))
   ·
    intro vf pf hmu hR
    have e0 := hR 0 (by decide)
    have e1 := hR 1 (by decide)
    have e5 := hR 5 (by decide)
    refine zce [0, 1, 5] [0, 1, 5] rfl (zaq (sk 144 (congrArg some e0.1) (sk 145 (congrArg some e1.1) (sk 149 (congrArg some e5.1) (zab _)))) (List.sublist_append_right _ _) ?_)
    exact zam rfl rfl (fun w hm => AddOrG_ret q.N q.c (zshR21.getD k 0) w (rd_or hNq (hr.below hm.bel) (hm.holds _ (zbr (i := 0) rfl))) hGq.ok (by first | omega | exact zcy (by omega) (by omega)) (by first | omega | exact zcy (by omega) (by omega)))
   ·
    intro vf pf hmu hR
    have e6 : (fun u_ p_ => GP9 q.N (orO q.N.fst q.N.gs q.c (zshR21.getD k 0)) u_ p_) (vf 6) (pf 6) := hR 6 (by decide)
    obtain ⟨v38, vE6⟩ : ∃ x, vf 6 = x := ⟨_, rfl⟩
    obtain ⟨p39, pE6⟩ : ∃ x, pf 6 = x := ⟨_, rfl⟩
    have hR40 := e6
    rw [vE6, pE6] at hR40
    obtain ⟨pshR40, mhR40, zhR40, rfl, rfl, hpmhR40, ⟨o1mhR40, o2mhR40, o3mhR40⟩, gmhR40⟩ := hR40
    have lmhR40 := gmhR40.ln
    have cmhR40 := gmhR40.gr.cnt
    have rmhR40 := zdw gmhR40.gr.ok
    have fmhR40 : mhR40.fst = n.fst := gmhR40.gr.fst.trans hGq.fst
    have GmhR40 : Gr n mhR40 := hGq.trans gmhR40.gr
    have emhR40 := gmhR40.es
    rw [hGq.fst] at emhR40
    refine zce [6] [6] rfl (zbg (sk 150 (congrArg some vE6) (zab _)) (by simp only [pE6, vE6, fS] <;> rfl) ?_)
    exact zbo (zbi (zax rfl)) (fun _ _ h => ⟨h.1.trans (by show _ = (.tuple #[.agg #[.int .i64 (intOf_o (ag9 0 (tp9 0 (vf 6)))), (ag9 1 (tp9 0 (vf 6))), (ag9 2 (tp9 0 (vf 6))), (ag9 3 (tp9 0 (vf 6)))], .int .i64 (intOf_o (tp9 1 (vf 6)))] : Value); first | (rw [vE6]; done) | (rw [vE6]; rfl)), h.2⟩)
   ·
    intro vf pf hmu hR
    have e6 : (fun u_ p_ => GP9 q.N (orO q.N.fst q.N.gs q.c (zshR21.getD k 0)) u_ p_) (vf 6) (pf 6) := hR 6 (by decide)
    obtain ⟨v38, vE6⟩ : ∃ x, vf 6 = x := ⟨_, rfl⟩
    obtain ⟨p39, pE6⟩ : ∃ x, pf 6 = x := ⟨_, rfl⟩
    have hR40 := e6
    rw [vE6, pE6] at hR40
    obtain ⟨pshR40, mhR40, zhR40, rfl, rfl, hpmhR40, ⟨o1mhR40, o2mhR40, o3mhR40⟩, gmhR40⟩ := hR40
    have lmhR40 := gmhR40.ln
    have cmhR40 := gmhR40.gr.cnt
    have rmhR40 := zdw gmhR40.gr.ok
    have fmhR40 : mhR40.fst = n.fst := gmhR40.gr.fst.trans hGq.fst
    have GmhR40 : Gr n mhR40 := hGq.trans gmhR40.gr
    have emhR40 := gmhR40.es
    rw [hGq.fst] at emhR40
    have e7 : (vf 7) = .tuple #[.agg #[.int .i64 (intOf_o (ag9 0 (tp9 0 (vf 6)))), (ag9 1 (tp9 0 (vf 6))), (ag9 2 (tp9 0 (vf 6))), (ag9 3 (tp9 0 (vf 6)))], .int .i64 (intOf_o (tp9 1 (vf 6)))] ∧ (pf 7) = [] := hR 7 (by decide)
    rw [vE6] at e7
    refine zce [6, 7] [6, 7] rfl (zbg (sk 143 (congrArg some e7.1) (zab _)) (by simp only [pE6, vE6, e7.2, fS] <;> rfl) ?_)
    exact zbo (zbi (zax rfl)) (fun _ _ h => ⟨h.1.trans (by show _ = (.agg #[.int .i64 (intOf_o (ag9 0 (tp9 0 (vf 6)))), (ag9 1 (tp9 0 (vf 6))), (ag9 2 (tp9 0 (vf 6))), (ag9 3 (tp9 0 (vf 6)))] : Value); first | (rw [vE6]; done) | (rw [vE6]; rfl)), h.2⟩)
   ·
    intro vf pf hmu hR
    have e6 : (fun u_ p_ => GP9 q.N (orO q.N.fst q.N.gs q.c (zshR21.getD k 0)) u_ p_) (vf 6) (pf 6) := hR 6 (by decide)
    obtain ⟨v38, vE6⟩ : ∃ x, vf 6 = x := ⟨_, rfl⟩
    obtain ⟨p39, pE6⟩ : ∃ x, pf 6 = x := ⟨_, rfl⟩
    have hR40 := e6
    rw [vE6, pE6] at hR40
    obtain ⟨pshR40, mhR40, zhR40, rfl, rfl, hpmhR40, ⟨o1mhR40, o2mhR40, o3mhR40⟩, gmhR40⟩ := hR40
    have lmhR40 := gmhR40.ln
    have cmhR40 := gmhR40.gr.cnt
    have rmhR40 := zdw gmhR40.gr.ok
    have fmhR40 : mhR40.fst = n.fst := gmhR40.gr.fst.trans hGq.fst
    have GmhR40 : Gr n mhR40 := hGq.trans gmhR40.gr
    have emhR40 := gmhR40.es
    rw [hGq.fst] at emhR40
    have e7 : (vf 7) = .tuple #[.agg #[.int .i64 (intOf_o (ag9 0 (tp9 0 (vf 6)))), (ag9 1 (tp9 0 (vf 6))), (ag9 2 (tp9 0 (vf 6))), (ag9 3 (tp9 0 (vf 6)))], .int .i64 (intOf_o (tp9 1 (vf 6)))] ∧ (pf 7) = [] := hR 7 (by decide)
    rw [vE6] at e7
    refine zce [6, 7] [6, 7] rfl (zbg (sk 143 (congrArg some e7.1) (zab _)) (by simp only [pE6, vE6, e7.2, fS] <;> rfl) ?_)
    exact zbo (zbi (zax rfl)) (fun _ _ h => ⟨h.1.trans (by show _ = (.int .i64 (intOf_o (tp9 1 (vf 6))) : Value); first | (rw [vE6]; done) | (rw [vE6]; rfl)), h.2⟩)
   intro vf pf hmu hR
   have e6 : (fun u_ p_ => GP9 q.N (orO q.N.fst q.N.gs q.c (zshR21.getD k 0)) u_ p_) (vf 6) (pf 6) := hR 6 (by decide)
   obtain ⟨v38, vE6⟩ : ∃ x, vf 6 = x := ⟨_, rfl⟩
   obtain ⟨p39, pE6⟩ : ∃ x, pf 6 = x := ⟨_, rfl⟩
   have hR40 := e6
   rw [vE6, pE6] at hR40
   obtain ⟨pshR40, mhR40, zhR40, rfl, rfl, hpmhR40, ⟨o1mhR40, o2mhR40, o3mhR40⟩, gmhR40⟩ := hR40
   have lmhR40 := gmhR40.ln
   have cmhR40 := gmhR40.gr.cnt
   have rmhR40 := zdw gmhR40.gr.ok
   have fmhR40 : mhR40.fst = n.fst := gmhR40.gr.fst.trans hGq.fst
   have GmhR40 : Gr n mhR40 := hGq.trans gmhR40.gr
   have emhR40 := gmhR40.es
   rw [hGq.fst] at emhR40
   have e8 : (vf 8) = .agg #[.int .i64 (intOf_o (ag9 0 (tp9 0 (vf 6)))), (ag9 1 (tp9 0 (vf 6))), (ag9 2 (tp9 0 (vf 6))), (ag9 3 (tp9 0 (vf 6)))] ∧ (pf 8) = [] := hR 8 (by decide)
   rw [vE6] at e8
   refine Or.inl ⟨rfl, ?_⟩
   show RunM _ _ _ (pf 12) (([6, 8] : List Nat).flatMap pf ++ _) (envOf3 _ vf [6, 8] ++ _) _ _
   have hmu0 : pf 12 = [nB9 b1 q.N] := hmu 0 (show 0 < 1 by omega)
   rw [hmu0]
   exact zbx (sk 5 rfl (sk 151 (congrArg some e8.1) (zab _))) (by simp only [pE6, vE6, e8.2, fS] <;> rfl) (zel (zcs (us := [.int .i64 mhR40.ins, mhR40.sv, mhR40.av, mhR40.ov]) (off := 0) 0 rfl rfl rfl rfl rfl rfl (zaa rfl (zaa o1mhR40 (zaa o2mhR40 (zaa o3mhR40 zbe)))) rfl rfl) (fun v_ p_ h => by show p_ = [boxE b1 #[.int .i64 (intOf_o (ag9 0 (tp9 0 (vf 6)))), (ag9 1 (tp9 0 (vf 6))), (ag9 2 (tp9 0 (vf 6))), (ag9 3 (tp9 0 (vf 6)))] 70]; rw [vE6]; exact h))
  intro vf pf hmu hR
  have e6 : (fun u_ p_ => GP9 q.N (orO q.N.fst q.N.gs q.c (zshR21.getD k 0)) u_ p_) (vf 6) (pf 6) := hR 6 (by decide)
  obtain ⟨v38, vE6⟩ : ∃ x, vf 6 = x := ⟨_, rfl⟩
  obtain ⟨p39, pE6⟩ : ∃ x, pf 6 = x := ⟨_, rfl⟩
  have hR40 := e6
  rw [vE6, pE6] at hR40
  obtain ⟨pshR40, mhR40, zhR40, rfl, rfl, hpmhR40, ⟨o1mhR40, o2mhR40, o3mhR40⟩, gmhR40⟩ := hR40
  have lmhR40 := gmhR40.ln
  have cmhR40 := gmhR40.gr.cnt
  have rmhR40 := zdw gmhR40.gr.ok
  have fmhR40 : mhR40.fst = n.fst := gmhR40.gr.fst.trans hGq.fst
  have GmhR40 : Gr n mhR40 := hGq.trans gmhR40.gr
  have emhR40 := gmhR40.es
  rw [hGq.fst] at emhR40
  have e9 : (vf 9) = .int .i64 (intOf_o (tp9 1 (vf 6))) ∧ (pf 9) = [] := hR 9 (by decide)
  rw [vE6] at e9
  have e10 : (pf 10) = [boxE b1 #[.int .i64 (intOf_o (ag9 0 (tp9 0 (vf 6)))), (ag9 1 (tp9 0 (vf 6))), (ag9 2 (tp9 0 (vf 6))), (ag9 3 (tp9 0 (vf 6)))] 70] := hR 10 (by decide)
  rw [vE6] at e10
  have pE10 := e10
  have q0 := hR 0 (by decide)
  have q1 := hR 1 (by decide)
  have q2 := hR 2 (by decide)
  have q3 := hR 3 (by decide)
  have q4 := hR 4 (by decide)
  have q5 := hR 5 (by decide)
  have q7 := hR 7 (by decide)
  have q8 := hR 8 (by decide)
  have q9 := hR 9 (by decide)
  refine zcd (zbs [140, 115, 98, 34, 20, 19, 18, 17, 16, 14, 13, 12, 11, 10, 5, 4, 3, 2, 1, 0] _ (sk 152 (congrArg some e9.1) (zab _)) rfl) (by simp only [pE6, vE6, pE10, q0.2, q1.2, q2.2, q3.2, q4.2, q5.2, q7.2, q8.2, q9.2, fS] <;> rfl) ?_
  simp only [List.drop_succ_cons, List.drop_zero]
  refine enQ 1 rfl (zdn (reQ 1 rfl (hvQ rfl (vaQ rfl rfl rfl) (enQ 1 rfl ?_))))
  refine zaz 9 [8, 7, 6, 5, 4, 3, 1, 0] rfl rfl (by decide) ?_
  refine zaz 8 [1, 7, 6, 5, 4, 3, 2, 0] rfl rfl (by decide) ?_
  exact zci (k + 1) ⟨mhR40, pshR40, zhR40, [], .slice none 0 0⟩ ⟨by omega, GmhR40, .inr hpmhR40, ⟨o1mhR40, o2mhR40, o3mhR40⟩, by dsimp only; omega, lmhR40, es_or hEq emhR40⟩ (by omega) (saQ rfl) (pfQ rfl)
 refine ntQ (zal rfl ?_)
 refine zby (zes ?_)
 refine zat (zaw (zac (zbn 1 rfl (zbf ?_))))
 refine lkQ2 (α := Nat) (β := RSt) [0, 1, 2, 3, 4, 5, 10, 11, 12, 13, 16, 17, 18, 19, 20, 34, 98, 115, 140] rfl (fun j t => [bigE t.ps, rI9 3 zvhR35 zshR35, rI9 3 zvhR28 zshR28, rI9 3 zvhR21 zshR21, rI9 3 t.u t.zs, boxE b3 #[.int .i64 ((os.getD p oq0).k), .int .i64 ((os.getD p oq0).a), .int .i64 ((os.getD p oq0).b)] 97, eB9 b2, nB9 b1 t.N]) (fun j t => [(14, t.u), (21, .int .i64 (j : Int))]) (fun j t => j ≤ W ∧ Gr n t.N ∧ (t.N = n ∨ ∀ w, (bigE t.ps).holds w → RdsNt w t.N) ∧ (t.N.sv.oneCell' = true ∧ t.N.av.oneCell' = true ∧ t.N.ov.oneCell' = true) ∧ q.N.cnt ≤ t.N.cnt ∧ t.zs.length = j ∧ (∀ x ∈ t.zs, x < 2 * t.N.cnt) ∧ ES (¬ PosL t.zs) (itO (mxS n.fst q.c zshR28 zshR35) (q.N.gs, []) j) (t.N.gs, t.zs)) (fun j t => W - j) 0 ⟨q.N, q.ps, 0, [], _⟩ ⟨Nat.zero_le _, hGq, hNq, ⟨o1q, o2q, o3q⟩, Int.le_refl _, rfl, ls_nil, .inl ⟨fun h9 => h9 posL_nil, rfl⟩⟩ (saQ rfl) (pfQ rfl) ?_
 intro j t hi41
 obtain ⟨hkt, hGt, hNt, ⟨o1t, o2t, o3t⟩, hbt, hzl, hLs, hEt⟩ := hi41
 have ct := hGt.cnt
 have rt := zdw hGt.ok
 refine zac (zac (reQ 2 rfl ?_))
 refine zcb rfl rfl rfl rfl rfl rfl (fun h42 => ?_) (fun h42 => ?_)
 ·
  refine ntQ (zaj rfl (zdb (sbQ (zac ?_))))
  have hBk := zbhR28 _ (zbd (d := 0) (show j < zshR28.length by omega))
  have hDk := zbhR35 _ (zbd (d := 0) (show j < zshR35.length by omega))
  refine zdq (l := [bigE t.ps, rI9 3 zvhR35 zshR35, rI9 3 zvhR28 zshR28, rI9 3 zvhR21 zshR21, rI9 3 t.u t.zs, boxE b3 #[.int .i64 ((os.getD p oq0).k), .int .i64 ((os.getD p oq0).a), .int .i64 ((os.getD p oq0).b)] 97, eB9 b2, nB9 b1 t.N]) rfl 16 [0, 1, 2, 3, 4, 5, 6, 7, 8, 9, 10, 11, 12, 13, 14, 15] (List.take 16 _) (List.drop 16 _) [[], [], [], [], [2, 3], [4], [], [], [6, 7], [8], [0, 1, 5, 9], [10], [10, 11], [10, 11], [], [10, 12, 14]] [some 159, some 160, some 161, some 162, some 163, some 164, some 165, some 166, some 167, some 168, some 169, some 158, some 170, some 171, some 22, none] (fun i_ vs_ v_ p_ => match i_ with | 0 => v_ = .agg #[.int .i64 t.N.ins, t.N.sv, t.N.av, t.N.ov] ∧ p_ = [] | 1 => v_ = .int .i64 q.c ∧ p_ = [] | 2 => v_ = zvhR28 ∧ p_ = [] | 3 => v_ = .int .i64 (j : Int) ∧ p_ = [] | 4 => v_ = elP zvhR28 (((j : Int)).toNat * 1) ∧ p_ = [] | 5 => v_ = .int .i64 (zshR28.getD j 0) ∧ p_ = [] | 6 => v_ = zvhR35 ∧ p_ = [] | 7 => v_ = .int .i64 (j : Int) ∧ p_ = [] | 8 => v_ = elP zvhR35 (((j : Int)).toNat * 1) ∧ p_ = [] | 9 => v_ = .int .i64 (zshR35.getD j 0) ∧ p_ = [] | 10 => (fun u_ p_ => GP9 t.N (muxO t.N.fst t.N.gs q.c (zshR28.getD j 0) (zshR35.getD j 0)) u_ p_) v_ p_ | 11 => v_ = .tuple #[.agg #[.int .i64 (intOf_o (ag9 0 (tp9 0 (gV9 vs_ 0)))), (ag9 1 (tp9 0 (gV9 vs_ 0))), (ag9 2 (tp9 0 (gV9 vs_ 0))), (ag9 3 (tp9 0 (gV9 vs_ 0)))], .int .i64 (intOf_o (tp9 1 (gV9 vs_ 0)))] ∧ p_ = [] | 12 => v_ = .agg #[.int .i64 (intOf_o (ag9 0 (tp9 0 (gV9 vs_ 0)))), (ag9 1 (tp9 0 (gV9 vs_ 0))), (ag9 2 (tp9 0 (gV9 vs_ 0))), (ag9 3 (tp9 0 (gV9 vs_ 0)))] ∧ p_ = [] | 13 => v_ = .int .i64 (intOf_o (tp9 1 (gV9 vs_ 0))) ∧ p_ = [] | 14 => IsBox #[.int .i64 0, .slice none 0 0, .slice none 0 0, .slice none 0 0] 70 v_ p_ | 15 => p_ = [boxE (blkOf (gV9 vs_ 2)) #[.int .i64 (intOf_o (ag9 0 (tp9 0 (gV9 vs_ 0)))), (ag9 1 (tp9 0 (gV9 vs_ 0))), (ag9 2 (tp9 0 (gV9 vs_ 0))), (ag9 3 (tp9 0 (gV9 vs_ 0)))] 70] | _ => True) [[], [], [], [], [2, 3], [4], [], [], [6, 7], [8], [0, 1, 5, 9], [10], [10, 11], [10, 11], [], [10, 12]] [none, none, none, none, none, none, none, none, none, none, none, none, none, none, none, some 14] [] [0, 1, 2, 3, 4, 5, 6, 7, 8, 9, 10, 11, 12, 13, 15] 17 (List.take_append_drop 16 _).symm (by kernel_rfl) (by kernel_rfl) (by kernel_rfl) rfl rfl ?_ ?_
  ·
   refine ⟨?_, ?_, ?_, ?_, ?_, ?_, ?_, ?_, ?_, ?_, ?_, ?_, ?_, ?_, ?_, ?_, trivial⟩
   ·
    intro vf pf hmu hR
    refine zce [] [] rfl (zaq (zae [5] rfl) (List.sublist_append_right _ _) ?_)
    exact zbi (zar (cs := [.int .i64 t.N.ins, t.N.sv, t.N.av, t.N.ov]) rfl rfl rfl rfl rfl (zah 7 rfl 0 rfl))
   ·
    intro vf pf hmu hR
    refine zce [] [] rfl (zay (zae [19] rfl) ?_)
    exact zbi (zax rfl)
   ·
    intro vf pf hmu hR
    refine zce [] [] rfl (zay (zae [17] rfl) ?_)
    exact zbi (zax rfl)
   ·
    intro vf pf hmu hR
    refine zce [] [] rfl (zay (zae [21] rfl) ?_)
    exact zbi (zax rfl)
   ·
    intro vf pf hmu hR
    have e2 := hR 2 (by decide)
    have e3 := hR 3 (by decide)
    refine zce [2, 3] [2, 3] rfl (zaq (sk 161 (congrArg some e2.1) (sk 162 (congrArg some e3.1) (zab _))) (List.sublist_append_right _ _) ?_)
    exact zbi (riQ 1 rfl rfl rfl rfl (zao 2 rfl))
   ·
    intro vf pf hmu hR
    have e4 := hR 4 (by decide)
    refine zce [4] [4] rfl (zaq (sk 163 (congrArg some e4.1) (zab _)) (List.sublist_append_right _ _) ?_)
    exact zbi (liQ rfl rfl rfl (zao 2 rfl))
   ·
    intro vf pf hmu hR
    refine zce [] [] rfl (zay (zae [18] rfl) ?_)
    exact zbi (zax rfl)
   ·
    intro vf pf hmu hR
    refine zce [] [] rfl (zay (zae [21] rfl) ?_)
    exact zbi (zax rfl)
   ·
    intro vf pf hmu hR
    have e6 := hR 6 (by decide)
    have e7 := hR 7 (by decide)
    refine zce [6, 7] [6, 7] rfl (zaq (sk 165 (congrArg some e6.1) (sk 166 (congrArg some e7.1) (zab _))) (List.sublist_append_right _ _) ?_)
    exact zbi (riQ 1 rfl rfl rfl rfl (zao 1 rfl))
   ·
    intro vf pf hmu hR
    have e8 := hR 8 (by decide)
    refine zce [8] [8] rfl (zaq (sk 167 (congrArg some e8.1) (zab _)) (List.sublist_append_right _ _) ?_)
    exact zbi (liQ rfl rfl rfl (zao 1 rfl))
   ·
    intro vf pf hmu hR
    have e0 := hR 0 (by decide)
    have e1 := hR 1 (by decide)
    have e5 := hR 5 (by decide)
    have e9 := hR 9 (by decide)
    refine zce [0, 1, 5, 9] [0, 1, 5, 9] rfl (zaq (sk 159 (congrArg some e0.1) (sk 160 (congrArg some e1.1) (sk 164 (congrArg some e5.1) (sk 168 (congrArg some e9.1) (zab _))))) (List.sublist_append_right _ _) ?_)
    exact zam rfl rfl (fun w hm => AddMuxG_ret t.N q.c (zshR28.getD j 0) (zshR35.getD j 0) w (rd_or hNt (hr.below hm.bel) (hm.holds _ (zbr (i := 0) rfl))) hGt.ok (by first | omega | exact zcy (by omega) (by omega)) (by first | omega | exact zcy (by omega) (by omega)) (by first | omega | exact zcy (by omega) (by omega)))
   ·
    intro vf pf hmu hR
    have e10 : (fun u_ p_ => GP9 t.N (muxO t.N.fst t.N.gs q.c (zshR28.getD j 0) (zshR35.getD j 0)) u_ p_) (vf 10) (pf 10) := hR 10 (by decide)
    obtain ⟨v43, vE10⟩ : ∃ x, vf 10 = x := ⟨_, rfl⟩
    obtain ⟨p44, pE10⟩ : ∃ x, pf 10 = x := ⟨_, rfl⟩
    have hR45 := e10
    rw [vE10, pE10] at hR45
    obtain ⟨pshR45, mhR45, zhR45, rfl, rfl, hpmhR45, ⟨o1mhR45, o2mhR45, o3mhR45⟩, gmhR45⟩ := hR45
    have lmhR45 := gmhR45.ln
    have cmhR45 := gmhR45.gr.cnt
    have rmhR45 := zdw gmhR45.gr.ok
    have fmhR45 : mhR45.fst = n.fst := gmhR45.gr.fst.trans hGt.fst
    have GmhR45 : Gr n mhR45 := hGt.trans gmhR45.gr
    have emhR45 := gmhR45.es
    rw [hGt.fst] at emhR45
    refine zce [10] [10] rfl (zbg (sk 169 (congrArg some vE10) (zab _)) (by simp only [pE10, vE10, fS] <;> rfl) ?_)
    exact zbo (zbi (zax rfl)) (fun _ _ h => ⟨h.1.trans (by show _ = (.tuple #[.agg #[.int .i64 (intOf_o (ag9 0 (tp9 0 (vf 10)))), (ag9 1 (tp9 0 (vf 10))), (ag9 2 (tp9 0 (vf 10))), (ag9 3 (tp9 0 (vf 10)))], .int .i64 (intOf_o (tp9 1 (vf 10)))] : Value); first | (rw [vE10]; done) | (rw [vE10]; rfl)), h.2⟩)
   ·
    intro vf pf hmu hR
    have e10 : (fun u_ p_ => GP9 t.N (muxO t.N.fst t.N.gs q.c (zshR28.getD j 0) (zshR35.getD j 0)) u_ p_) (vf 10) (pf 10) := hR 10 (by decide)
    obtain ⟨v43, vE10⟩ : ∃ x, vf 10 = x := ⟨_, rfl⟩
    obtain ⟨p44, pE10⟩ : ∃ x, pf 10 = x := ⟨_, rfl⟩
    have hR45 := e10
    rw [vE10, pE10] at hR45
    obtain ⟨pshR45, mhR45, zhR45, rfl, rfl, hpmhR45, ⟨o1mhR45, o2mhR45, o3mhR45⟩, gmhR45⟩ := hR45
    have lmhR45 := gmhR45.ln
    have cmhR45 := gmhR45.gr.cnt
    have rmhR45 := zdw gmhR45.gr.ok
    have fmhR45 : mhR45.fst = n.fst := gmhR45.gr.fst.trans hGt.fst
    have GmhR45 : Gr n mhR45 := hGt.trans gmhR45.gr
    have emhR45 := gmhR45.es
    rw [hGt.fst] at emhR45
    have e11 : (vf 11) = .tuple #[.agg #[.int .i64 (intOf_o (ag9 0 (tp9 0 (vf 10)))), (ag9 1 (tp9 0 (vf 10))), (ag9 2 (tp9 0 (vf 10))), (ag9 3 (tp9 0 (vf 10)))], .int .i64 (intOf_o (tp9 1 (vf 10)))] ∧ (pf 11) = [] := hR 11 (by decide)
    rw [vE10] at e11
    refine zce [10, 11] [10, 11] rfl (zbg (sk 158 (congrArg some e11.1) (zab _)) (by simp only [pE10, vE10, e11.2, fS] <;> rfl) ?_)
    exact zbo (zbi (zax rfl)) (fun _ _ h => ⟨h.1.trans (by show _ = (.agg #[.int .i64 (intOf_o (ag9 0 (tp9 0 (vf 10)))), (ag9 1 (tp9 0 (vf 10))), (ag9 2 (tp9 0 (vf 10))), (ag9 3 (tp9 0 (vf 10)))] : Value); first | (rw [vE10]; done) | (rw [vE10]; rfl)), h.2⟩)
   ·
    intro vf pf hmu hR
    have e10 : (fun u_ p_ => GP9 t.N (muxO t.N.fst t.N.gs q.c (zshR28.getD j 0) (zshR35.getD j 0)) u_ p_) (vf 10) (pf 10) := hR 10 (by decide)
    obtain ⟨v43, vE10⟩ : ∃ x, vf 10 = x := ⟨_, rfl⟩
    obtain ⟨p44, pE10⟩ : ∃ x, pf 10 = x := ⟨_, rfl⟩
    have hR45 := e10
    rw [vE10, pE10] at hR45
    obtain ⟨pshR45, mhR45, zhR45, rfl, rfl, hpmhR45, ⟨o1mhR45, o2mhR45, o3mhR45⟩, gmhR45⟩ := hR45
    have lmhR45 := gmhR45.ln
    have cmhR45 := gmhR45.gr.cnt
    have rmhR45 := zdw gmhR45.gr.ok
    have fmhR45 : mhR45.fst = n.fst := gmhR45.gr.fst.trans hGt.fst
    have GmhR45 : Gr n mhR45 := hGt.trans gmhR45.gr
    have emhR45 := gmhR45.es
    rw [hGt.fst] at emhR45
    have e11 : (vf 11) = .tuple #[.agg #[.int .i64 (intOf_o (ag9 0 (tp9 0 (vf 10)))), (ag9 1 (tp9 0 (vf 10))), (ag9 2 (tp9 0 (vf 10))), (ag9 3 (tp9 0 (vf 10)))], .int .i64 (intOf_o (tp9 1 (vf 10)))] ∧ (pf 11) = [] := hR 11 (by decide)
    rw [vE10] at e11
    refine zce [10, 11] [10, 11] rfl (zbg (sk 158 (congrArg some e11.1) (zab _)) (by simp only [pE10, vE10, e11.2, fS] <;> rfl) ?_)
    exact zbo (zbi (zax rfl)) (fun _ _ h => ⟨h.1.trans (by show _ = (.int .i64 (intOf_o (tp9 1 (vf 10))) : Value); first | (rw [vE10]; done) | (rw [vE10]; rfl)), h.2⟩)
   ·
    intro vf pf hmu hR
    refine zce [] [] rfl (zaq (zab _) (List.sublist_append_right _ _) ?_)
    exact zcc (z := .agg #[.int .i64 0, .slice none 0 0, .slice none 0 0, .slice none 0 0]) rfl rfl
   intro vf pf hmu hR
   have e10 : (fun u_ p_ => GP9 t.N (muxO t.N.fst t.N.gs q.c (zshR28.getD j 0) (zshR35.getD j 0)) u_ p_) (vf 10) (pf 10) := hR 10 (by decide)
   obtain ⟨v43, vE10⟩ : ∃ x, vf 10 = x := ⟨_, rfl⟩
   obtain ⟨p44, pE10⟩ : ∃ x, pf 10 = x := ⟨_, rfl⟩
   have hR45 := e10
   rw [vE10, pE10] at hR45
   obtain ⟨pshR45, mhR45, zhR45, rfl, rfl, hpmhR45, ⟨o1mhR45, o2mhR45, o3mhR45⟩, gmhR45⟩ := hR45
   have lmhR45 := gmhR45.ln
   have cmhR45 := gmhR45.gr.cnt
   have rmhR45 := zdw gmhR45.gr.ok
   have fmhR45 : mhR45.fst = n.fst := gmhR45.gr.fst.trans hGt.fst
   have GmhR45 : Gr n mhR45 := hGt.trans gmhR45.gr
   have emhR45 := gmhR45.es
   rw [hGt.fst] at emhR45
   have e12 : (vf 12) = .agg #[.int .i64 (intOf_o (ag9 0 (tp9 0 (vf 10)))), (ag9 1 (tp9 0 (vf 10))), (ag9 2 (tp9 0 (vf 10))), (ag9 3 (tp9 0 (vf 10)))] ∧ (pf 12) = [] := hR 12 (by decide)
   rw [vE10] at e12
   have e14 : IsBox #[.int .i64 0, .slice none 0 0, .slice none 0 0, .slice none 0 0] 70 (vf 14) (pf 14) := hR 14 (by decide)
   obtain ⟨b46, vE14, pE14⟩ := e14
   refine Or.inl ⟨rfl, ?_⟩
   show RunM _ _ _ (pf 14) (([10, 12] : List Nat).flatMap pf ++ _) (envOf3 _ vf [10, 12, 14] ++ _) _ _
   rw [pE14]
   exact zbx (sk 22 (congrArg some vE14) (sk 170 (congrArg some e12.1) (zab _))) (by simp only [pE10, vE10, e12.2, fS] <;> rfl) (zel (zcs (us := [.int .i64 mhR45.ins, mhR45.sv, mhR45.av, mhR45.ov]) (off := 0) 0 rfl rfl rfl rfl rfl rfl (zaa rfl (zaa o1mhR45 (zaa o2mhR45 (zaa o3mhR45 zbe)))) rfl rfl) (fun v_ p_ h => by show p_ = [boxE (blkOf (vf 14)) #[.int .i64 (intOf_o (ag9 0 (tp9 0 (vf 10)))), (ag9 1 (tp9 0 (vf 10))), (ag9 2 (tp9 0 (vf 10))), (ag9 3 (tp9 0 (vf 10)))] 70]; rw [vE10, vE14]; exact h))
  intro vf pf hmu hR
  have e10 : (fun u_ p_ => GP9 t.N (muxO t.N.fst t.N.gs q.c (zshR28.getD j 0) (zshR35.getD j 0)) u_ p_) (vf 10) (pf 10) := hR 10 (by decide)
  obtain ⟨v43, vE10⟩ : ∃ x, vf 10 = x := ⟨_, rfl⟩
  obtain ⟨p44, pE10⟩ : ∃ x, pf 10 = x := ⟨_, rfl⟩
  have hR45 := e10
  rw [vE10, pE10] at hR45
  obtain ⟨pshR45, mhR45, zhR45, rfl, rfl, hpmhR45, ⟨o1mhR45, o2mhR45, o3mhR45⟩, gmhR45⟩ := hR45
  have lmhR45 := gmhR45.ln
  have cmhR45 := gmhR45.gr.cnt
  have rmhR45 := zdw gmhR45.gr.ok
  have fmhR45 : mhR45.fst = n.fst := gmhR45.gr.fst.trans hGt.fst
  have GmhR45 : Gr n mhR45 := hGt.trans gmhR45.gr
  have emhR45 := gmhR45.es
  rw [hGt.fst] at emhR45
  have e13 : (vf 13) = .int .i64 (intOf_o (tp9 1 (vf 10))) ∧ (pf 13) = [] := hR 13 (by decide)
  rw [vE10] at e13
  have e14 : IsBox #[.int .i64 0, .slice none 0 0, .slice none 0 0, .slice none 0 0] 70 (vf 14) (pf 14) := hR 14 (by decide)
  obtain ⟨b46, vE14, pE14⟩ := e14
  have e15 : (pf 15) = [boxE (blkOf (vf 14)) #[.int .i64 (intOf_o (ag9 0 (tp9 0 (vf 10)))), (ag9 1 (tp9 0 (vf 10))), (ag9 2 (tp9 0 (vf 10))), (ag9 3 (tp9 0 (vf 10)))] 70] := hR 15 (by decide)
  rw [vE10, vE14] at e15
  have pE15 := e15
  have q0 := hR 0 (by decide)
  have q1 := hR 1 (by decide)
  have q2 := hR 2 (by decide)
  have q3 := hR 3 (by decide)
  have q4 := hR 4 (by decide)
  have q5 := hR 5 (by decide)
  have q6 := hR 6 (by decide)
  have q7 := hR 7 (by decide)
  have q8 := hR 8 (by decide)
  have q9 := hR 9 (by decide)
  have q11 := hR 11 (by decide)
  have q12 := hR 12 (by decide)
  have q13 := hR 13 (by decide)
  refine zcd (zbs [21, 20, 19, 18, 17, 16, 14, 13, 12, 11, 10, 5, 4, 3, 2, 1, 0] _ (sk 22 (congrArg some vE14) (zbs [155, 140, 115, 98, 34] _ (sk 171 (congrArg some e13.1) (zab _)) rfl)) rfl) (by simp only [pE10, vE10, pE15, q0.2, q1.2, q2.2, q3.2, q4.2, q5.2, q6.2, q7.2, q8.2, q9.2, q11.2, q12.2, q13.2, fS] <;> rfl) ?_
  simp only [List.drop_succ_cons, List.drop_zero]
  refine zbc 1 rfl (srQ (hvQ rfl (zar (cs := [.int .i64 mhR45.ins, mhR45.sv, mhR45.av, mhR45.ov]) rfl rfl rfl rfl rfl (zah 1 rfl 0 rfl)) ?_))
  refine zbm (cs' := #[.int .i64 mhR45.ins, mhR45.sv, mhR45.av, mhR45.ov]) (i := 9) (off := 0) (us := [.int .i64 mhR45.ins, mhR45.sv, mhR45.av, mhR45.ov]) rfl rfl rfl rfl rfl rfl rfl (zaa rfl (zaa o1mhR45 (zaa o2mhR45 (zaa o3mhR45 zbe)))) rfl rfl rfl (ntQ (reQ 2 rfl ?_))
  refine zey rfl (zas (z := .int .i64 0) (s := 1) (cs := ([zhR45].map (Value.int .i64))) rfl Try.underlying48 rfl (by decide) rfl (by kernel_rfl) rfl) ?_
  intro g47
  refine zdc (i := 7) (z := .int .i64 0) (bytes := 8) rfl rfl rfl rfl Try.underlying48 (by kernel_rfl) rfl rfl rfl rfl (zao 0 rfl) (zcj _) (by first | omega | (simp; done) | (simp; omega)) (zco t.zs ([zhR45])) (zcx t.zs ([zhR45])) (fun _ => rfl) ?_
  intro v48
  refine enQ 1 rfl (zdn (reQ 1 rfl (hvQ rfl (vaQ rfl rfl rfl) (enQ 1 rfl ?_))))
  refine zaz 11 [10, 9, 8, 7, 6, 5, 4, 1] rfl rfl (by decide) ?_
  exact zci (j + 1) ⟨mhR45, pshR45, 0, t.zs ++ ([zhR45]), v48⟩ ⟨by omega, GmhR45, .inr hpmhR45, ⟨o1mhR45, o2mhR45, o3mhR45⟩, by dsimp only; omega, by dsimp only; rw [List.length_append, List.length_singleton]; omega, ls_app hLs (by dsimp only; omega) (by dsimp only; omega), es_mx hEt emhR45⟩ (by omega) (saQ rfl) (pfQ rfl)
 refine ntQ (zal rfl ?_)
 refine zby (zes ?_)
 refine zat (zaw (srQ (hvQ rfl (zar (cs := [.int .i64 t.N.ins, t.N.sv, t.N.av, t.N.ov]) rfl rfl rfl rfl rfl (zah 7 rfl 0 rfl)) (zag 2 rfl ?_))))
 refine zbm (cs' := #[.int .i64 t.N.ins, t.N.sv, t.N.av, t.N.ov]) (i := 6) (off := 0) (us := [.int .i64 t.N.ins, t.N.sv, t.N.av, t.N.ov]) rfl rfl rfl rfl rfl rfl rfl (zaa rfl (zaa o1t (zaa o2t (zaa o3t zbe)))) rfl rfl rfl (zbc 2 rfl ?_)
 refine zak ?_
 rw [show k = W by omega] at hEq
 rw [show j = W by omega] at hEt
 refine zaz 8 [6, 4, 0] rfl rfl (by decide) ?_
 exact zca (rs := [.cell 10 70, .tmp 11, .tmp 12]) (vs := [.agg #[.int .i64 t.N.ins, t.N.sv, t.N.av, t.N.ov], t.u, .int .i64 (enX os f (enX os f (enX os f (p + 1))) : Int)]) (post := [bigE t.ps, rI9 3 t.u t.zs]) rfl ⟨⟨b2, 0, [.int .i64 t.N.ins, t.N.sv, t.N.av, t.N.ov], rfl, rfl, by kernel_rfl, by kernel_rfl, zah 2 rfl 0 rfl⟩, rfl, rfl, trivial⟩ rfl (slQ [0, 0] rfl) ⟨_, t.N, _, _, (by rw [en_three (by omega)]; rfl), rfl, hNt, ⟨o1t, o2t, o3t⟩, hGt, (by omega), hLs, es_fin (i := 3) (by omega) (es_arg (i := 2) (es_arg (i := 1) (es_arg (i := 0) (L := []) (ES.one (a := (n.gs, ([] : List (List Int))))) zehR21) zehR28) zehR35) (fun _ => by rw [fin_muxE (by omega)]; exact es_three hW.1 hEq hEt) (es_threeq hW.1 hEq hEt zlhR21 zlhR28 zlhR35)⟩
structure NcOk (n : Nt) : Prop where
  i0 : 0 ≤ n.ins
  i1 : n.ins ≤ 20
  s1 : n.ss.length ≤ 12
  a1 : n.gs.length ≤ 300
  o1 : n.os.length ≤ 16
def cntA (n : Nt) : Int := if 0 ≤ n.ins ∧ n.ins ≤ 20 ∧ n.ss.length ≤ 12 ∧ n.gs.length ≤ 300 ∧ n.os.length ≤ 16 then n.cnt else 0
theorem zfd {n : Nt} (h : NcOk n) : cntA n = n.cnt := if_pos ⟨h.i0, h.i1, h.s1, h.a1, h.o1⟩
theorem zhf {n : Nt} (h : ¬ NcOk n) : cntA n = 0 := if_neg (fun q => h ⟨q.1, q.2.1, q.2.2.1, q.2.2.2.1, q.2.2.2.2⟩)
theorem cntA_nc {n : Nt} (h : cntA n ≠ 0) : NcOk n := Classical.not_not.1 (fun q => h (zhf q))
theorem NtOk.nc {n : Nt} (h : NtOk n) : NcOk n := ⟨h.i0, h.i1, h.s1, h.a1, h.o1⟩
theorem zfj {n : Nt} (h : NcOk n) : cntA n ≠ 0 := by
  rw [zfd h]
  have h1 := h.i0
  have e : n.cnt = 1 + n.ins + n.ss.length + n.gs.length := rfl
  omega
structure NtSm (n : Nt) : Prop where
  s1 : n.ss.length ≤ 20
  a1 : n.gs.length ≤ 400
  o1 : n.os.length ≤ 40
  x4 : ∀ s ∈ n.ss, s.xs.length ≤ 4
  mx : ∀ s ∈ n.ss, ∀ x ∈ s.xs, x ≤ 9223372036854775807
  mg : ∀ k, k < n.gs.length → (n.gs.getD k an0).a ≤ 9223372036854775807 ∧ (n.gs.getD k an0).b ≤ 9223372036854775807
  mo : ∀ x ∈ n.os, x ≤ 9223372036854775807
theorem NtOk.sm {n : Nt} (h : NtOk n) : NtSm n := by
  have hc := (zdw h).2
  have hf : n.fst ≤ n.cnt := by rw [cnt_fst]; omega
  refine ⟨by have := h.s1; omega, by have := h.a1; omega, by have := h.o1; omega, fun s hs => (h.sq s hs).len, fun s hs x hx => ?_, fun k hk => ?_, fun x hx => ?_⟩
  · have := (h.xs s hs x hx).2; omega
  · have h1 := h.an k hk
    have h2 := h1.1.2
    have h3 := h1.2.2
    have h4 := h.a1
    have h5 : n.cnt = n.fst + n.gs.length := rfl
    constructor <;> omega
  · have := (h.ou x hx).2; omega
theorem zgy {n : Nt} (h : NtSm n) : ∀ k, k ≤ n.ss.length → (rtsL n k).length ≤ 40 + 4 * k
  | 0, _ => by have := h.o1; simp [rtsL]; omega
  | k + 1, hk => by
    rw [← rts_step n (by omega), List.length_append]
    have := zgy h k (by omega)
    have := h.x4 _ (zbd (d := sq0) (show k < n.ss.length by omega))
    omega
theorem rts_mem {n : Nt} {x : Int} : x ∈ rtsL n n.ss.length ↔ x ∈ n.os ∨ ∃ s ∈ n.ss, x ∈ s.xs := by
  unfold rtsL; rw [List.take_length, List.mem_append, List.mem_flatMap]
theorem rts_max {n : Nt} (h : NtSm n) {i : Nat} (hi : i < (rtsL n n.ss.length).length) : (rtsL n n.ss.length).getD i 0 ≤ 9223372036854775807 := by
  rcases rts_mem.1 (zbd (d := (0 : Int)) hi) with h1 | ⟨s, hs, h1⟩
  · exact h.mo _ h1
  · exact h.mx s hs _ h1
theorem nt_of {n : Nt} (hc : NcOk n) (hs : ∀ i, i < n.ss.length → SqOk (n.ss.getD i sq0)) (hr : ∀ i, i < (rtsL n n.ss.length).length → LtOk ((rtsL n n.ss.length).getD i 0) n.cnt) (ha : ∀ i, i < n.gs.length → LtOk (n.gs.getD i an0).a (n.fst + i) ∧ LtOk (n.gs.getD i an0).b (n.fst + i)) : NtOk n := by
  have hm : ∀ x, x ∈ rtsL n n.ss.length → LtOk x n.cnt := fun x hx => by
    obtain ⟨i, hi, rfl⟩ := List.mem_iff_getElem.1 hx
    have := hr i hi
    rw [List.getD_eq_getElem?_getD, List.getElem?_eq_getElem hi] at this; exact this
  refine ⟨hc.i0, hc.i1, hc.s1, hc.a1, hc.o1, fun s h => ?_, fun s h x hx => hm x (rts_mem.2 (.inr ⟨s, h, hx⟩)), ha, fun x hx => hm x (rts_mem.2 (.inl hx))⟩
  obtain ⟨i, hi, rfl⟩ := List.mem_iff_getElem.1 h
  have := hs i hi
  rw [List.getD_eq_getElem?_getD, List.getElem?_eq_getElem hi] at this; exact this
theorem zdy {a b c : Int} (h : inR a b c = false) : ¬ (b ≤ a ∧ a ≤ c) := fun q => by rw [(zcp _ _ _).2 q] at h; cases h
theorem zeh (n : Nt) (w : World) (hr : RdsNt w n) (hS : NtSm n) :
   Calls Try.prog 83 #[.agg #[.int .i64 n.ins, n.sv, n.av, n.ov]] w (Ans w (.int .i64 (cntA n))) := by
 have qs1 := hS.s1
 have qa1 := hS.a1
 have qo1 := hS.o1
 have hcnt : n.cnt = 1 + n.ins + n.ss.length + n.gs.length := rfl
 have hfst : n.fst = 1 + n.ins + n.ss.length := rfl
 refine zbq (N := 36) (args := [.agg #[.int .i64 n.ins, n.sv, n.av, n.ov]]) Try.func83 rfl rfl (srQ ?_)
 refine zed rfl (zdh rfl rfl) ?_
 intro b1
 refine zbc 1 rfl (zgk (hvQ rfl (fdQ 0 rfl rfl rfl) (hvQ rfl (zan rfl rfl rfl (zai 0 rfl rfl)) ?_)))
 refine zdu rfl (zam rfl rfl (fun w hm => zbb (zeb n.ins 0 20 w))) (zbz (fun h2 => ?_) (fun h2 => ?_))
 ·
  obtain ⟨h2a, h2b⟩ := (zcp _ _ _).1 h2
  refine zag 2 rfl (hvQ rfl (fdQ 1 rfl rfl rfl) (hvQ rfl (zan rfl rfl rfl (zai 0 rfl rfl)) (hvQ rfl (lnQ rfl rfl rfl (zap hr.sq)) ?_)))
  refine zeq rfl rfl rfl rfl rfl rfl (fun h3 => ?_) (fun h3 => ?_)
  ·
   refine zbc 13 rfl ?_
   refine zaj rfl (zbn 1 rfl ?_)
   refine zak (zad ?_)
   exact zbl rfl rfl (congrArg _ (zhf (fun h9 => by obtain ⟨i0, i1, s1, a1, o1⟩ := h9; omega)).symm)
  refine zag 2 rfl (hvQ rfl (fdQ 2 rfl rfl rfl) (hvQ rfl (zan rfl rfl rfl (zai 0 rfl rfl)) (hvQ rfl (lnQ rfl rfl rfl (zap hr.an)) ?_)))
  refine zeq rfl rfl rfl rfl rfl rfl (fun h4 => ?_) (fun h4 => ?_)
  ·
   refine zbc 7 rfl (zaj rfl (zac (reQ 1 rfl (?_))))
   refine ntQ ?_
   refine zak (zad ?_)
   exact zbl rfl rfl (congrArg _ (zhf (fun h9 => by obtain ⟨i0, i1, s1, a1, o1⟩ := h9; omega)).symm)
  refine zag 2 rfl (hvQ rfl (fdQ 3 rfl rfl rfl) (hvQ rfl (zan rfl rfl rfl (zai 0 rfl rfl)) (hvQ rfl (lnQ rfl rfl rfl (zap hr.ou)) ?_)))
  refine zeq rfl rfl rfl rfl rfl rfl (fun h5 => ?_) (fun h5 => ?_)
  ·
   refine zbc 1 rfl (zaj rfl (zbn 1 rfl ?_))
   refine zak (zad ?_)
   exact zbl rfl rfl (congrArg _ (zhf (fun h9 => by obtain ⟨i0, i1, s1, a1, o1⟩ := h9; omega)).symm)
  refine zbc 1 rfl (zal rfl (zdb (srQ (hvQ rfl (fdQ 0 rfl rfl rfl) (hvQ rfl (zan rfl rfl rfl (zai 0 rfl rfl)) (hvQ rfl (vaQ rfl rfl rfl) (hvQ rfl (fdQ 1 rfl rfl rfl) (hvQ rfl (zan rfl rfl rfl (zai 0 rfl rfl)) ?_))))))))
  refine hvQ rfl (lnQ rfl rfl rfl (zap hr.sq)) (hvQ rfl (vaQ rfl rfl rfl) (hvQ rfl (fdQ 2 rfl rfl rfl) (hvQ rfl (zan rfl rfl rfl (zai 0 rfl rfl)) (hvQ rfl (lnQ rfl rfl rfl (zap hr.an)) (hvQ rfl (vaQ rfl rfl rfl) (zbc 1 rfl ?_))))))
  exact zak (zbl rfl rfl (congrArg (Value.int .i64) (show n.cnt = cntA n from (zfd ⟨by omega, by omega, by omega, by omega, by omega⟩).symm)))
 have h2a := zdy h2
 refine zbc 19 rfl (zaj rfl (zbn 1 rfl ?_))
 refine zak (zad ?_)
 exact zbl rfl rfl (congrArg _ (zhf (fun h9 => by obtain ⟨i0, i1, s1, a1, o1⟩ := h9; omega)).symm)
theorem l08FirstG (n : Nt) (w : World) (hr : RdsNt w n) (hc : NcOk n) :
   Calls Try.prog 100 #[.agg #[.int .i64 n.ins, n.sv, n.av, n.ov]] w (Ans w (.int .i64 n.fst)) := by
 obtain ⟨hi0, hi1, hs1, ha1, ho1⟩ := hc
 have hcnt : n.cnt = 1 + n.ins + n.ss.length + n.gs.length := rfl
 have hfst : n.fst = 1 + n.ins + n.ss.length := rfl
 refine zbq (N := 10) (args := [.agg #[.int .i64 n.ins, n.sv, n.av, n.ov]]) Try.func100 rfl rfl (srQ ?_)
 refine zed rfl (zdh rfl rfl) ?_
 intro b1
 refine zbc 1 rfl (srQ (hvQ rfl (fdQ 0 rfl rfl rfl) (hvQ rfl (zan rfl rfl rfl (zai 0 rfl rfl)) (hvQ rfl (vaQ rfl rfl rfl) (hvQ rfl (fdQ 1 rfl rfl rfl) (hvQ rfl (zan rfl rfl rfl (zai 0 rfl rfl)) (hvQ rfl (lnQ rfl rfl rfl (zap hr.sq)) (hvQ rfl (vaQ rfl rfl rfl) (zag 1 rfl ?_)))))))))
 refine ntQ ?_
 exact zak (zbl rfl rfl rfl)
theorem l08RootsS_ret (n : Nt) (w : World) (hr : RdsNt w n) (hS : NtSm n) :
   Calls Try.prog 125 #[.agg #[.int .i64 n.ins, n.sv, n.av, n.ov]] w (Ret w (fun v' post => post = [rI9 3 v' (rtsL n n.ss.length)])) := by
 have qs1 := hS.s1
 have qa1 := hS.a1
 have qo1 := hS.o1
 have hcnt : n.cnt = 1 + n.ins + n.ss.length + n.gs.length := rfl
 have hfst : n.fst = 1 + n.ins + n.ss.length := rfl
 refine zbq (N := 25) (args := [.agg #[.int .i64 n.ins, n.sv, n.av, n.ov]]) Try.func125 rfl rfl (srQ ?_)
 refine zed rfl (zdh rfl rfl) ?_
 intro b1
 refine zbc 1 rfl (srQ ?_)
 refine zey rfl (zds (s := 1) rfl Try.underlying48 rfl) ?_
 intro g2
 refine hvQ rfl (fdQ 3 rfl rfl rfl) (hvQ rfl (zan rfl rfl rfl (zai 1 rfl rfl)) ?_)
 refine zdc (i := 0) (z := .int .i64 0) (bytes := 8) (n' := n.os.length) (xs' := (n.os.map (Value.int .i64))) rfl rfl rfl rfl Try.underlying48 (by kernel_rfl) rfl rfl rfl rfl (zap hr.ou) (zcj _) (by first | omega | (simp; done) | (simp; omega)) (Nat.zero_add _) (List.nil_append _) (fun _ => rfl) ?_
 intro v3
 refine zbc 1 rfl (zac (zbn 1 rfl (zbf ?_)))
 refine lkQ3 (α := Nat) (β := Value) (γ := List Int) [0, 1, 2] rfl (fun k u zs => [rI9 3 u zs, nB9 b1 n]) (fun k u zs => [(3, u), (4, .int .i64 (k : Int))]) (fun k u zs => k ≤ n.ss.length ∧ zs = rtsL n k) (fun k u zs => n.ss.length - k) 0 _ n.os ⟨by omega, by simp [rtsL]⟩ (saQ rfl) (pfQ rfl) ?_
 intro k u zs hi4
 obtain ⟨hk, hz⟩ := hi4
 have hzl : zs.length ≤ 40 + 4 * k := by rw [hz]; exact zgy hS k hk
 refine zac (zac (reQ 1 rfl (hvQ rfl (fdQ 1 rfl rfl rfl) (hvQ rfl (zan rfl rfl rfl (zai 1 rfl rfl)) (hvQ rfl (lnQ rfl rfl rfl (zap hr.sq)) ?_)))))
 refine zcb rfl rfl rfl rfl rfl rfl (fun h5 => ?_) (fun h5 => ?_)
 ·
  refine ntQ (zaj rfl (zdb (sbQ (reQ 1 rfl (hvQ rfl (fdQ 1 rfl rfl rfl) ?_)))))
  have hx4 := hS.x4 _ (zbd (d := sq0) (show k < n.ss.length by omega))
  refine hvQ rfl (zan rfl rfl rfl (zai 1 rfl rfl)) (zag 1 rfl (hvQ rfl (riQ 3 rfl rfl rfl rfl (zap hr.sq)) (hvQ rfl (zde (k0 := 2) rfl rfl rfl (zap hr.sq) (by omega)) ?_)))
  refine hvQ rfl (zba (u := (n.ss.getD k sq0).iv) rfl rfl rfl (zap hr.sq) ((zef sqC 3 (fun _ => rfl) n.ss sq0 (show k < _ by omega) (by decide)).trans rfl)) (zdc (i := 0) (z := .int .i64 0) (bytes := 8) rfl rfl rfl rfl Try.underlying48 (by kernel_rfl) rfl rfl rfl rfl (fun w hm => (hr.at (k := k) (by omega)).below hm.bel) (zcj _) (by first | omega | (simp; done) | (simp; omega)) (zco zs ((n.ss.getD k sq0).xs)) (zcx zs ((n.ss.getD k sq0).xs)) (fun _ => rfl) ?_)
  intro v6
  refine enQ 1 rfl (zdn (reQ 1 rfl (hvQ rfl (vaQ rfl rfl rfl) (enQ 1 rfl ?_))))
  exact zdz (k + 1) v6 (zs ++ ((n.ss.getD k sq0).xs)) ⟨by omega, by rw [hz, rts_step n (by omega)]⟩ (by omega) (saQ rfl) (pfQ rfl)
 refine ntQ (zal rfl ?_)
 refine zby (zes ?_)
 refine zat (zaw (zbn 2 rfl ?_))
 exact zak (zev (post := [rI9 3 u zs]) rfl rfl (slQ [0] rfl) (by rw [hz, show k = n.ss.length by omega]))
theorem specNetOk_any (n : Nt) (w : World) (hr : RdsNt w n) (hS : NtSm n) :
   Calls Try.prog 88 #[.agg #[.int .i64 n.ins, n.sv, n.av, n.ov]] w (Ans w (.bool (pB (NtOk n)))) := by
 have qs1 := hS.s1
 have qa1 := hS.a1
 have qo1 := hS.o1
 have hcnt : n.cnt = 1 + n.ins + n.ss.length + n.gs.length := rfl
 have hfst : n.fst = 1 + n.ins + n.ss.length := rfl
 refine zbq (N := 104) (args := [.agg #[.int .i64 n.ins, n.sv, n.av, n.ov]]) Try.func88 rfl rfl (srQ ?_)
 refine zed rfl (zdh rfl rfl) ?_
 intro b1
 refine zbc 1 rfl (srQ (hvQ rfl (zar (cs := [.int .i64 n.ins, n.sv, n.av, n.ov]) rfl rfl rfl rfl rfl (zah 0 rfl 0 rfl)) ?_))
 refine zdu rfl (zam rfl rfl (fun w hm => zbb (zeh n w (hr.below hm.bel) hS))) (zbc 1 rfl (zac (zac (reQ 1 rfl ?_))))
 refine zbj rfl rfl rfl rfl rfl rfl (fun h2 => ?_) (fun h2 => ?_)
 ·
  refine ntQ (zaj rfl (zbn 1 rfl ?_))
  refine zak (zad ?_)
  exact zbl rfl rfl (congrArg _ (zdr (fun hp => by first | (exact zfj hp.nc (by assumption); done) | (have h9 := (hp.sq _ (zbd (d := sq0) (show k < n.ss.length by omega))).kind; omega; done) | (have h9 := hp.sq _ (zbd (d := sq0) (show k < n.ss.length by omega)); exact absurd h9 (by assumption); done) | (have h9 := zdx hp (i := q) (by omega); rw [← hnc] at h9; exact absurd h9 (by assumption); done) | (have h9 := zdx hp (i := q) (by omega); rw [← hnc] at h9; obtain ⟨h8, h7⟩ := h9; omega; done) | (have h9 := hp.an j (by omega); exact absurd h9.1 (by assumption); done) | (have h9 := hp.an j (by omega); exact absurd h9.2 (by assumption); done) | (have h9 := hp.an j (by omega); obtain ⟨⟨h8, h7⟩, h6, h5⟩ := h9; omega; done))).symm)
 refine ntQ (zal rfl (zdb (zgk ?_)))
 have hc := cntA_nc (by assumption)
 have hnc := zfd hc
 obtain ⟨hi0, hi1, hs1, ha1, ho1⟩ := id hc
 refine zbc 1 rfl (zbf ?_)
 refine lkQ1 (α := Nat) [0, 1, 2, 3, 12] rfl (fun k => [nB9 b1 n]) (fun k => [(4, .int .i64 (k : Int))]) (fun k => k ≤ n.ss.length ∧ ∀ i, i < k → SqOk (n.ss.getD i sq0)) (fun k => n.ss.length - k) 0 ⟨Nat.zero_le _, fun i hi => absurd hi (Nat.not_lt_zero _)⟩ (saQ rfl) (pfQ rfl) ?_
 intro k hi3
 obtain ⟨hk, hqs⟩ := hi3
 refine zac (zac (reQ 1 rfl (hvQ rfl (fdQ 1 rfl rfl rfl) (hvQ rfl (zan rfl rfl rfl (zai 0 rfl rfl)) (hvQ rfl (lnQ rfl rfl rfl (zap hr.sq)) ?_)))))
 refine zcb rfl rfl rfl rfl rfl rfl (fun h4 => ?_) (fun h4 => ?_)
 ·
  refine ntQ (zaj rfl (zdb (sbQ (srQ (hvQ rfl (fdQ 1 rfl rfl rfl) (hvQ rfl (zan rfl rfl rfl (zai 0 rfl rfl)) (zag 1 rfl (hvQ rfl (riQ 3 rfl rfl rfl rfl (zap hr.sq)) ?_))))))))
  refine hvQ rfl (zda (us := [.int .i64 ((n.ss.getD k sq0).kd), .int .i64 ((n.ss.getD k sq0).it), (n.ss.getD k sq0).iv]) rfl rfl rfl rfl (zap hr.sq) (by omega) rfl (zdt sqC 3 (fun _ => rfl) n.ss sq0 (show k < _ by omega) rfl)) (zed rfl (zcc (z := .agg #[.int .i64 0, .int .i64 0, .slice none 0 0]) rfl rfl) ?_)
  intro b5
  refine zbm (cs' := #[.int .i64 ((n.ss.getD k sq0).kd), .int .i64 ((n.ss.getD k sq0).it), (n.ss.getD k sq0).iv]) (i := 0) (off := 0) (us := [.int .i64 ((n.ss.getD k sq0).kd), .int .i64 ((n.ss.getD k sq0).it), (n.ss.getD k sq0).iv]) rfl rfl rfl rfl rfl rfl rfl (zaa rfl (zaa rfl (zaa (hr.at (k := k) (by omega)).one zbe))) rfl rfl rfl (ntQ (srQ (hvQ rfl (fdQ 0 rfl rfl rfl) (hvQ rfl (zan rfl rfl rfl (zai 0 rfl rfl)) ?_))))
  refine zbj rfl rfl rfl rfl rfl rfl (fun h6 => ?_) (fun h6 => ?_)
  ·
   refine zag 1 rfl (hvQ rfl (fdQ 1 rfl rfl rfl) (hvQ rfl (zan rfl rfl rfl (zai 0 rfl rfl)) ?_))
   refine zdu rfl (zam rfl rfl (fun w hm => zbb (zeb ((n.ss.getD k sq0).it) 0 1 w))) (zbz (fun h7 => ?_) (fun h7 => ?_))
   ·
    obtain ⟨h7a, h7b⟩ := (zcp _ _ _).1 h7
    refine zag 2 rfl (hvQ rfl (fdQ 2 rfl rfl rfl) (hvQ rfl (zan rfl rfl rfl (zai 0 rfl rfl)) ?_))
    refine hvQ rfl (lnQ rfl rfl rfl (fun w hm => (hr.at (k := k) (by omega)).below hm.bel)) (zbj rfl rfl rfl rfl rfl rfl (fun h8 => ?_) (fun h8 => ?_))
    ·
     refine zbc 18 rfl (fsQ rfl (zdn (reQ 1 rfl (hvQ rfl (vaQ rfl rfl rfl) ?_))))
     have hc := cntA_nc (by assumption)
     have hnc := zfd hc
     obtain ⟨hi0, hi1, hs1, ha1, ho1⟩ := id hc
     refine enQ 1 rfl ?_
     exact zcm (k + 1) ⟨by omega, fun i hi => by by_cases e9 : i = k; (subst e9; exact ⟨by omega⟩); exact hqs i (by omega)⟩ (by omega) (saQ rfl) (slQ [1] rfl)
    refine zag 2 rfl (hvQ rfl (fdQ 0 rfl rfl rfl) (hvQ rfl (zan rfl rfl rfl (zai 0 rfl rfl)) ?_))
    refine zbj rfl rfl rfl rfl rfl rfl (fun h9 => ?_) (fun h9 => ?_)
    ·
     refine zag 1 rfl (hvQ rfl (fdQ 1 rfl rfl rfl) (hvQ rfl (zan rfl rfl rfl (zai 0 rfl rfl)) ?_))
     refine zdu rfl (zam rfl rfl (fun w hm => zbb (zeb ((n.ss.getD k sq0).it) 0 31 w))) (zbz (fun h10 => ?_) (fun h10 => ?_))
     ·
      obtain ⟨h10a, h10b⟩ := (zcp _ _ _).1 h10
      refine zag 2 rfl (hvQ rfl (fdQ 2 rfl rfl rfl) (hvQ rfl (zan rfl rfl rfl (zai 0 rfl rfl)) ?_))
      refine hvQ rfl (lnQ rfl rfl rfl (fun w hm => (hr.at (k := k) (by omega)).below hm.bel)) (zbj rfl rfl rfl rfl rfl rfl (fun h11 => ?_) (fun h11 => ?_))
      ·
       refine zbc 3 rfl (fsQ rfl (zdn (reQ 1 rfl (hvQ rfl (vaQ rfl rfl rfl) ?_))))
       have hc := cntA_nc (by assumption)
       have hnc := zfd hc
       obtain ⟨hi0, hi1, hs1, ha1, ho1⟩ := id hc
       refine enQ 1 rfl ?_
       exact zcm (k + 1) ⟨by omega, fun i hi => by by_cases e9 : i = k; (subst e9; exact ⟨by omega⟩); exact hqs i (by omega)⟩ (by omega) (saQ rfl) (slQ [1] rfl)
      refine zbc 3 rfl (zaj rfl (zbn 1 rfl ?_))
      refine zak (zaf ?_)
      refine zfv ?_
      refine zaf (zad ?_)
      exact zbl rfl rfl (congrArg _ (zdr (fun hp => by first | (exact zfj hp.nc (by assumption); done) | (have h9 := (hp.sq _ (zbd (d := sq0) (show k < n.ss.length by omega))).kind; omega; done) | (have h9 := hp.sq _ (zbd (d := sq0) (show k < n.ss.length by omega)); exact absurd h9 (by assumption); done) | (have h9 := zdx hp (i := q) (by omega); rw [← hnc] at h9; exact absurd h9 (by assumption); done) | (have h9 := zdx hp (i := q) (by omega); rw [← hnc] at h9; obtain ⟨h8, h7⟩ := h9; omega; done) | (have h9 := hp.an j (by omega); exact absurd h9.1 (by assumption); done) | (have h9 := hp.an j (by omega); exact absurd h9.2 (by assumption); done) | (have h9 := hp.an j (by omega); obtain ⟨⟨h8, h7⟩, h6, h5⟩ := h9; omega; done))).symm)
     have h10a := zdy h10
     refine zbc 9 rfl (zaj rfl (zac (reQ 1 rfl (?_))))
     refine ntQ ?_
     refine zak (zaf ?_)
     refine zfv ?_
     refine zaf (zad ?_)
     exact zbl rfl rfl (congrArg _ (zdr (fun hp => by first | (exact zfj hp.nc (by assumption); done) | (have h9 := (hp.sq _ (zbd (d := sq0) (show k < n.ss.length by omega))).kind; omega; done) | (have h9 := hp.sq _ (zbd (d := sq0) (show k < n.ss.length by omega)); exact absurd h9 (by assumption); done) | (have h9 := zdx hp (i := q) (by omega); rw [← hnc] at h9; exact absurd h9 (by assumption); done) | (have h9 := zdx hp (i := q) (by omega); rw [← hnc] at h9; obtain ⟨h8, h7⟩ := h9; omega; done) | (have h9 := hp.an j (by omega); exact absurd h9.1 (by assumption); done) | (have h9 := hp.an j (by omega); exact absurd h9.2 (by assumption); done) | (have h9 := hp.an j (by omega); obtain ⟨⟨h8, h7⟩, h6, h5⟩ := h9; omega; done))).symm)
    refine zbc 13 rfl (zaj rfl ?_)
    refine zbn 1 rfl ?_
    refine zak (zaf ?_)
    refine zfv ?_
    refine zaf (zad ?_)
    exact zbl rfl rfl (congrArg _ (zdr (fun hp => by first | (exact zfj hp.nc (by assumption); done) | (have h9 := (hp.sq _ (zbd (d := sq0) (show k < n.ss.length by omega))).kind; omega; done) | (have h9 := hp.sq _ (zbd (d := sq0) (show k < n.ss.length by omega)); exact absurd h9 (by assumption); done) | (have h9 := zdx hp (i := q) (by omega); rw [← hnc] at h9; exact absurd h9 (by assumption); done) | (have h9 := zdx hp (i := q) (by omega); rw [← hnc] at h9; obtain ⟨h8, h7⟩ := h9; omega; done) | (have h9 := hp.an j (by omega); exact absurd h9.1 (by assumption); done) | (have h9 := hp.an j (by omega); exact absurd h9.2 (by assumption); done) | (have h9 := hp.an j (by omega); obtain ⟨⟨h8, h7⟩, h6, h5⟩ := h9; omega; done))).symm)
   have h7a := zdy h7
   refine zag 8 rfl (hvQ rfl (fdQ 0 rfl rfl rfl) (hvQ rfl (zan rfl rfl rfl (zai 0 rfl rfl)) ?_))
   refine zbj rfl rfl rfl rfl rfl rfl (fun h12 => ?_) (fun h12 => ?_)
   ·
    refine zag 1 rfl (hvQ rfl (fdQ 1 rfl rfl rfl) (hvQ rfl (zan rfl rfl rfl (zai 0 rfl rfl)) ?_))
    refine zdu rfl (zam rfl rfl (fun w hm => zbb (zeb ((n.ss.getD k sq0).it) 0 31 w))) (zbz (fun h13 => ?_) (fun h13 => ?_))
    ·
     obtain ⟨h13a, h13b⟩ := (zcp _ _ _).1 h13
     refine zag 2 rfl (hvQ rfl (fdQ 2 rfl rfl rfl) (hvQ rfl (zan rfl rfl rfl (zai 0 rfl rfl)) ?_))
     refine hvQ rfl (lnQ rfl rfl rfl (fun w hm => (hr.at (k := k) (by omega)).below hm.bel)) (zbj rfl rfl rfl rfl rfl rfl (fun h14 => ?_) (fun h14 => ?_))
     ·
      refine zbc 3 rfl (fsQ rfl (zdn (reQ 1 rfl (hvQ rfl (vaQ rfl rfl rfl) ?_))))
      have hc := cntA_nc (by assumption)
      have hnc := zfd hc
      obtain ⟨hi0, hi1, hs1, ha1, ho1⟩ := id hc
      refine enQ 1 rfl ?_
      exact zcm (k + 1) ⟨by omega, fun i hi => by by_cases e9 : i = k; (subst e9; exact ⟨by omega⟩); exact hqs i (by omega)⟩ (by omega) (saQ rfl) (slQ [1] rfl)
     refine zbc 3 rfl (zaj rfl (zbn 1 rfl ?_))
     refine zak (zaf ?_)
     refine zfv ?_
     refine zaf (zad ?_)
     exact zbl rfl rfl (congrArg _ (zdr (fun hp => by first | (exact zfj hp.nc (by assumption); done) | (have h9 := (hp.sq _ (zbd (d := sq0) (show k < n.ss.length by omega))).kind; omega; done) | (have h9 := hp.sq _ (zbd (d := sq0) (show k < n.ss.length by omega)); exact absurd h9 (by assumption); done) | (have h9 := zdx hp (i := q) (by omega); rw [← hnc] at h9; exact absurd h9 (by assumption); done) | (have h9 := zdx hp (i := q) (by omega); rw [← hnc] at h9; obtain ⟨h8, h7⟩ := h9; omega; done) | (have h9 := hp.an j (by omega); exact absurd h9.1 (by assumption); done) | (have h9 := hp.an j (by omega); exact absurd h9.2 (by assumption); done) | (have h9 := hp.an j (by omega); obtain ⟨⟨h8, h7⟩, h6, h5⟩ := h9; omega; done))).symm)
    have h13a := zdy h13
    refine zbc 9 rfl (zaj rfl (zac (reQ 1 rfl (?_))))
    refine ntQ ?_
    refine zak (zaf ?_)
    refine zfv ?_
    refine zaf (zad ?_)
    exact zbl rfl rfl (congrArg _ (zdr (fun hp => by first | (exact zfj hp.nc (by assumption); done) | (have h9 := (hp.sq _ (zbd (d := sq0) (show k < n.ss.length by omega))).kind; omega; done) | (have h9 := hp.sq _ (zbd (d := sq0) (show k < n.ss.length by omega)); exact absurd h9 (by assumption); done) | (have h9 := zdx hp (i := q) (by omega); rw [← hnc] at h9; exact absurd h9 (by assumption); done) | (have h9 := zdx hp (i := q) (by omega); rw [← hnc] at h9; obtain ⟨h8, h7⟩ := h9; omega; done) | (have h9 := hp.an j (by omega); exact absurd h9.1 (by assumption); done) | (have h9 := hp.an j (by omega); exact absurd h9.2 (by assumption); done) | (have h9 := hp.an j (by omega); obtain ⟨⟨h8, h7⟩, h6, h5⟩ := h9; omega; done))).symm)
   refine zbc 13 rfl (zaj rfl ?_)
   refine zbn 1 rfl ?_
   refine zak (zaf ?_)
   refine zfv ?_
   refine zaf (zad ?_)
   exact zbl rfl rfl (congrArg _ (zdr (fun hp => by first | (exact zfj hp.nc (by assumption); done) | (have h9 := (hp.sq _ (zbd (d := sq0) (show k < n.ss.length by omega))).kind; omega; done) | (have h9 := hp.sq _ (zbd (d := sq0) (show k < n.ss.length by omega)); exact absurd h9 (by assumption); done) | (have h9 := zdx hp (i := q) (by omega); rw [← hnc] at h9; exact absurd h9 (by assumption); done) | (have h9 := zdx hp (i := q) (by omega); rw [← hnc] at h9; obtain ⟨h8, h7⟩ := h9; omega; done) | (have h9 := hp.an j (by omega); exact absurd h9.1 (by assumption); done) | (have h9 := hp.an j (by omega); exact absurd h9.2 (by assumption); done) | (have h9 := hp.an j (by omega); obtain ⟨⟨h8, h7⟩, h6, h5⟩ := h9; omega; done))).symm)
  refine zag 12 rfl (hvQ rfl (fdQ 0 rfl rfl rfl) (hvQ rfl (zan rfl rfl rfl (zai 0 rfl rfl)) ?_))
  refine zbj rfl rfl rfl rfl rfl rfl (fun h15 => ?_) (fun h15 => ?_)
  ·
   refine zag 1 rfl (hvQ rfl (fdQ 1 rfl rfl rfl) (hvQ rfl (zan rfl rfl rfl (zai 0 rfl rfl)) ?_))
   refine zdu rfl (zam rfl rfl (fun w hm => zbb (zeb ((n.ss.getD k sq0).it) 0 31 w))) (zbz (fun h16 => ?_) (fun h16 => ?_))
   ·
    obtain ⟨h16a, h16b⟩ := (zcp _ _ _).1 h16
    refine zag 2 rfl (hvQ rfl (fdQ 2 rfl rfl rfl) (hvQ rfl (zan rfl rfl rfl (zai 0 rfl rfl)) ?_))
    refine hvQ rfl (lnQ rfl rfl rfl (fun w hm => (hr.at (k := k) (by omega)).below hm.bel)) (zbj rfl rfl rfl rfl rfl rfl (fun h17 => ?_) (fun h17 => ?_))
    ·
     refine zbc 3 rfl (fsQ rfl (zdn (reQ 1 rfl (hvQ rfl (vaQ rfl rfl rfl) ?_))))
     have hc := cntA_nc (by assumption)
     have hnc := zfd hc
     obtain ⟨hi0, hi1, hs1, ha1, ho1⟩ := id hc
     refine enQ 1 rfl ?_
     exact zcm (k + 1) ⟨by omega, fun i hi => by by_cases e9 : i = k; (subst e9; exact ⟨by omega⟩); exact hqs i (by omega)⟩ (by omega) (saQ rfl) (slQ [1] rfl)
    refine zbc 3 rfl (zaj rfl (zbn 1 rfl ?_))
    refine zak (zaf ?_)
    refine zfv ?_
    refine zaf (zad ?_)
    exact zbl rfl rfl (congrArg _ (zdr (fun hp => by first | (exact zfj hp.nc (by assumption); done) | (have h9 := (hp.sq _ (zbd (d := sq0) (show k < n.ss.length by omega))).kind; omega; done) | (have h9 := hp.sq _ (zbd (d := sq0) (show k < n.ss.length by omega)); exact absurd h9 (by assumption); done) | (have h9 := zdx hp (i := q) (by omega); rw [← hnc] at h9; exact absurd h9 (by assumption); done) | (have h9 := zdx hp (i := q) (by omega); rw [← hnc] at h9; obtain ⟨h8, h7⟩ := h9; omega; done) | (have h9 := hp.an j (by omega); exact absurd h9.1 (by assumption); done) | (have h9 := hp.an j (by omega); exact absurd h9.2 (by assumption); done) | (have h9 := hp.an j (by omega); obtain ⟨⟨h8, h7⟩, h6, h5⟩ := h9; omega; done))).symm)
   have h16a := zdy h16
   refine zbc 9 rfl (zaj rfl (zac (reQ 1 rfl (?_))))
   refine ntQ ?_
   refine zak (zaf ?_)
   refine zfv ?_
   refine zaf (zad ?_)
   exact zbl rfl rfl (congrArg _ (zdr (fun hp => by first | (exact zfj hp.nc (by assumption); done) | (have h9 := (hp.sq _ (zbd (d := sq0) (show k < n.ss.length by omega))).kind; omega; done) | (have h9 := hp.sq _ (zbd (d := sq0) (show k < n.ss.length by omega)); exact absurd h9 (by assumption); done) | (have h9 := zdx hp (i := q) (by omega); rw [← hnc] at h9; exact absurd h9 (by assumption); done) | (have h9 := zdx hp (i := q) (by omega); rw [← hnc] at h9; obtain ⟨h8, h7⟩ := h9; omega; done) | (have h9 := hp.an j (by omega); exact absurd h9.1 (by assumption); done) | (have h9 := hp.an j (by omega); exact absurd h9.2 (by assumption); done) | (have h9 := hp.an j (by omega); obtain ⟨⟨h8, h7⟩, h6, h5⟩ := h9; omega; done))).symm)
  refine zbc 13 rfl (zaj rfl ?_)
  refine zbn 1 rfl ?_
  refine zak (zaf ?_)
  refine zfv ?_
  refine zaf (zad ?_)
  exact zbl rfl rfl (congrArg _ (zdr (fun hp => by first | (exact zfj hp.nc (by assumption); done) | (have h9 := (hp.sq _ (zbd (d := sq0) (show k < n.ss.length by omega))).kind; omega; done) | (have h9 := hp.sq _ (zbd (d := sq0) (show k < n.ss.length by omega)); exact absurd h9 (by assumption); done) | (have h9 := zdx hp (i := q) (by omega); rw [← hnc] at h9; exact absurd h9 (by assumption); done) | (have h9 := zdx hp (i := q) (by omega); rw [← hnc] at h9; obtain ⟨h8, h7⟩ := h9; omega; done) | (have h9 := hp.an j (by omega); exact absurd h9.1 (by assumption); done) | (have h9 := hp.an j (by omega); exact absurd h9.2 (by assumption); done) | (have h9 := hp.an j (by omega); obtain ⟨⟨h8, h7⟩, h6, h5⟩ := h9; omega; done))).symm)
 refine ntQ (zal rfl ?_)
 refine zby (zes ?_)
 refine zat (zaw (srQ (hvQ rfl (zar (cs := [.int .i64 n.ins, n.sv, n.av, n.ov]) rfl rfl rfl rfl rfl (zah 0 rfl 0 rfl)) ?_)))
 refine zfg rfl rfl rfl (zam rfl rfl (fun w hm => l08RootsS_ret n w (hr.below hm.bel) hS)) ?_
 intro v18 p19 hR20
 subst hR20
 refine zbc 1 rfl (zac (zbn 1 rfl (zbf ?_)))
 refine lkQ1 (α := Nat) [0, 1, 2, 3, 6, 12, 17] rfl (fun q => [rowE 3 1 v18 ((rtsL n n.ss.length).length) ((rtsL n n.ss.length).map (Value.int .i64)), nB9 b1 n]) (fun q => [(7, .int .i64 (q : Int))]) (fun q => q ≤ (rtsL n n.ss.length).length ∧ ∀ i, i < q → LtOk ((rtsL n n.ss.length).getD i 0) n.cnt) (fun q => (rtsL n n.ss.length).length - q) 0 ⟨Nat.zero_le _, fun i hi => absurd hi (Nat.not_lt_zero _)⟩ (saQ rfl) (pfQ rfl) ?_
 intro q hi21
 obtain ⟨hq, hqr⟩ := hi21
 refine zgk ?_
 have hzl := zgy hS n.ss.length (Nat.le_refl _)
 refine zag 2 rfl (hvQ rfl (lnQ rfl rfl rfl (zao 0 rfl)) ?_)
 refine zcb rfl rfl rfl rfl rfl rfl (fun h22 => ?_) (fun h22 => ?_)
 ·
  refine ntQ (zaj rfl (zdb (sbQ (srQ ?_))))
  have hzl := zgy hS n.ss.length (Nat.le_refl _)
  have hzm := rts_max hS (i := q) (by omega)
  refine zag 2 rfl (hvQ rfl (riQ 1 rfl rfl rfl rfl (zao 0 rfl)) (hvQ rfl (zba (u := .int .i64 ((rtsL n n.ss.length).getD q 0)) rfl rfl rfl (zao 0 rfl) (zcg (show _ < (rtsL n n.ss.length).length by omega))) (zag 1 rfl ?_)))
  refine zdu rfl (zam rfl rfl (fun w hm => zbb (zea ((rtsL n n.ss.length).getD q 0) (cntA n) w (by omega)))) (zbz (fun h23 => ?_) (fun h23 => ?_))
  ·
   have h23q := of_decide_eq_true h23
   refine zbc 1 rfl (fsQ rfl (zdn (reQ 1 rfl (hvQ rfl (vaQ rfl rfl rfl) (enQ 1 rfl ?_)))))
   exact zcm (q + 1) ⟨by omega, fun i hi => by by_cases e9 : i = q; (subst e9; rw [← hnc]; assumption); exact hqr i (by omega)⟩ (by omega) (saQ rfl) (pfQ rfl)
  have h23q := of_decide_eq_false h23
  refine zbc 1 rfl (zaj rfl (zbn 1 rfl ?_))
  refine zak (zaf ?_)
  refine zfv ?_
  refine zaf (zad ?_)
  exact zbl rfl rfl (congrArg _ (zdr (fun hp => by first | (exact zfj hp.nc (by assumption); done) | (have h9 := (hp.sq _ (zbd (d := sq0) (show k < n.ss.length by omega))).kind; omega; done) | (have h9 := hp.sq _ (zbd (d := sq0) (show k < n.ss.length by omega)); exact absurd h9 (by assumption); done) | (have h9 := zdx hp (i := q) (by omega); rw [← hnc] at h9; exact absurd h9 (by assumption); done) | (have h9 := zdx hp (i := q) (by omega); rw [← hnc] at h9; obtain ⟨h8, h7⟩ := h9; omega; done) | (have h9 := hp.an j (by omega); exact absurd h9.1 (by assumption); done) | (have h9 := hp.an j (by omega); exact absurd h9.2 (by assumption); done) | (have h9 := hp.an j (by omega); obtain ⟨⟨h8, h7⟩, h6, h5⟩ := h9; omega; done))).symm)
 refine ntQ (zal rfl ?_)
 refine zby (zes ?_)
 refine zat (zaw (zac (zbn 1 rfl (zbf ?_))))
 refine lkQ1 (α := Nat) [0, 1, 2, 3, 6, 12, 17, 61] rfl (fun j => [rowE 3 1 v18 ((rtsL n n.ss.length).length) ((rtsL n n.ss.length).map (Value.int .i64)), nB9 b1 n]) (fun j => [(8, .int .i64 (j : Int))]) (fun j => j ≤ n.gs.length ∧ ∀ i, i < j → LtOk (n.gs.getD i an0).a (n.fst + i) ∧ LtOk (n.gs.getD i an0).b (n.fst + i)) (fun j => n.gs.length - j) 0 ⟨Nat.zero_le _, fun i hi => absurd hi (Nat.not_lt_zero _)⟩ (saQ rfl) (pfQ rfl) ?_
 intro j hi24
 obtain ⟨hj, hqa⟩ := hi24
 refine zac (zac (reQ 1 rfl (hvQ rfl (fdQ 2 rfl rfl rfl) (hvQ rfl (zan rfl rfl rfl (zai 1 rfl rfl)) (hvQ rfl (lnQ rfl rfl rfl (zap hr.an)) ?_)))))
 refine zcb rfl rfl rfl rfl rfl rfl (fun h25 => ?_) (fun h25 => ?_)
 ·
  refine ntQ (zaj rfl (zdb (sbQ (zac ?_))))
  have hmg := hS.mg j (by omega)
  obtain ⟨hmg1, hmg2⟩ := hmg
  rcases Bool.eq_false_or_eq_true (decide (LtOk ((n.gs.getD j an0).a) (n.fst + (j : Int)))) with hb26 | hb26
  ·
   have hb26q := of_decide_eq_true hb26
   have hmg := hS.mg j (by omega)
   obtain ⟨hmg1, hmg2⟩ := hmg
   rcases Bool.eq_false_or_eq_true (decide (LtOk ((n.gs.getD j an0).b) (n.fst + (j : Int)))) with hb27 | hb27
   ·
    have hb27q := of_decide_eq_true hb27
    have hmg := hS.mg j (by omega)
    obtain ⟨hmg1, hmg2⟩ := hmg
    refine zdp 26 [[], [0], [], [1, 2], [3], [4], [], [6], [], [7, 8], [5, 9], [10], [11], [12], [12, 13], [12], [12, 14, 15], [12, 16], [12, 17], [12], [12, 19], [12], [12, 20, 21], [12, 18, 22], [12, 23], [12, 24]] [78, 79, 80, 81, 82, 83, 84, 85, 86, 87, 88, 89, 90, 91, 92, 93, 94, 95, 96, 97, 98, 99, 100, 101, 102, 103] [.pointer (some ⟨b1, 0 + 2, none⟩), n.av, .int .i64 (j : Int), elP n.av (((j : Int)).toNat * 2), elP n.av (((j : Int)).toNat * 2 + 0), .int .i64 ((n.gs.getD j an0).a), .agg #[.int .i64 n.ins, n.sv, n.av, n.ov], .int .i64 n.fst, .int .i64 (j : Int), .int .i64 (n.fst + (j : Int)), .bool true, .bool false, .bool false, .pointer (some ⟨b1, 0 + 2, none⟩), n.av, .int .i64 (j : Int), elP n.av (((j : Int)).toNat * 2), elP n.av (((j : Int)).toNat * 2 + 1), .int .i64 ((n.gs.getD j an0).b), .agg #[.int .i64 n.ins, n.sv, n.av, n.ov], .int .i64 n.fst, .int .i64 (j : Int), .int .i64 (n.fst + (j : Int)), .bool true, .bool false, .bool false] (by kernel_rfl) rfl ?_ ?_
    ·
     exact ⟨iaQ rfl (fdQ 2 rfl rfl rfl) rfl, iaQ rfl (zan rfl rfl rfl (zai 1 rfl rfl)) rfl, iaQ rfl (zax rfl) rfl, iaQ rfl (riQ 2 rfl rfl rfl rfl (zap hr.an)) rfl, iaQ rfl (zde (k0 := 0) rfl rfl rfl (zap hr.an) (by omega)) rfl, iaQ rfl (zba (u := .int .i64 ((n.gs.getD j an0).a)) rfl rfl rfl (zap hr.an) ((zef anC 2 (fun _ => rfl) n.gs an0 (show j < _ by omega) (by decide)).trans rfl)) rfl, iaQ rfl (zar (cs := [.int .i64 n.ins, n.sv, n.av, n.ov]) rfl rfl rfl rfl rfl (zah 1 rfl 0 rfl)) rfl, .inl ⟨rfl, zam rfl rfl (fun w hm => zbb (l08FirstG n w (hr.below hm.bel) hc))⟩, iaQ rfl (zax rfl) rfl, iaQ rfl (vaQ rfl rfl rfl) rfl, .inl ⟨rfl, rq_cb (zam (by kernel_rfl) rfl (fun w hm => zbb (zea ((n.gs.getD j an0).a) (n.fst + (j : Int)) w (by omega)))) hb26⟩, iaQ rfl (zax rfl) rfl, iaQ rfl (zax rfl) rfl, iaQ rfl (fdQ 2 rfl rfl rfl) rfl, iaQ rfl (zan rfl rfl rfl (zai 1 rfl rfl)) rfl, iaQ rfl (zax rfl) rfl, iaQ rfl (riQ 2 rfl rfl rfl rfl (zap hr.an)) rfl, iaQ rfl (zde (k0 := 1) rfl rfl rfl (zap hr.an) (by omega)) rfl, iaQ rfl (zba (u := .int .i64 ((n.gs.getD j an0).b)) rfl rfl rfl (zap hr.an) ((zef anC 2 (fun _ => rfl) n.gs an0 (show j < _ by omega) (by decide)).trans rfl)) rfl, iaQ rfl (zar (cs := [.int .i64 n.ins, n.sv, n.av, n.ov]) rfl rfl rfl rfl rfl (zah 1 rfl 0 rfl)) rfl, .inl ⟨rfl, zam rfl rfl (fun w hm => zbb (l08FirstG n w (hr.below hm.bel) hc))⟩, iaQ rfl (zax rfl) rfl, iaQ rfl (vaQ rfl rfl rfl) rfl, .inl ⟨rfl, rq_cb (zam (by kernel_rfl) rfl (fun w hm => zbb (zea ((n.gs.getD j an0).b) (n.fst + (j : Int)) w (by omega)))) hb27⟩, iaQ rfl (zax rfl) rfl, iaQ rfl (zax rfl) rfl, trivial⟩
    simp only [List.drop_succ_cons, List.drop_zero]
    refine ntQ (fsQ rfl (zdn (reQ 1 rfl (hvQ rfl (vaQ rfl rfl rfl) (enQ 1 rfl ?_)))))
    exact zcm (j + 1) ⟨by omega, fun i hi => by by_cases e9 : i = j; (subst e9; exact ⟨by assumption, by assumption⟩); exact hqa i (by omega)⟩ (by omega) (saQ rfl) (pfQ rfl)
   have hb27q := of_decide_eq_false hb27
   have hmg := hS.mg j (by omega)
   obtain ⟨hmg1, hmg2⟩ := hmg
   refine zdp 26 [[], [0], [], [1, 2], [3], [4], [], [6], [], [7, 8], [5, 9], [10], [11], [12], [12, 13], [12], [12, 14, 15], [12, 16], [12, 17], [12], [12, 19], [12], [12, 20, 21], [12, 18, 22], [12, 23], [12, 24]] [78, 79, 80, 81, 82, 83, 84, 85, 86, 87, 88, 89, 90, 91, 92, 93, 94, 95, 96, 97, 98, 99, 100, 101, 102, 103] [.pointer (some ⟨b1, 0 + 2, none⟩), n.av, .int .i64 (j : Int), elP n.av (((j : Int)).toNat * 2), elP n.av (((j : Int)).toNat * 2 + 0), .int .i64 ((n.gs.getD j an0).a), .agg #[.int .i64 n.ins, n.sv, n.av, n.ov], .int .i64 n.fst, .int .i64 (j : Int), .int .i64 (n.fst + (j : Int)), .bool true, .bool false, .bool false, .pointer (some ⟨b1, 0 + 2, none⟩), n.av, .int .i64 (j : Int), elP n.av (((j : Int)).toNat * 2), elP n.av (((j : Int)).toNat * 2 + 1), .int .i64 ((n.gs.getD j an0).b), .agg #[.int .i64 n.ins, n.sv, n.av, n.ov], .int .i64 n.fst, .int .i64 (j : Int), .int .i64 (n.fst + (j : Int)), .bool false, .bool true, .bool true] (by kernel_rfl) rfl ?_ ?_
   ·
    exact ⟨iaQ rfl (fdQ 2 rfl rfl rfl) rfl, iaQ rfl (zan rfl rfl rfl (zai 1 rfl rfl)) rfl, iaQ rfl (zax rfl) rfl, iaQ rfl (riQ 2 rfl rfl rfl rfl (zap hr.an)) rfl, iaQ rfl (zde (k0 := 0) rfl rfl rfl (zap hr.an) (by omega)) rfl, iaQ rfl (zba (u := .int .i64 ((n.gs.getD j an0).a)) rfl rfl rfl (zap hr.an) ((zef anC 2 (fun _ => rfl) n.gs an0 (show j < _ by omega) (by decide)).trans rfl)) rfl, iaQ rfl (zar (cs := [.int .i64 n.ins, n.sv, n.av, n.ov]) rfl rfl rfl rfl rfl (zah 1 rfl 0 rfl)) rfl, .inl ⟨rfl, zam rfl rfl (fun w hm => zbb (l08FirstG n w (hr.below hm.bel) hc))⟩, iaQ rfl (zax rfl) rfl, iaQ rfl (vaQ rfl rfl rfl) rfl, .inl ⟨rfl, rq_cb (zam (by kernel_rfl) rfl (fun w hm => zbb (zea ((n.gs.getD j an0).a) (n.fst + (j : Int)) w (by omega)))) hb26⟩, iaQ rfl (zax rfl) rfl, iaQ rfl (zax rfl) rfl, iaQ rfl (fdQ 2 rfl rfl rfl) rfl, iaQ rfl (zan rfl rfl rfl (zai 1 rfl rfl)) rfl, iaQ rfl (zax rfl) rfl, iaQ rfl (riQ 2 rfl rfl rfl rfl (zap hr.an)) rfl, iaQ rfl (zde (k0 := 1) rfl rfl rfl (zap hr.an) (by omega)) rfl, iaQ rfl (zba (u := .int .i64 ((n.gs.getD j an0).b)) rfl rfl rfl (zap hr.an) ((zef anC 2 (fun _ => rfl) n.gs an0 (show j < _ by omega) (by decide)).trans rfl)) rfl, iaQ rfl (zar (cs := [.int .i64 n.ins, n.sv, n.av, n.ov]) rfl rfl rfl rfl rfl (zah 1 rfl 0 rfl)) rfl, .inl ⟨rfl, zam rfl rfl (fun w hm => zbb (l08FirstG n w (hr.below hm.bel) hc))⟩, iaQ rfl (zax rfl) rfl, iaQ rfl (vaQ rfl rfl rfl) rfl, .inl ⟨rfl, rq_cb (zam (by kernel_rfl) rfl (fun w hm => zbb (zea ((n.gs.getD j an0).b) (n.fst + (j : Int)) w (by omega)))) hb27⟩, iaQ rfl (zax rfl) rfl, iaQ rfl (zax rfl) rfl, trivial⟩
   simp only [List.drop_succ_cons, List.drop_zero]
   refine ntQ (zaj rfl (zbn 1 rfl ?_))
   refine zak (zaf ?_)
   refine zfv ?_
   refine zaf (zad ?_)
   exact zbl rfl rfl (congrArg _ (zdr (fun hp => by first | (exact zfj hp.nc (by assumption); done) | (have h9 := (hp.sq _ (zbd (d := sq0) (show k < n.ss.length by omega))).kind; omega; done) | (have h9 := hp.sq _ (zbd (d := sq0) (show k < n.ss.length by omega)); exact absurd h9 (by assumption); done) | (have h9 := zdx hp (i := q) (by omega); rw [← hnc] at h9; exact absurd h9 (by assumption); done) | (have h9 := zdx hp (i := q) (by omega); rw [← hnc] at h9; obtain ⟨h8, h7⟩ := h9; omega; done) | (have h9 := hp.an j (by omega); exact absurd h9.1 (by assumption); done) | (have h9 := hp.an j (by omega); exact absurd h9.2 (by assumption); done) | (have h9 := hp.an j (by omega); obtain ⟨⟨h8, h7⟩, h6, h5⟩ := h9; omega; done))).symm)
  have hb26q := of_decide_eq_false hb26
  have hmg := hS.mg j (by omega)
  obtain ⟨hmg1, hmg2⟩ := hmg
  refine zdp 26 [[], [0], [], [1, 2], [3], [4], [], [6], [], [7, 8], [5, 9], [10], [11], [12], [12], [12], [12], [12], [12], [12], [12], [12], [12], [12], [12], [12, 24]] [78, 79, 80, 81, 82, 83, 84, 85, 86, 87, 88, 89, 90, 91, 92, 93, 94, 95, 96, 97, 98, 99, 100, 101, 102, 103] [.pointer (some ⟨b1, 0 + 2, none⟩), n.av, .int .i64 (j : Int), elP n.av (((j : Int)).toNat * 2), elP n.av (((j : Int)).toNat * 2 + 0), .int .i64 ((n.gs.getD j an0).a), .agg #[.int .i64 n.ins, n.sv, n.av, n.ov], .int .i64 n.fst, .int .i64 (j : Int), .int .i64 (n.fst + (j : Int)), .bool false, .bool true, .bool true, undef, undef, undef, undef, undef, undef, undef, undef, undef, undef, undef, undef, .bool true] (by kernel_rfl) rfl ?_ ?_
  ·
   exact ⟨iaQ rfl (fdQ 2 rfl rfl rfl) rfl, iaQ rfl (zan rfl rfl rfl (zai 1 rfl rfl)) rfl, iaQ rfl (zax rfl) rfl, iaQ rfl (riQ 2 rfl rfl rfl rfl (zap hr.an)) rfl, iaQ rfl (zde (k0 := 0) rfl rfl rfl (zap hr.an) (by omega)) rfl, iaQ rfl (zba (u := .int .i64 ((n.gs.getD j an0).a)) rfl rfl rfl (zap hr.an) ((zef anC 2 (fun _ => rfl) n.gs an0 (show j < _ by omega) (by decide)).trans rfl)) rfl, iaQ rfl (zar (cs := [.int .i64 n.ins, n.sv, n.av, n.ov]) rfl rfl rfl rfl rfl (zah 1 rfl 0 rfl)) rfl, .inl ⟨rfl, zam rfl rfl (fun w hm => zbb (l08FirstG n w (hr.below hm.bel) hc))⟩, iaQ rfl (zax rfl) rfl, iaQ rfl (vaQ rfl rfl rfl) rfl, .inl ⟨rfl, rq_cb (zam (by kernel_rfl) rfl (fun w hm => zbb (zea ((n.gs.getD j an0).a) (n.fst + (j : Int)) w (by omega)))) hb26⟩, iaQ rfl (zax rfl) rfl, iaQ rfl (zax rfl) rfl, .inr ⟨rfl, rfl⟩, .inr ⟨rfl, rfl⟩, .inr ⟨rfl, rfl⟩, .inr ⟨rfl, rfl⟩, .inr ⟨rfl, rfl⟩, .inr ⟨rfl, rfl⟩, .inr ⟨rfl, rfl⟩, .inr ⟨rfl, rfl⟩, .inr ⟨rfl, rfl⟩, .inr ⟨rfl, rfl⟩, .inr ⟨rfl, rfl⟩, .inr ⟨rfl, rfl⟩, iaQ rfl (zax rfl) rfl, trivial⟩
  simp only [List.drop_succ_cons, List.drop_zero]
  refine ntQ (zaj rfl (zbn 1 rfl ?_))
  refine zak (zaf ?_)
  refine zfv ?_
  refine zaf (zad ?_)
  exact zbl rfl rfl (congrArg _ (zdr (fun hp => by first | (exact zfj hp.nc (by assumption); done) | (have h9 := (hp.sq _ (zbd (d := sq0) (show k < n.ss.length by omega))).kind; omega; done) | (have h9 := hp.sq _ (zbd (d := sq0) (show k < n.ss.length by omega)); exact absurd h9 (by assumption); done) | (have h9 := zdx hp (i := q) (by omega); rw [← hnc] at h9; exact absurd h9 (by assumption); done) | (have h9 := zdx hp (i := q) (by omega); rw [← hnc] at h9; obtain ⟨h8, h7⟩ := h9; omega; done) | (have h9 := hp.an j (by omega); exact absurd h9.1 (by assumption); done) | (have h9 := hp.an j (by omega); exact absurd h9.2 (by assumption); done) | (have h9 := hp.an j (by omega); obtain ⟨⟨h8, h7⟩, h6, h5⟩ := h9; omega; done))).symm)
 refine ntQ (zal rfl ?_)
 refine zby (zes ?_)
 refine zat (zaw (zbn 1 rfl ?_))
 exact zak (zbl rfl rfl (congrArg _ (zft (nt_of hc (fun i hi => hqs i (by omega)) (fun i hi => hqr i (by omega)) (fun i hi => hqa i (by omega)))).symm))
theorem zec (n : Nt) (w : World) (hr : RdsNt w n) (hS : NtSm n) : Calls Try.prog 90 #[.agg #[.int .i64 n.ins, n.sv, n.av, n.ov]] w (Ret w (fun u_ p_ => ∃ (ps : List HP) (m : Nt), u_ = m.agg ∧ p_ = [rS9 143 3 m.sv m.ss sqC, rS9 141 2 m.av m.gs anC, bigE ps] ∧ (∀ w, (bigE ps).holds w → RdsSqs w m.ss ∧ RdsW w m.ov 1 m.os.length (m.os.map (Value.int .i64))) ∧ (m.sv.oneCell' = true ∧ m.ov.oneCell' = true) ∧ CopyOf n m)) :=
  l08CopyG_ret n w hr hS.s1 hS.a1 hS.o1 hS.x4
theorem implnodeCountG (n : Nt) (w : World) (hr : RdsNt w n) (hc : NcOk n) :
   Calls Try.prog 96 #[.agg #[.int .i64 n.ins, n.sv, n.av, n.ov]] w (Ans w (.int .i64 n.cnt)) := by
 obtain ⟨hi0, hi1, hs1, ha1, ho1⟩ := hc
 have hcnt : n.cnt = 1 + n.ins + n.ss.length + n.gs.length := rfl
 have hfst : n.fst = 1 + n.ins + n.ss.length := rfl
 refine zbq (N := 14) (args := [.agg #[.int .i64 n.ins, n.sv, n.av, n.ov]]) Try.func96 rfl rfl (srQ ?_)
 refine zed rfl (zdh rfl rfl) ?_
 intro b1
 refine zbc 1 rfl (srQ (hvQ rfl (fdQ 0 rfl rfl rfl) (hvQ rfl (zan rfl rfl rfl (zai 0 rfl rfl)) (hvQ rfl (vaQ rfl rfl rfl) (hvQ rfl (fdQ 1 rfl rfl rfl) (hvQ rfl (zan rfl rfl rfl (zai 0 rfl rfl)) (hvQ rfl (lnQ rfl rfl rfl (zap hr.sq)) (hvQ rfl (vaQ rfl rfl rfl) (hvQ rfl (fdQ 2 rfl rfl rfl) ?_)))))))))
 refine hvQ rfl (zan rfl rfl rfl (zai 0 rfl rfl)) (hvQ rfl (lnQ rfl rfl rfl (zap hr.an)) (hvQ rfl (vaQ rfl rfl rfl) (zbc 1 rfl ?_)))
 exact zak (zbl rfl rfl rfl)
theorem implNodeCount_any (n : Nt) (w : World) (hr : RdsNt w n) (hS : NtSm n) :
   Calls Try.prog 133 #[.agg #[.int .i64 n.ins, n.sv, n.av, n.ov]] w (Ans w (.int .i64 (cntA n))) := by
 have qs1 := hS.s1
 have qa1 := hS.a1
 have qo1 := hS.o1
 have hcnt : n.cnt = 1 + n.ins + n.ss.length + n.gs.length := rfl
 have hfst : n.fst = 1 + n.ins + n.ss.length := rfl
 refine zbq (N := 27) (args := [.agg #[.int .i64 n.ins, n.sv, n.av, n.ov]]) Try.func133 rfl rfl (srQ ?_)
 refine zed rfl (zdh rfl rfl) ?_
 intro b1
 refine zbc 1 rfl (zgk (hvQ rfl (fdQ 0 rfl rfl rfl) (hvQ rfl (zan rfl rfl rfl (zai 0 rfl rfl)) ?_)))
 refine zdu rfl (zam rfl rfl (fun w hm => zbb (zer (zcq _ _ _ w)))) (zbz (fun h2 => ?_) (fun h2 => ?_))
 ·
  obtain ⟨h2a, h2b⟩ := (zcp _ _ _).1 h2
  refine zag 2 rfl (hvQ rfl (fdQ 1 rfl rfl rfl) (hvQ rfl (zan rfl rfl rfl (zai 0 rfl rfl)) (hvQ rfl (lnQ rfl rfl rfl (zap hr.sq)) ?_)))
  refine zeq rfl rfl rfl rfl rfl rfl (fun h3 => ?_) (fun h3 => ?_)
  ·
   refine zbc 13 rfl ?_
   refine zaj rfl (zbn 1 rfl ?_)
   refine zak (zad ?_)
   exact zbl rfl rfl (congrArg _ (zhf (fun h9 => by obtain ⟨i0, i1, s1, a1, o1⟩ := h9; omega)).symm)
  refine zag 2 rfl (hvQ rfl (fdQ 2 rfl rfl rfl) (hvQ rfl (zan rfl rfl rfl (zai 0 rfl rfl)) (hvQ rfl (lnQ rfl rfl rfl (zap hr.an)) ?_)))
  refine zeq rfl rfl rfl rfl rfl rfl (fun h4 => ?_) (fun h4 => ?_)
  ·
   refine zbc 7 rfl (zaj rfl (zac (reQ 1 rfl (?_))))
   refine ntQ ?_
   refine zak (zad ?_)
   exact zbl rfl rfl (congrArg _ (zhf (fun h9 => by obtain ⟨i0, i1, s1, a1, o1⟩ := h9; omega)).symm)
  refine zag 2 rfl (hvQ rfl (fdQ 3 rfl rfl rfl) (hvQ rfl (zan rfl rfl rfl (zai 0 rfl rfl)) (hvQ rfl (lnQ rfl rfl rfl (zap hr.ou)) ?_)))
  refine zeq rfl rfl rfl rfl rfl rfl (fun h5 => ?_) (fun h5 => ?_)
  ·
   refine zbc 1 rfl (zaj rfl (zbn 1 rfl ?_))
   refine zak (zad ?_)
   exact zbl rfl rfl (congrArg _ (zhf (fun h9 => by obtain ⟨i0, i1, s1, a1, o1⟩ := h9; omega)).symm)
  refine zbc 1 rfl (zal rfl (zdb (srQ (hvQ rfl (zar (cs := [.int .i64 n.ins, n.sv, n.av, n.ov]) rfl rfl rfl rfl rfl (zah 0 rfl 0 rfl)) ?_))))
  refine zdu rfl (zam rfl rfl (fun w hm => zbb (implnodeCountG n w (hr.below hm.bel) ⟨by omega, by omega, by omega, by omega, by omega⟩))) (zbc 1 rfl ?_)
  exact zak (zbl rfl rfl (congrArg (Value.int .i64) (show n.cnt = cntA n from (zfd ⟨by omega, by omega, by omega, by omega, by omega⟩).symm)))
 have h2a := zdy h2
 refine zbc 19 rfl (zaj rfl (zbn 1 rfl ?_))
 refine zak (zad ?_)
 exact zbl rfl rfl (congrArg _ (zhf (fun h9 => by obtain ⟨i0, i1, s1, a1, o1⟩ := h9; omega)).symm)
theorem firstAndG (n : Nt) (w : World) (hr : RdsNt w n) (hc : NcOk n) :
   Calls Try.prog 136 #[.agg #[.int .i64 n.ins, n.sv, n.av, n.ov]] w (Ans w (.int .i64 n.fst)) := by
 obtain ⟨hi0, hi1, hs1, ha1, ho1⟩ := hc
 have hcnt : n.cnt = 1 + n.ins + n.ss.length + n.gs.length := rfl
 have hfst : n.fst = 1 + n.ins + n.ss.length := rfl
 refine zbq (N := 10) (args := [.agg #[.int .i64 n.ins, n.sv, n.av, n.ov]]) Try.func136 rfl rfl (srQ ?_)
 refine zed rfl (zdh rfl rfl) ?_
 intro b1
 refine zbc 1 rfl (srQ (hvQ rfl (fdQ 0 rfl rfl rfl) (hvQ rfl (zan rfl rfl rfl (zai 0 rfl rfl)) (hvQ rfl (vaQ rfl rfl rfl) (hvQ rfl (fdQ 1 rfl rfl rfl) (hvQ rfl (zan rfl rfl rfl (zai 0 rfl rfl)) (hvQ rfl (lnQ rfl rfl rfl (zap hr.sq)) (hvQ rfl (vaQ rfl rfl rfl) (zag 1 rfl ?_)))))))))
 refine ntQ ?_
 exact zak (zbl rfl rfl rfl)
theorem seqOkX_ans (s : Sq) (w : World) (hx : RdsW w s.iv 1 s.xs.length (s.xs.map (Value.int .i64))) :
   Calls Try.prog 134 #[.agg #[.int .i64 s.kd, .int .i64 s.it, s.iv]] w (Ans w (.bool (pB (SqOk s)))) := by
 refine zbq (N := 27) (args := [.agg #[.int .i64 s.kd, .int .i64 s.it, s.iv]]) Try.func134 rfl rfl (srQ ?_)
 refine zed rfl (zdh rfl rfl) ?_
 intro b1
 refine zbc 1 rfl (zgk (hvQ rfl (fdQ 0 rfl rfl rfl) (hvQ rfl (zan rfl rfl rfl (zai 0 rfl rfl)) (ntQ (zbf (zac ?_))))))
 refine zav (zbj rfl rfl rfl rfl rfl rfl (fun h2 => ?_) (fun h2 => ?_))
 ·
  refine zbc 1 rfl (zaj rfl (srQ (hvQ rfl (fdQ 1 rfl rfl rfl) (hvQ rfl (zan rfl rfl rfl (zai 0 rfl rfl)) ?_))))
  refine zdu rfl (zam rfl rfl (fun w hm => zbb (zer (zcq _ _ _ w)))) (zbz (fun h3 => ?_) (fun h3 => ?_))
  ·
   obtain ⟨h3a, h3b⟩ := (zcp _ _ _).1 h3
   refine zag 1 rfl (hvQ rfl (fdQ 2 rfl rfl rfl) (hvQ rfl (zan rfl rfl rfl (zai 0 rfl rfl)) (hvQ rfl (lnQ rfl rfl rfl (zap hx)) ?_)))
   refine zbj rfl rfl rfl rfl rfl rfl (fun h4 => ?_) (fun h4 => ?_)
   ·
    refine zbc 2 rfl ?_
    refine zak (zaf ?_)
    exact zad (zbl rfl rfl (congrArg _ (zft ⟨by omega⟩).symm))
   refine zbc 2 rfl ?_
   refine zak (zaf ?_)
   exact zad (zbl rfl rfl (congrArg _ (zdr (fun hp => by have h9 := hp.kind; omega)).symm))
  have h3a := zdy h3
  refine zbc 7 rfl ?_
  refine zak (zaf ?_)
  exact zad (zbl rfl rfl (congrArg _ (zdr (fun hp => by have h9 := hp.kind; omega)).symm))
 refine zbc 1 rfl (zal rfl (srQ ?_))
 refine zbj rfl rfl rfl rfl rfl rfl (fun h5 => ?_) (fun h5 => ?_)
 ·
  refine zbc 1 rfl (zaj rfl (srQ (hvQ rfl (fdQ 1 rfl rfl rfl) (hvQ rfl (zan rfl rfl rfl (zai 0 rfl rfl)) ?_))))
  refine zdu rfl (zam rfl rfl (fun w hm => zbb (zer (zcq _ _ _ w)))) (zbz (fun h6 => ?_) (fun h6 => ?_))
  ·
   obtain ⟨h6a, h6b⟩ := (zcp _ _ _).1 h6
   refine zag 1 rfl (hvQ rfl (fdQ 2 rfl rfl rfl) (hvQ rfl (zan rfl rfl rfl (zai 0 rfl rfl)) (hvQ rfl (lnQ rfl rfl rfl (zap hx)) ?_)))
   refine zbj rfl rfl rfl rfl rfl rfl (fun h7 => ?_) (fun h7 => ?_)
   ·
    refine zbc 2 rfl ?_
    refine zak (zaf ?_)
    exact zad (zbl rfl rfl (congrArg _ (zft ⟨by omega⟩).symm))
   refine zbc 2 rfl ?_
   refine zak (zaf ?_)
   exact zad (zbl rfl rfl (congrArg _ (zdr (fun hp => by have h9 := hp.kind; omega)).symm))
  have h6a := zdy h6
  refine zbc 7 rfl ?_
  refine zak (zaf ?_)
  exact zad (zbl rfl rfl (congrArg _ (zdr (fun hp => by have h9 := hp.kind; omega)).symm))
 refine zbc 1 rfl (fsQ rfl (zdn (zbn 1 rfl ?_)))
 exact zak (zbl rfl rfl (congrArg _ (zdr (fun hp => by have h9 := hp.kind; omega)).symm))
theorem rootsS_ret (n : Nt) (w : World) (hr : RdsNt w n) (hS : NtSm n) :
   Calls Try.prog 135 #[.agg #[.int .i64 n.ins, n.sv, n.av, n.ov]] w (Ret w (fun v' post => post = [rI9 3 v' (rtsL n n.ss.length)])) := by
 have qs1 := hS.s1
 have qa1 := hS.a1
 have qo1 := hS.o1
 have hcnt : n.cnt = 1 + n.ins + n.ss.length + n.gs.length := rfl
 have hfst : n.fst = 1 + n.ins + n.ss.length := rfl
 refine zbq (N := 22) (args := [.agg #[.int .i64 n.ins, n.sv, n.av, n.ov]]) Try.func135 rfl rfl (srQ ?_)
 refine zed rfl (zdh rfl rfl) ?_
 intro b1
 refine zbc 1 rfl (srQ (hvQ rfl (fdQ 3 rfl rfl rfl) (hvQ rfl (zan rfl rfl rfl (zai 0 rfl rfl)) ?_)))
 refine zfg rfl rfl rfl (zam rfl rfl (fun w hm => zgd n.os _ w ((zap hr.ou) w hm) (by omega))) ?_
 intro v2 p3 hR4
 subst hR4
 refine zbc 1 rfl (zgk (hvQ rfl (fdQ 1 rfl rfl rfl) (hvQ rfl (zan rfl rfl rfl (zai 1 rfl rfl)) (hvQ rfl (lnQ rfl rfl rfl (zap hr.sq)) (zbc 1 rfl ?_)))))
 refine zbf ?_
 refine lkQ3 (α := Nat) (β := Value) (γ := List Int) [0, 1, 2, 10, 11] rfl (fun k u zs => [rI9 3 u zs, nB9 b1 n]) (fun k u zs => [(3, u), (12, .int .i64 (k : Int))]) (fun k u zs => k ≤ n.ss.length ∧ zs = rtsL n k) (fun k u zs => n.ss.length - k) 0 _ n.os ⟨by omega, by simp [rtsL]⟩ (saQ rfl) (pfQ rfl) ?_
 intro k u zs hi5
 obtain ⟨hk, hz⟩ := hi5
 have hzl : zs.length ≤ 40 + 4 * k := by rw [hz]; exact zgy hS k hk
 refine srQ ?_
 refine zcb rfl rfl rfl rfl rfl rfl (fun h6 => ?_) (fun h6 => ?_)
 ·
  refine ntQ (tcQ rfl (zdb (sbQ (srQ (hvQ rfl (riQ 3 rfl rfl rfl rfl (zap hr.sq)) ?_)))))
  refine hvQ rfl (zda (us := [.int .i64 ((n.ss.getD k sq0).kd), .int .i64 ((n.ss.getD k sq0).it), (n.ss.getD k sq0).iv]) rfl rfl rfl rfl (zap hr.sq) (by omega) rfl (zdt sqC 3 (fun _ => rfl) n.ss sq0 (show k < _ by omega) rfl)) (zed rfl (zcc (z := .agg #[.int .i64 0, .int .i64 0, .slice none 0 0]) rfl rfl) ?_)
  intro b7
  refine zbm (cs' := #[.int .i64 ((n.ss.getD k sq0).kd), .int .i64 ((n.ss.getD k sq0).it), (n.ss.getD k sq0).iv]) (i := 0) (off := 0) (us := [.int .i64 ((n.ss.getD k sq0).kd), .int .i64 ((n.ss.getD k sq0).it), (n.ss.getD k sq0).iv]) rfl rfl rfl rfl rfl rfl rfl (zaa rfl (zaa rfl (zaa (hr.at (k := k) (by omega)).one zbe))) rfl rfl rfl (ntQ (zav ?_))
  have hx4 := hS.x4 _ (zbd (d := sq0) (show k < n.ss.length by omega))
  refine zag 1 rfl (hvQ rfl (fdQ 2 rfl rfl rfl) (hvQ rfl (zan rfl rfl rfl (zai 0 rfl rfl)) ?_))
  refine zdc (i := 1) (z := .int .i64 0) (bytes := 8) rfl rfl rfl rfl Try.underlying48 (by kernel_rfl) rfl rfl rfl rfl (fun w hm => (hr.at (k := k) (by omega)).below hm.bel) (zcj _) (by first | omega | (simp; done) | (simp; omega)) (zco zs ((n.ss.getD k sq0).xs)) (zcx zs ((n.ss.getD k sq0).xs)) (fun _ => rfl) ?_
  intro v8
  refine enQ 1 rfl (zdn (zav (hvQ rfl (vaQ rfl rfl rfl) (enQ 1 rfl ?_))))
  exact zdz (k + 1) v8 (zs ++ ((n.ss.getD k sq0).xs)) ⟨by omega, by rw [hz, rts_step n (by omega)]⟩ (by omega) (saQ rfl) (slQ [1, 0] rfl)
 refine ntQ (fcQ rfl ?_)
 refine zby (zes ?_)
 refine zat (zaw (zbn 2 rfl ?_))
 exact zak (zev (post := [rI9 3 u zs]) rfl rfl (slQ [0] rfl) (by rw [hz, show k = n.ss.length by omega]))
theorem implNetOk_any (n : Nt) (w : World) (hr : RdsNt w n) (hS : NtSm n) :
   Calls Try.prog 94 #[.agg #[.int .i64 n.ins, n.sv, n.av, n.ov]] w (Ans w (.bool (pB (NtOk n)))) := by
 have qs1 := hS.s1
 have qa1 := hS.a1
 have qo1 := hS.o1
 have hcnt : n.cnt = 1 + n.ins + n.ss.length + n.gs.length := rfl
 have hfst : n.fst = 1 + n.ins + n.ss.length := rfl
 refine zbq (N := 67) (args := [.agg #[.int .i64 n.ins, n.sv, n.av, n.ov]]) Try.func94 rfl rfl (srQ ?_)
 refine zed rfl (zdh rfl rfl) ?_
 intro b1
 refine zbc 1 rfl (srQ (hvQ rfl (zar (cs := [.int .i64 n.ins, n.sv, n.av, n.ov]) rfl rfl rfl rfl rfl (zah 0 rfl 0 rfl)) ?_))
 refine zdu rfl (zam rfl rfl (fun w hm => zbb (implNodeCount_any n w (hr.below hm.bel) hS))) (zbc 1 rfl (zac (zac (reQ 1 rfl ?_))))
 refine zbj rfl rfl rfl rfl rfl rfl (fun h2 => ?_) (fun h2 => ?_)
 ·
  refine ntQ (zaj rfl (zbn 1 rfl ?_))
  refine zak (zad ?_)
  exact zbl rfl rfl (congrArg _ (zdr (fun hp => by first | (exact zfj hp.nc (by assumption); done) | (have h9 := hp.sq _ (zbd (d := sq0) (show k < n.ss.length by omega)); exact absurd h9 (by assumption); done) | (have h9 := zdx hp (i := q) (by omega); rw [← hnc] at h9; obtain ⟨h8, h7⟩ := h9; omega; done) | (have h9 := hp.an j (by omega); obtain ⟨⟨h8, h7⟩, h6, h5⟩ := h9; omega; done))).symm)
 refine ntQ (zal rfl (zdb (zgk ?_)))
 have hc := cntA_nc (by assumption)
 have hnc := zfd hc
 obtain ⟨hi0, hi1, hs1, ha1, ho1⟩ := id hc
 refine hvQ rfl (fdQ 1 rfl rfl rfl) ?_
 have hc := cntA_nc (by assumption)
 have hnc := zfd hc
 obtain ⟨hi0, hi1, hs1, ha1, ho1⟩ := id hc
 refine hvQ rfl (zan rfl rfl rfl (zai 0 rfl rfl)) (hvQ rfl (lnQ rfl rfl rfl (zap hr.sq)) (zbc 1 rfl (zbf ?_)))
 refine lkQ1 (α := Nat) [0, 1, 2, 3, 14, 16, 17] rfl (fun k => [nB9 b1 n]) (fun k => [(18, .int .i64 (k : Int))]) (fun k => k ≤ n.ss.length ∧ ∀ i, i < k → SqOk (n.ss.getD i sq0)) (fun k => n.ss.length - k) 0 ⟨Nat.zero_le _, fun i hi => absurd hi (Nat.not_lt_zero _)⟩ (saQ rfl) (pfQ rfl) ?_
 intro k hi3
 obtain ⟨hk, hqs⟩ := hi3
 refine srQ ?_
 refine zcb rfl rfl rfl rfl rfl rfl (fun h4 => ?_) (fun h4 => ?_)
 ·
  refine ntQ (tcQ rfl (zdb (sbQ (srQ (hvQ rfl (riQ 3 rfl rfl rfl rfl (zap hr.sq)) ?_)))))
  refine hvQ rfl (zda (us := [.int .i64 ((n.ss.getD k sq0).kd), .int .i64 ((n.ss.getD k sq0).it), (n.ss.getD k sq0).iv]) rfl rfl rfl rfl (zap hr.sq) (by omega) rfl (zdt sqC 3 (fun _ => rfl) n.ss sq0 (show k < _ by omega) rfl)) (zed rfl (zcc (z := .agg #[.int .i64 0, .int .i64 0, .slice none 0 0]) rfl rfl) ?_)
  intro b5
  refine zbm (cs' := #[.int .i64 ((n.ss.getD k sq0).kd), .int .i64 ((n.ss.getD k sq0).it), (n.ss.getD k sq0).iv]) (i := 0) (off := 0) (us := [.int .i64 ((n.ss.getD k sq0).kd), .int .i64 ((n.ss.getD k sq0).it), (n.ss.getD k sq0).iv]) rfl rfl rfl rfl rfl rfl rfl (zaa rfl (zaa rfl (zaa (hr.at (k := k) (by omega)).one zbe))) rfl rfl rfl (ntQ (srQ (hvQ rfl (zar (cs := [.int .i64 ((n.ss.getD k sq0).kd), .int .i64 ((n.ss.getD k sq0).it), (n.ss.getD k sq0).iv]) rfl rfl rfl rfl rfl (zah 0 rfl 0 rfl)) ?_)))
  refine zdu rfl (zam rfl rfl (fun w hm => zbb (seqOkX_ans (n.ss.getD k sq0) w ((hr.at (k := k) (by omega)).below hm.bel)))) (zbz (fun h6 => ?_) (fun h6 => ?_))
  ·
   have h6p := of_pB h6
   refine zbc 1 rfl (fsQ rfl (zdn (zav (hvQ rfl (vaQ rfl rfl rfl) (enQ 1 rfl ?_)))))
   exact zcm (k + 1) ⟨by omega, fun i hi => by by_cases e9 : i = k; (subst e9; assumption); exact hqs i (by omega)⟩ (by omega) (saQ rfl) (slQ [1] rfl)
  have h6p := of_pBn h6
  refine zbc 1 rfl (zaj rfl (zbn 1 rfl ?_))
  refine zak (zaf ?_)
  refine zfv ?_
  refine zaf (zad ?_)
  exact zbl rfl rfl (congrArg _ (zdr (fun hp => by first | (exact zfj hp.nc (by assumption); done) | (have h9 := hp.sq _ (zbd (d := sq0) (show k < n.ss.length by omega)); exact absurd h9 (by assumption); done) | (have h9 := zdx hp (i := q) (by omega); rw [← hnc] at h9; obtain ⟨h8, h7⟩ := h9; omega; done) | (have h9 := hp.an j (by omega); obtain ⟨⟨h8, h7⟩, h6, h5⟩ := h9; omega; done))).symm)
 refine ntQ (fcQ rfl ?_)
 refine zby (zes ?_)
 refine zat (zaw (zgk (hvQ rfl (zar (cs := [.int .i64 n.ins, n.sv, n.av, n.ov]) rfl rfl rfl rfl rfl (zah 0 rfl 0 rfl)) ?_)))
 refine zfg rfl rfl rfl (zam rfl rfl (fun w hm => rootsS_ret n w (hr.below hm.bel) hS)) ?_
 intro v7 p8 hR9
 subst hR9
 refine hvQ rfl (lnQ rfl rfl rfl (zao 0 rfl)) ?_
 have hzl := zgy hS n.ss.length (Nat.le_refl _)
 refine zbc 1 rfl (zbf ?_)
 refine lkQ1 (α := Nat) [0, 1, 2, 3, 14, 16, 17, 18, 19, 27, 28] rfl (fun q => [rowE 3 1 v7 ((rtsL n n.ss.length).length) ((rtsL n n.ss.length).map (Value.int .i64)), nB9 b1 n]) (fun q => [(29, .int .i64 (q : Int))]) (fun q => q ≤ (rtsL n n.ss.length).length ∧ ∀ i, i < q → LtOk ((rtsL n n.ss.length).getD i 0) n.cnt) (fun q => (rtsL n n.ss.length).length - q) 0 ⟨Nat.zero_le _, fun i hi => absurd hi (Nat.not_lt_zero _)⟩ (saQ rfl) (pfQ rfl) ?_
 intro q hi10
 obtain ⟨hq, hqr⟩ := hi10
 refine srQ ?_
 refine zcb rfl rfl rfl rfl rfl rfl (fun h11 => ?_) (fun h11 => ?_)
 ·
  refine ntQ (tcQ rfl (zdb (sbQ (srQ (hvQ rfl (riQ 1 rfl rfl rfl rfl (zao 0 rfl)) (hvQ rfl (zba (u := .int .i64 ((rtsL n n.ss.length).getD q 0)) rfl rfl rfl (zao 0 rfl) (zcg (show _ < (rtsL n n.ss.length).length by omega))) (zag 1 rfl ?_)))))))
  refine ntQ (srQ ?_)
  have hzm := rts_max hS (i := q) (by omega)
  refine zag 2 rfl (hvQ rfl (zfs rfl rfl rfl (by constructor <;> omega)) (hvQ rfl (vsQ rfl rfl rfl) ?_))
  refine zdu rfl (zam rfl rfl (fun w hm => zbb (zer (zcq _ _ _ w)))) (zbz (fun h12 => ?_) (fun h12 => ?_))
  ·
   obtain ⟨h12a, h12b⟩ := (zcp _ _ _).1 h12
   refine zbc 1 rfl (fsQ rfl (zdn (zav (hvQ rfl (vaQ rfl rfl rfl) ?_))))
   have hzl := zgy hS n.ss.length (Nat.le_refl _)
   refine enQ 1 rfl ?_
   exact zcm (q + 1) ⟨by omega, fun i hi => by by_cases e9 : i = q; (subst e9; unfold LtOk; rw [← hnc]; omega); exact hqr i (by omega)⟩ (by omega) (saQ rfl) (pfQ rfl)
  have h12a := zdy h12
  refine zbc 1 rfl (zaj rfl (zbn 1 rfl ?_))
  refine zak (zaf ?_)
  refine zfv ?_
  refine zaf (zad ?_)
  exact zbl rfl rfl (congrArg _ (zdr (fun hp => by first | (exact zfj hp.nc (by assumption); done) | (have h9 := hp.sq _ (zbd (d := sq0) (show k < n.ss.length by omega)); exact absurd h9 (by assumption); done) | (have h9 := zdx hp (i := q) (by omega); rw [← hnc] at h9; obtain ⟨h8, h7⟩ := h9; omega; done) | (have h9 := hp.an j (by omega); obtain ⟨⟨h8, h7⟩, h6, h5⟩ := h9; omega; done))).symm)
 refine ntQ (fcQ rfl ?_)
 refine zby (zes ?_)
 refine zat (zaw (zgk (hvQ rfl (fdQ 2 rfl rfl rfl) (hvQ rfl (zan rfl rfl rfl (zai 1 rfl rfl)) (hvQ rfl (lnQ rfl rfl rfl (zap hr.an)) (zbc 1 rfl (zbf ?_)))))))
 refine lkQ1 (α := Nat) [0, 1, 2, 3, 14, 16, 17, 18, 19, 27, 28, 29, 30, 41, 42] rfl (fun j => [rowE 3 1 v7 ((rtsL n n.ss.length).length) ((rtsL n n.ss.length).map (Value.int .i64)), nB9 b1 n]) (fun j => [(43, .int .i64 (j : Int))]) (fun j => j ≤ n.gs.length ∧ ∀ i, i < j → LtOk (n.gs.getD i an0).a (n.fst + i) ∧ LtOk (n.gs.getD i an0).b (n.fst + i)) (fun j => n.gs.length - j) 0 ⟨Nat.zero_le _, fun i hi => absurd hi (Nat.not_lt_zero _)⟩ (saQ rfl) (pfQ rfl) ?_
 intro j hi13
 obtain ⟨hj, hqa⟩ := hi13
 refine srQ ?_
 refine zcb rfl rfl rfl rfl rfl rfl (fun h14 => ?_) (fun h14 => ?_)
 ·
  refine ntQ (tcQ rfl (zdb (sbQ (zac (reQ 1 rfl (hvQ rfl (riQ 2 rfl rfl rfl rfl (zap hr.an)) ?_))))))
  refine hvQ rfl (zda (us := [.int .i64 ((n.gs.getD j an0).a), .int .i64 ((n.gs.getD j an0).b)]) rfl rfl rfl rfl (zap hr.an) (by omega) rfl (zdt anC 2 (fun _ => rfl) n.gs an0 (show j < _ by omega) rfl)) (zed rfl (zcc (z := .agg #[.int .i64 0, .int .i64 0]) rfl rfl) ?_)
  intro b15
  refine zag 1 rfl (zbm (cs' := #[.int .i64 ((n.gs.getD j an0).a), .int .i64 ((n.gs.getD j an0).b)]) (i := 0) (off := 0) (us := [.int .i64 ((n.gs.getD j an0).a), .int .i64 ((n.gs.getD j an0).b)]) rfl rfl rfl rfl rfl rfl rfl (zaa rfl (zaa rfl zbe)) rfl rfl rfl ?_)
  refine ntQ (srQ (hvQ rfl (zar (cs := [.int .i64 n.ins, n.sv, n.av, n.ov]) rfl rfl rfl rfl rfl (zah 2 rfl 0 rfl)) ?_))
  refine zdu rfl (zam rfl rfl (fun w hm => zbb (firstAndG n w (hr.below hm.bel) hc))) (zag 1 rfl (hvQ rfl (vaQ rfl rfl rfl) (hvQ rfl (zfs rfl rfl rfl (by constructor <;> omega)) (hvQ rfl (vsQ rfl rfl rfl) (zbc 1 rfl (srQ (hvQ rfl (fdQ 0 rfl rfl rfl) (hvQ rfl (zan rfl rfl rfl (zai 0 rfl rfl)) (zag 1 rfl ?_)))))))))
  refine zdu rfl (zam rfl rfl (fun w hm => zbb (zer (zcq _ _ _ w)))) (zbz (fun h16 => ?_) (fun h16 => ?_))
  ·
   obtain ⟨h16a, h16b⟩ := (zcp _ _ _).1 h16
   refine zag 2 rfl (hvQ rfl (fdQ 1 rfl rfl rfl) (hvQ rfl (zan rfl rfl rfl (zai 0 rfl rfl)) (zag 1 rfl ?_)))
   refine zdu rfl (zam rfl rfl (fun w hm => zbb (zer (zcq _ _ _ w)))) (zbz (fun h17 => ?_) (fun h17 => ?_))
   ·
    obtain ⟨h17a, h17b⟩ := (zcp _ _ _).1 h17
    refine zbc 2 rfl (fsQ rfl (zdn (zav (hvQ rfl (vaQ rfl rfl rfl) (enQ 1 rfl ?_)))))
    exact zcm (j + 1) ⟨by omega, fun i hi => by by_cases e9 : i = j; (subst e9; unfold LtOk; omega); exact hqa i (by omega)⟩ (by omega) (saQ rfl) (slQ [1, 0] rfl)
   have h17a := zdy h17
   refine zbc 2 rfl (zaj rfl (zbn 1 rfl ?_))
   refine zak (zaf ?_)
   refine zfv ?_
   refine zaf (zad ?_)
   exact zbl rfl rfl (congrArg _ (zdr (fun hp => by first | (exact zfj hp.nc (by assumption); done) | (have h9 := hp.sq _ (zbd (d := sq0) (show k < n.ss.length by omega)); exact absurd h9 (by assumption); done) | (have h9 := zdx hp (i := q) (by omega); rw [← hnc] at h9; obtain ⟨h8, h7⟩ := h9; omega; done) | (have h9 := hp.an j (by omega); obtain ⟨⟨h8, h7⟩, h6, h5⟩ := h9; omega; done))).symm)
  have h16a := zdy h16
  refine zbc 8 rfl (zaj rfl (zac (reQ 1 rfl (?_))))
  refine ntQ ?_
  refine zak (zaf ?_)
  refine zfv ?_
  refine zaf (zad ?_)
  exact zbl rfl rfl (congrArg _ (zdr (fun hp => by first | (exact zfj hp.nc (by assumption); done) | (have h9 := hp.sq _ (zbd (d := sq0) (show k < n.ss.length by omega)); exact absurd h9 (by assumption); done) | (have h9 := zdx hp (i := q) (by omega); rw [← hnc] at h9; obtain ⟨h8, h7⟩ := h9; omega; done) | (have h9 := hp.an j (by omega); obtain ⟨⟨h8, h7⟩, h6, h5⟩ := h9; omega; done))).symm)
 refine ntQ (fcQ rfl ?_)
 refine zby (zes ?_)
 refine zat (zaw (zbn 1 rfl ?_))
 exact zak (zbl rfl rfl (congrArg _ (zft (nt_of hc (fun i hi => hqs i (by omega)) (fun i hi => hqr i (by omega)) (fun i hi => hqa i (by omega)))).symm))
theorem copySeqsS_ret (ss : List Sq) (v : Value) (w : World) (hv : RdsW w v 3 ss.length (ss.flatMap sqC)) (hx : ∀ s ∈ ss, RdsW w s.iv 1 s.xs.length (s.xs.map (Value.int .i64))) (hl : ss.length ≤ 20) (h4 : ∀ s ∈ ss, s.xs.length ≤ 4) :
   Calls Try.prog 137 #[v] w (Ret w (fun u_ p_ => ∃ zs : List Sq, p_ = [sqsE u_ zs] ∧ zs.map sqv = ss.map sqv)) := by
 refine zbq (N := 25) (args := [v]) Try.func137 rfl rfl (zbn 1 rfl (srQ ?_))
 refine zgt 143 3 ?_
 refine zck (l' := [rowE 143 3 (.slice none 0 0) (([] : List Sq).length) (([] : List Sq).flatMap sqC)]) rfl ?_
 refine zbc 1 rfl (zac (zac (reQ 1 rfl (hvQ rfl (lnQ rfl rfl rfl (zap hv)) (zbc 1 rfl (zbf ?_))))))
 refine zeo _ zfq ?_
 refine lkQ3 (α := Nat) (β := Value) (γ := List Sq) [0, 2, 6, 7] rfl (fun i u zs => [bigE (zs.map sqPart), rS9 143 3 u zs sqC]) (fun i u zs => [(3, u), (8, .int .i64 (i : Int))]) (fun i u zs => i ≤ ss.length ∧ zs.map sqv = (ss.take i).map sqv) (fun i u zs => ss.length - i) 0 _ [] ⟨by omega, by simp⟩ (saQ rfl) (pfQ rfl) ?_
 intro i u zs hi2
 obtain ⟨hi, hz⟩ := hi2
 have hzl : zs.length = i := by simpa [Nat.min_eq_left hi] using congrArg List.length hz
 refine srQ ?_
 refine zcb rfl rfl rfl rfl rfl rfl (fun h3 => ?_) (fun h3 => ?_)
 ·
  refine ntQ (tcQ rfl (zdb (sbQ (srQ (hvQ rfl (riQ 3 rfl rfl rfl rfl (zap hv)) ?_)))))
  refine hvQ rfl (zda (us := [.int .i64 ((ss.getD i sq0).kd), .int .i64 ((ss.getD i sq0).it), (ss.getD i sq0).iv]) rfl rfl rfl rfl (zap hv) (by omega) rfl (zdt sqC 3 (fun _ => rfl) ss sq0 (show i < _ by omega) rfl)) (zed rfl (zcc (z := .agg #[.int .i64 0, .int .i64 0, .slice none 0 0]) rfl rfl) ?_)
  intro b4
  refine zbm (cs' := #[.int .i64 ((ss.getD i sq0).kd), .int .i64 ((ss.getD i sq0).it), (ss.getD i sq0).iv]) (i := 0) (off := 0) (us := [.int .i64 ((ss.getD i sq0).kd), .int .i64 ((ss.getD i sq0).it), (ss.getD i sq0).iv]) rfl rfl rfl rfl rfl rfl rfl (zaa rfl (zaa rfl (zaa (hx _ (zbd (d := sq0) (show i < ss.length by omega))).one zbe))) rfl rfl rfl (ntQ ?_)
  have h44 := h4 _ (zbd (d := sq0) (show i < ss.length by omega))
  refine hc_draw rfl 10 [0, 1, 2, 3, 4, 5, 6, 7, 8, 9] (List.take 10 _) (List.drop 10 _) [[], [], [1], [], [3], [], [5], [6], [2, 4, 7], [7, 8]] [12, 13, 14, 15, 16, 17, 18, 19, 20, 21] (fun i_ vs_ v_ p_ => match i_ with | 0 => v_ = u ∧ p_ = [] | 1 => v_ = .pointer (some ⟨b4, 0 + 0, none⟩) ∧ p_ = [] | 2 => v_ = .int .i64 ((ss.getD i sq0).kd) ∧ p_ = [] | 3 => v_ = .pointer (some ⟨b4, 0 + 1, none⟩) ∧ p_ = [] | 4 => v_ = .int .i64 ((ss.getD i sq0).it) ∧ p_ = [] | 5 => v_ = .pointer (some ⟨b4, 0 + 2, none⟩) ∧ p_ = [] | 6 => v_ = (ss.getD i sq0).iv ∧ p_ = [] | 7 => (fun v' post => post = [rI9 3 v' ((ss.getD i sq0).xs)]) v_ p_ | 8 => v_ = .agg #[.int .i64 ((ss.getD i sq0).kd), .int .i64 ((ss.getD i sq0).it), (gV9 vs_ 2)] ∧ p_ = [] | 9 => IsRow 143 3 1 ([.int .i64 ((ss.getD i sq0).kd), .int .i64 ((ss.getD i sq0).it), (gV9 vs_ 0)]) v_ p_ | _ => True) (List.take_append_drop 10 _).symm (by kernel_rfl) (by kernel_rfl) rfl rfl ?_ ?_
  ·
   refine ⟨?_, ?_, ?_, ?_, ?_, ?_, ?_, ?_, ?_, ?_, trivial⟩
   ·
    intro vf pf hR
    exact ovQ rfl (zae [3] rfl) (zbi (zax rfl))
   ·
    intro vf pf hR
    exact ovQ rfl (zae [5] rfl) (zbi (fdQ 0 rfl rfl rfl))
   ·
    intro vf pf hR
    have e1 := hR 1 (by decide)
    exact olQ rfl (sk 13 (congrArg some e1.1) (zab _)) (zbi (zan rfl rfl rfl (zai 0 rfl rfl)))
   ·
    intro vf pf hR
    exact ovQ rfl (zae [5] rfl) (zbi (fdQ 1 rfl rfl rfl))
   ·
    intro vf pf hR
    have e3 := hR 3 (by decide)
    exact olQ rfl (sk 15 (congrArg some e3.1) (zab _)) (zbi (zan rfl rfl rfl (zai 0 rfl rfl)))
   ·
    intro vf pf hR
    exact ovQ rfl (zae [5] rfl) (zbi (fdQ 2 rfl rfl rfl))
   ·
    intro vf pf hR
    have e5 := hR 5 (by decide)
    exact olQ rfl (sk 17 (congrArg some e5.1) (zab _)) (zbi (zan rfl rfl rfl (zai 0 rfl rfl)))
   ·
    intro vf pf hR
    have e6 := hR 6 (by decide)
    exact olQ rfl (sk 18 (congrArg some e6.1) (zab _)) (zam rfl rfl (fun w hm => zgd ((ss.getD i sq0).xs) _ w ((zap (hx _ (zbd (d := sq0) (by omega)))) w hm) (by omega)))
   ·
    intro vf pf hR
    have e2 := hR 2 (by decide)
    have e4 := hR 4 (by decide)
    have e7 : (fun v' post => post = [rI9 3 v' ((ss.getD i sq0).xs)]) (vf 7) (pf 7) := hR 7 (by decide)
    obtain ⟨v5, vE7⟩ : ∃ x, vf 7 = x := ⟨_, rfl⟩
    obtain ⟨p6, pE7⟩ : ∃ x, pf 7 = x := ⟨_, rfl⟩
    have hR7 := e7
    rw [vE7, pE7] at hR7
    subst hR7
    refine Or.inl ⟨rfl, ?_⟩
    exact zbg (sk 14 (congrArg some e2.1) (sk 16 (congrArg some e4.1) (sk 19 (congrArg some vE7) (zab _)))) (by simp only [pE7, vE7, e2.2, e4.2, fS] <;> rfl) (zbo (zbi (zge (cs := #[.int .i64 ((ss.getD i sq0).kd), .int .i64 ((ss.getD i sq0).it), v5]) rfl rfl (fun w hm => built_seqH ((ss.getD i sq0).kd) ((ss.getD i sq0).it) v5 ((zao 0 rfl w hm).one)))) (fun _ _ h => ⟨h.1.trans (by show _ = (.agg #[.int .i64 ((ss.getD i sq0).kd), .int .i64 ((ss.getD i sq0).it), (vf 7)] : Value); first | (rw [vE7]; done) | (rw [vE7]; rfl)), h.2⟩))
   intro vf pf hR
   have e7 : (fun v' post => post = [rI9 3 v' ((ss.getD i sq0).xs)]) (vf 7) (pf 7) := hR 7 (by decide)
   obtain ⟨v5, vE7⟩ : ∃ x, vf 7 = x := ⟨_, rfl⟩
   obtain ⟨p6, pE7⟩ : ∃ x, pf 7 = x := ⟨_, rfl⟩
   have hR7 := e7
   rw [vE7, pE7] at hR7
   subst hR7
   have e8 : (vf 8) = .agg #[.int .i64 ((ss.getD i sq0).kd), .int .i64 ((ss.getD i sq0).it), (vf 7)] ∧ (pf 8) = [] := hR 8 (by decide)
   rw [vE7] at e8
   refine Or.inl ⟨rfl, ?_⟩
   exact zbg (sk 20 (congrArg some e8.1) (zab _)) (by simp only [pE7, vE7, e8.2, fS] <;> rfl) (zbo (zas (z := .agg #[.int .i64 0, .int .i64 0, .slice none 0 0]) (s := 3) (cs := [.int .i64 ((ss.getD i sq0).kd), .int .i64 ((ss.getD i sq0).it), v5]) rfl Try.underlying67 rfl (by decide) rfl (by kernel_rfl) rfl) (fun v_ p_ h => by show IsRow 143 3 1 ([.int .i64 ((ss.getD i sq0).kd), .int .i64 ((ss.getD i sq0).it), (vf 7)]) v_ p_; rw [vE7]; exact h))
  intro vf pf hR
  have e0 := hR 0 (by decide)
  have e7 : (fun v' post => post = [rI9 3 v' ((ss.getD i sq0).xs)]) (vf 7) (pf 7) := hR 7 (by decide)
  obtain ⟨v5, vE7⟩ : ∃ x, vf 7 = x := ⟨_, rfl⟩
  obtain ⟨p6, pE7⟩ : ∃ x, pf 7 = x := ⟨_, rfl⟩
  have hR7 := e7
  rw [vE7, pE7] at hR7
  subst hR7
  have e9 : IsRow 143 3 1 ([.int .i64 ((ss.getD i sq0).kd), .int .i64 ((ss.getD i sq0).it), (vf 7)]) (vf 9) (pf 9) := hR 9 (by decide)
  rw [vE7] at e9
  obtain ⟨g8, vE9, pE9⟩ := e9
  have q0 := hR 0 (by decide)
  have q1 := hR 1 (by decide)
  have q2 := hR 2 (by decide)
  have q3 := hR 3 (by decide)
  have q4 := hR 4 (by decide)
  have q5 := hR 5 (by decide)
  have q6 := hR 6 (by decide)
  have q8 := hR 8 (by decide)
  refine zcd (zbs [9, 8, 7, 6, 5, 3, 2, 0] _ (sk 12 (congrArg some e0.1) (sk 21 (congrArg some vE9) (zab _))) rfl) (by simp only [pE7, vE7, pE9, vE9, q0.2, q1.2, q2.2, q3.2, q4.2, q5.2, q6.2, q8.2, fS] <;> rfl) ?_
  simp only [List.drop_succ_cons, List.drop_zero]
  refine zcr (i := 0) rfl (fun ho9 => ?_)
  refine zdc (i := 4) (z := .agg #[.int .i64 0, .int .i64 0, .slice none 0 0]) (bytes := 40) rfl rfl rfl rfl Try.underlying67 (by kernel_rfl) rfl rfl rfl rfl (zao 1 rfl) (zaa rfl (zaa rfl (zaa ho9 zbe))) (by first | omega | (simp only [List.length_append, List.length_cons, List.length_nil]; omega)) (zco zs [(Sq.mk ((ss.getD i sq0).kd) ((ss.getD i sq0).it) v5 ((ss.getD i sq0).xs))]) (zei sqC zs (Sq.mk ((ss.getD i sq0).kd) ((ss.getD i sq0).it) v5 ((ss.getD i sq0).xs)) _ rfl) (fun _ => rfl) ?_
  intro v10
  refine enQ 1 rfl (zdn (zav (hvQ rfl (vaQ rfl rfl rfl) (enQ 1 rfl ?_))))
  refine zaz 5 [4, 2, 1, 0, 3] rfl rfl (by decide) ?_
  refine zcu [bigE ((zs ++ [(Sq.mk ((ss.getD i sq0).kd) ((ss.getD i sq0).it) v5 ((ss.getD i sq0).xs))]).map sqPart), rowE 143 3 (.slice (some ⟨g8, 0, none⟩) 1 1) 1 ([.int .i64 ((ss.getD i sq0).kd), .int .i64 ((ss.getD i sq0).it), v5]), boxE b4 #[.int .i64 ((ss.getD i sq0).kd), .int .i64 ((ss.getD i sq0).it), (ss.getD i sq0).iv] 143, rowE 143 3 v10 ((zs ++ [(Sq.mk ((ss.getD i sq0).kd) ((ss.getD i sq0).it) v5 ((ss.getD i sq0).xs))]).length) ((zs ++ [(Sq.mk ((ss.getD i sq0).kd) ((ss.getD i sq0).it) v5 ((ss.getD i sq0).xs))]).flatMap sqC)] (fun w hm => by rw [List.map_append]; exact conv_snocX w hm) ?_
  exact zdz (i + 1) v10 (zs ++ [(Sq.mk ((ss.getD i sq0).kd) ((ss.getD i sq0).it) v5 ((ss.getD i sq0).xs))]) ⟨by omega, by rw [List.map_append, hz, zen sq0 (show i < ss.length by omega), List.map_append]; rfl⟩ (by omega) (saQ rfl) (slQ [0, 2] rfl)
 refine ntQ (fcQ rfl ?_)
 refine zby (zes ?_)
 refine zat (zaw (zbn 2 rfl ?_))
 refine zak (zaz 2 [1, 0] rfl rfl (by decide) ?_)
 refine zcu [sqsE u zs] (zfp (ps := [bigE (zs.map sqPart), rS9 143 3 u zs sqC])) ?_
 exact zev (post := [sqsE u zs]) rfl rfl (.refl _) ⟨zs, rfl, by rw [hz, show i = ss.length by omega, List.take_length]⟩
theorem sqsX_one {w0 : World} {l : List HP} {i : Nat} {v : Value} {es : List Sq} (hi : l[i]? = some (sqsE v es)) (w : World) (hm : Mem w0 l w) : v.oneCell' = true := by
  obtain ⟨b1, -⟩ := hm.holds _ (zbr hi)
  exact (zbh (b1 _ (List.mem_cons_of_mem _ List.mem_cons_self)).2).one
section
variable {P : Program} {N : Nat} {w0 : World} {l l' : List HP} {env : List (Nat × Value)} {Q : Post} {ops : Array Oper} {rest : List Oper}
theorem zgn {i : Nat} {v : Value} {es : List Sq} (hi : l[i]? = some (sqsE v es)) (k : v.oneCell' = true → HL P N ops w0 l env rest Q) : HL P N ops w0 l env rest Q := hl_know (sqsX_one hi) k
end
theorem zee (n : Nt) (w : World) (hr : RdsNt w n) (hS : NtSm n) :
   Calls Try.prog 95 #[.agg #[.int .i64 n.ins, n.sv, n.av, n.ov]] w (Ret w (fun v_ p_ => ∃ n2 : Nt, v_ = n2.agg ∧ p_ = [sqsE n2.sv n2.ss, rS9 141 2 n2.av n2.gs anC, rI9 3 n2.ov n2.os] ∧ CopyOf n n2)) := by
 have qs1 := hS.s1
 have qa1 := hS.a1
 have qo1 := hS.o1
 have hcnt : n.cnt = 1 + n.ins + n.ss.length + n.gs.length := rfl
 have hfst : n.fst = 1 + n.ins + n.ss.length := rfl
 refine zbq (N := 16) (args := [.agg #[.int .i64 n.ins, n.sv, n.av, n.ov]]) Try.func95 rfl rfl (srQ ?_)
 refine zed rfl (zdh rfl rfl) ?_
 intro b1
 refine zed rfl (zcc (z := .agg #[.int .i64 0, .slice none 0 0, .slice none 0 0, .slice none 0 0]) rfl rfl) ?_
 intro b2
 refine ntQ (zac ?_)
 refine zdq (l := [eB9 b2, nB9 b1 n]) rfl 12 [0, 1, 2, 3, 4, 5, 6, 7, 8, 9, 10, 11] (List.take 12 _) (List.drop 12 _) [[], [0], [], [2], [3], [], [], [6], [5, 7], [], [9], [10]] [some 3, some 4, some 5, some 6, some 7, some 8, some 9, some 10, some 11, some 12, some 13, some 14] (fun i_ vs_ v_ p_ => match i_ with | 0 => v_ = .pointer (some ⟨b1, 0 + 0, none⟩) ∧ p_ = [] | 1 => v_ = .int .i64 n.ins ∧ p_ = [] | 2 => v_ = .pointer (some ⟨b1, 0 + 1, none⟩) ∧ p_ = [] | 3 => v_ = n.sv ∧ p_ = [] | 4 => (fun u_ p_ => ∃ zs : List Sq, p_ = [sqsE u_ zs] ∧ zs.map sqv = n.ss.map sqv) v_ p_ | 5 => IsRow 141 2 0 ([]) v_ p_ | 6 => v_ = .pointer (some ⟨b1, 0 + 2, none⟩) ∧ p_ = [] | 7 => v_ = n.av ∧ p_ = [] | 8 => (∃ pm_, p_ = [pm_] ∧ (fun u_ p_ => p_ = rS9 141 2 u_ n.gs anC) v_ pm_) | 9 => v_ = .pointer (some ⟨b1, 0 + 3, none⟩) ∧ p_ = [] | 10 => v_ = n.ov ∧ p_ = [] | 11 => (fun v' post => post = [rI9 3 v' (n.os)]) v_ p_ | _ => True) [[], [0], [], [2], [3], [], [], [6], [7], [], [9], [10]] [none, none, none, none, none, none, none, none, some 5, none, none, none] [] [0, 1, 2, 3, 4, 6, 7, 8, 9, 10, 11] 14 (List.take_append_drop 12 _).symm (by kernel_rfl) (by kernel_rfl) (by kernel_rfl) rfl rfl ?_ ?_
 ·
  refine ⟨?_, ?_, ?_, ?_, ?_, ?_, ?_, ?_, ?_, ?_, ?_, ?_, trivial⟩
  ·
   intro vf pf hmu hR
   refine zce [] [] rfl (zay (zae [1] rfl) ?_)
   exact zbi (fdQ 0 rfl rfl rfl)
  ·
   intro vf pf hmu hR
   have e0 := hR 0 (by decide)
   refine zce [0] [0] rfl (zaq (sk 3 (congrArg some e0.1) (zab _)) (List.sublist_append_right _ _) ?_)
   exact zbi (zan rfl rfl rfl (zai 1 rfl rfl))
  ·
   intro vf pf hmu hR
   refine zce [] [] rfl (zay (zae [1] rfl) ?_)
   exact zbi (fdQ 1 rfl rfl rfl)
  ·
   intro vf pf hmu hR
   have e2 := hR 2 (by decide)
   refine zce [2] [2] rfl (zaq (sk 5 (congrArg some e2.1) (zab _)) (List.sublist_append_right _ _) ?_)
   exact zbi (zan rfl rfl rfl (zai 1 rfl rfl))
  ·
   intro vf pf hmu hR
   have e3 := hR 3 (by decide)
   refine zce [3] [3] rfl (zaq (sk 6 (congrArg some e3.1) (zab _)) (List.sublist_append_right _ _) ?_)
   exact zam rfl rfl (fun w hm => copySeqsS_ret n.ss _ w (hr.sq.below hm.bel) (fun s hs => (hr.xs s hs).below hm.bel) hS.s1 hS.x4)
  ·
   intro vf pf hmu hR
   refine zce [] [] rfl (zaq (zab _) (List.sublist_append_right _ _) ?_)
   exact zds (s := 2) rfl Try.underlying68 rfl
  ·
   intro vf pf hmu hR
   refine zce [] [] rfl (zay (zae [1] rfl) ?_)
   exact zbi (fdQ 2 rfl rfl rfl)
  ·
   intro vf pf hmu hR
   have e6 := hR 6 (by decide)
   refine zce [6] [6] rfl (zaq (sk 9 (congrArg some e6.1) (zab _)) (List.sublist_append_right _ _) ?_)
   exact zbi (zan rfl rfl rfl (zai 1 rfl rfl))
  ·
   intro vf pf hmu hR
   have e5 : IsRow 141 2 0 ([]) (vf 5) (pf 5) := hR 5 (by decide)
   obtain ⟨g6, vE5, pE5⟩ := e5
   have e7 := hR 7 (by decide)
   refine Or.inl ⟨rfl, ?_⟩
   show RunM _ _ _ (pf 5) (([7] : List Nat).flatMap pf ++ _) (envOf3 _ vf [5, 7] ++ _) _ _
   rw [pE5]; rw [vE5]
   exact zbx (sk 8 (congrArg some vE5) (sk 10 (congrArg some e7.1) (zab _))) (by simp only [e7.2, fS] <;> rfl) (rm_append (d := 0) (z := .agg #[.int .i64 0, .int .i64 0]) (bytes := 16) (n' := n.gs.length) (xs' := (n.gs.flatMap anC)) rfl Try.underlying68 rfl rfl rfl rfl (zap hr.an) (flat_onesH anC n.gs (fun r u hu => by simp [anC] at hu; first | (subst hu; rfl) | (rcases hu with rfl | rfl <;> rfl) | (rcases hu with rfl | rfl | rfl <;> rfl) | (rcases hu with rfl | rfl | rfl | rfl <;> rfl))) (by first | omega | (simp only [List.length_take, List.length_drop]; omega)) (Nat.zero_add _) (List.nil_append _))
  ·
   intro vf pf hmu hR
   refine zce [] [] rfl (zay (zae [1] rfl) ?_)
   exact zbi (fdQ 3 rfl rfl rfl)
  ·
   intro vf pf hmu hR
   have e9 := hR 9 (by decide)
   refine zce [9] [9] rfl (zaq (sk 12 (congrArg some e9.1) (zab _)) (List.sublist_append_right _ _) ?_)
   exact zbi (zan rfl rfl rfl (zai 1 rfl rfl))
  intro vf pf hmu hR
  have e10 := hR 10 (by decide)
  refine zce [10] [10] rfl (zaq (sk 13 (congrArg some e10.1) (zab _)) (List.sublist_append_right _ _) ?_)
  exact zam rfl rfl (fun w hm => zgd n.os _ w ((zap hr.ou) w hm) (by omega))
 intro vf pf hmu hR
 have e1 := hR 1 (by decide)
 have e4 : (fun u_ p_ => ∃ zs : List Sq, p_ = [sqsE u_ zs] ∧ zs.map sqv = n.ss.map sqv) (vf 4) (pf 4) := hR 4 (by decide)
 obtain ⟨v3, vE4⟩ : ∃ x, vf 4 = x := ⟨_, rfl⟩
 obtain ⟨p4, pE4⟩ : ∃ x, pf 4 = x := ⟨_, rfl⟩
 have hR5 := e4
 rw [vE4, pE4] at hR5
 obtain ⟨zhR5, rfl, chR5⟩ := hR5
 have e5 : IsRow 141 2 0 ([]) (vf 5) (pf 5) := hR 5 (by decide)
 obtain ⟨g6, vE5, pE5⟩ := e5
 have e8 : (∃ pm_, (pf 8) = [pm_] ∧ (fun u_ p_ => p_ = rS9 141 2 u_ n.gs anC) (vf 8) pm_) := hR 8 (by decide)
 obtain ⟨p8, pE8, hR9⟩ := e8
 obtain ⟨v7, vE8⟩ : ∃ x, vf 8 = x := ⟨_, rfl⟩
 rw [vE8] at hR9
 subst hR9
 have e11 : (fun v' post => post = [rI9 3 v' (n.os)]) (vf 11) (pf 11) := hR 11 (by decide)
 obtain ⟨v10, vE11⟩ : ∃ x, vf 11 = x := ⟨_, rfl⟩
 obtain ⟨p11, pE11⟩ : ∃ x, pf 11 = x := ⟨_, rfl⟩
 have hR12 := e11
 rw [vE11, pE11] at hR12
 subst hR12
 have q0 := hR 0 (by decide)
 have q1 := hR 1 (by decide)
 have q2 := hR 2 (by decide)
 have q3 := hR 3 (by decide)
 have q6 := hR 6 (by decide)
 have q7 := hR 7 (by decide)
 have q9 := hR 9 (by decide)
 have q10 := hR 10 (by decide)
 refine zcd (zbs [2, 1, 0] _ (sk 4 (congrArg some e1.1) (sk 7 (congrArg some vE4) (sk 11 (congrArg some vE8) (sk 14 (congrArg some vE11) (zab _))))) rfl) (by simp only [pE4, vE4, pE8, vE8, pE11, vE11, q0.2, q1.2, q2.2, q3.2, q6.2, q7.2, q9.2, q10.2, fS] <;> rfl) ?_
 simp only [List.drop_succ_cons, List.drop_zero]
 refine hvQ rfl (zge (cs := #[.int .i64 n.ins, v3, v7, v10]) rfl rfl (fun w hm => built_netH n.ins v3 v7 v10 (sqsX_one (i := 0) rfl w hm) ((zao 1 rfl w hm).one) ((zao 2 rfl w hm).one))) (zcr (i := 2) rfl (fun ho13 => ?_))
 refine zcr (i := 1) rfl (fun ho14 => ?_)
 refine zgn (i := 0) rfl (fun ho15 => ?_)
 refine zbm (cs' := #[.int .i64 n.ins, v3, v7, v10]) (i := 3) (off := 0) (us := [.int .i64 n.ins, v3, v7, v10]) rfl rfl rfl rfl rfl rfl rfl (zaa rfl (zaa ho15 (zaa ho14 (zaa ho13 zbe)))) rfl rfl rfl (ntQ ?_)
 exact zak (zca (rs := [.cell 2 70]) (vs := [.agg #[.int .i64 n.ins, v3, v7, v10]]) (post := [sqsE v3 zhR5, rS9 141 2 v7 n.gs anC, rI9 3 v10 n.os]) rfl ⟨⟨b2, 0, [.int .i64 n.ins, v3, v7, v10], rfl, rfl, by kernel_rfl, by kernel_rfl, zah 3 rfl 0 rfl⟩, trivial⟩ rfl (slQ [0, 0, 0] rfl) ⟨Nt.mk n.ins v3 v7 v10 zhR5 n.gs n.os, rfl, rfl, ⟨rfl, by simp, rfl, chR5⟩⟩)
theorem hasParam_ans (os : List Oq) (v : Value) (w : World) (hv : RdsW w v 3 os.length (os.flatMap oqC)) :
   Calls Try.prog 73 #[v] w (Ans w (.bool (pB (HpP os)))) := by
 have hv9 := sml hv
 refine zbq (N := 15) (args := [v]) Try.func73 rfl rfl (zbn 1 rfl (zac (zac (reQ 1 rfl (hvQ rfl (lnQ rfl rfl rfl (zap hv)) (zag 1 rfl (?_)))))))
 refine ntQ (zbf ?_)
 refine lkQ1 (α := Nat) [0, 2, 5, 6] rfl (fun i => []) (fun i => [(7, .int .i64 (i : Int))]) (fun i => i ≤ os.length ∧ ∀ q, q < i → (os.getD q oq0).k ≠ 1) (fun i => os.length - i) 0 ⟨Nat.zero_le _, fun q hq => absurd hq (by omega)⟩ (saQ rfl) (.slnil) ?_
 intro i hi1
 obtain ⟨hi, hall⟩ := hi1
 refine srQ ?_
 refine zcb rfl rfl rfl rfl rfl rfl (fun h2 => ?_) (fun h2 => ?_)
 ·
  refine ntQ (tcQ rfl (zdb (sbQ (srQ (hvQ rfl (riQ 3 rfl rfl rfl rfl (zap hv)) ?_)))))
  refine hvQ rfl (zda (us := [.int .i64 ((os.getD i oq0).k), .int .i64 ((os.getD i oq0).a), .int .i64 ((os.getD i oq0).b)]) rfl rfl rfl rfl (zap hv) (by omega) rfl (zdt oqC 3 (fun _ => rfl) os oq0 (show i < _ by omega) rfl)) (zed rfl (zcc (z := .agg #[.int .i64 0, .int .i64 0, .int .i64 0]) rfl rfl) ?_)
  intro b3
  refine zbm (cs' := #[.int .i64 ((os.getD i oq0).k), .int .i64 ((os.getD i oq0).a), .int .i64 ((os.getD i oq0).b)]) (i := 0) (off := 0) (us := [.int .i64 ((os.getD i oq0).k), .int .i64 ((os.getD i oq0).a), .int .i64 ((os.getD i oq0).b)]) rfl rfl rfl rfl rfl rfl rfl (zaa rfl (zaa rfl (zaa rfl zbe))) rfl rfl rfl (ntQ (srQ (hvQ rfl (fdQ 0 rfl rfl rfl) (hvQ rfl (zan rfl rfl rfl (zai 0 rfl rfl)) ?_))))
  refine zbj rfl rfl rfl rfl rfl rfl (fun h4 => ?_) (fun h4 => ?_)
  ·
   refine ntQ (zaj rfl (zbn 1 rfl ?_))
   refine zak (zaf ?_)
   refine zfv ?_
   refine zaf (zad ?_)
   exact zbl rfl rfl (congrArg _ (zft ⟨i, by omega, by omega⟩).symm)
  refine ntQ (fsQ rfl (zdn (zav (hvQ rfl (vaQ rfl rfl rfl) (enQ 1 rfl ?_)))))
  exact zcm (i + 1) ⟨by omega, fun q hq => by by_cases e : q = i; (subst e; omega); exact hall q (by omega)⟩ (by omega) (saQ rfl) (slQ [] rfl)
 refine ntQ (fcQ rfl ?_)
 refine zby (zes ?_)
 refine zat (zaw (zbn 1 rfl ?_))
 exact zak (zbl rfl rfl (congrArg _ (zdr (fun hp => by first | (obtain ⟨q, h1, h2⟩ := hp; exact hall q (by omega) h2))).symm))
theorem addExpr_all (b c : Nat) (n : Nt) (sv : Value) (W : Nat) (rs : List CRow) (os : List Oq) (vO : Value) (w0 : World) (hone : n.sv.oneCell' = true ∧ n.ov.oneCell' = true) (hsv : sv.oneCell' = true) (hW : 1 ≤ W ∧ W ≤ 4) (hok : OpsP (rs.map CRow.xs).length os) (h1k : ∀ i, i < os.length → (os.getD i oq0).k ≠ 1) :
    ∀ (f p : Nat) (v : Value) (g : List An) (bad : Bool) (l : List HP) (w : World), os.length - p ≤ f → p < os.length → NtOk (withG n g) → SgOk n g (rs.map CRow.xs) → (∀ w, Mem w0 l w → ExM w n sv rs vO os) → Mem w0 (adP b n c sv W v g bad :: l) w →
    Calls Try.prog 97 #[.pointer (some ⟨c, 0, none⟩), vO, .int .i64 (p : Int)] w (fun e_ w_ => ∃ v' p_', e_ = .returned v' ∧ (fun u_ p_ => EX9 b n c sv W rs os g bad p f u_ p_) v' p_' ∧ Mem w0 (p_' :: l) w_)
  | 0, p, v, g, bad, l, w, hf, hp, hn, hS, hq, hm => by omega
  | f + 1, p, v, g, bad, l, w, hf, hp, hn, hS, hq, hm => addExpr_step b c n sv W v g bad rs os vO f p w0 l w hm hn hS hq hone hsv hW hok hp hf h1k (fun q v2 g2 bad2 l2 w2 h1 h2 hn2 hS2 hq2 hm2 => addExpr_all b c n sv W rs os vO w0 hone hsv hW hok h1k f q v2 g2 bad2 l2 w2 (by omega) h2 hn2 hS2 hq2 hm2)
theorem addExpr_I (b c : Nat) (n : Nt) (sv : Value) (W : Int) (rs : List CRow) (os : List Oq) (vO : Value) (w0 : World) (hone : n.sv.oneCell' = true ∧ n.ov.oneCell' = true) (hsv : sv.oneCell' = true) (hW : 1 ≤ W ∧ W ≤ 4) (hok : OpsP (rs.map CRow.xs).length os) (h1k : ∀ i, i < os.length → (os.getD i oq0).k ≠ 1) (v : Value) (g : List An) (bad : Bool) (l : List HP) (w : World) (hn : NtOk (withG n g)) (hS : SgOk n g (rs.map CRow.xs)) (hq : ∀ w, Mem w0 l w → ExM w n sv rs vO os) (hm : Mem w0 (adP b n c sv W v g bad :: l) w) :
    Calls Try.prog 97 #[.pointer (some ⟨c, 0, none⟩), vO, .int .i64 0] w (fun e_ w_ => ∃ v' p_', e_ = .returned v' ∧ (fun u_ p_ => ∃ (v_ : Value) (g_ : List An) (bd_ : Bool) (zs : List Int) (zv : Value), u_ = .tuple #[zv, .int .i64 (enX os os.length 0 : Int)] ∧ p_ = bigE [adP b n c sv W v_ g_ bd_, rI9 3 zv zs] ∧ Ext n g g_ ∧ LsOk n g_ zs ∧ zs.length = W.toNat ∧ AdR (bad = true) (bd_ = true) (exX n.fst W.toNat (rs.map CRow.xs) os os.length 0 g) (g_, zs)) v' p_' ∧ Mem w0 (p_' :: l) w_) := by
  obtain ⟨k, rfl⟩ : ∃ k : Nat, W = (k : Int) := ⟨W.toNat, by omega⟩
  exact addExpr_all b c n sv k rs os vO w0 hone hsv ⟨by omega, by omega⟩ hok h1k os.length 0 v g bad l w (by omega) hok.pos hn hS hq hm
structure AxP (n : Nt) (sg : List (List Int)) (os : List Oq) (W : Int) : Prop where
  nt : NtOk n
  ln : sg.length ≤ 30
  op : OpsP sg.length os
  w : 1 ≤ W ∧ W ≤ 4
  sg : SgOk n n.gs sg
  nk : ∀ i, i < os.length → (os.getD i oq0).k ≠ 1
theorem zfr {n : Nt} {rs : List CRow} (h : SgOk n n.gs (rs.map CRow.xs)) {i : Nat} (hi : i < rs.length) : (rs.getD i crow0).xs.length ≤ 4 ∧ ∀ k, k < (rs.getD i crow0).xs.length → LtOk ((rs.getD i crow0).xs.getD k 0) n.cnt := by
  have h1 := sg_at h (i := i) (by rw [List.length_map]; exact hi)
  rw [xs_at] at h1
  exact ⟨h1.2, fun k hk => h1.1.at hk⟩
theorem sg_ofX {n : Nt} {rs : List CRow} (h : ∀ i, i < rs.length → (rs.getD i crow0).xs.length ≤ 4 ∧ ∀ k, k < (rs.getD i crow0).xs.length → LtOk ((rs.getD i crow0).xs.getD k 0) n.cnt) : SgOk n n.gs (rs.map CRow.xs) := ⟨fun s hs => by
  obtain ⟨r, hr, rfl⟩ := List.mem_map.1 hs
  obtain ⟨i, hi, rfl⟩ := List.mem_iff_getElem.1 hr
  have h1 := h i hi
  rw [show rs.getD i crow0 = rs[i] by rw [List.getD_eq_getElem?_getD, List.getElem?_eq_getElem hi]; rfl] at h1
  refine ⟨fun x hx => ?_, h1.1⟩
  obtain ⟨k, hk, rfl⟩ := List.mem_iff_getElem.1 hx
  have h2 := h1.2 k hk
  rw [List.getD_eq_getElem?_getD, List.getElem?_eq_getElem hk] at h2
  exact h2⟩
theorem SgOk.copy {n m : Nt} {sg : List (List Int)} (h : SgOk n n.gs sg) (c : CopyOf n m) : SgOk m m.gs sg := ⟨fun s hs => ⟨fun x hx => by have := (h.lt s hs).1 x hx; rw [c.gs, c.sk.fst]; exact this, (h.lt s hs).2⟩⟩
theorem zcw {w : World} {v : Value} {ss : List Sq} (h : (sqsE v ss).holds w) : RdsW w v 3 ss.length (ss.flatMap sqC) ∧ ∀ s ∈ ss, RdsW w s.iv 1 s.xs.length (s.xs.map (Value.int .i64)) := ⟨zbh (zau h (List.mem_cons_of_mem _ List.mem_cons_self)), fun s hs => zbh (zau (zau h List.mem_cons_self) (List.mem_map.2 ⟨s, hs, rfl⟩))⟩
theorem built_adder (x0 x1 : Value) (x2 : Int) (h0 : x0.oneCell' = true) (h1 : x1.oneCell' = true) : Try.prog.built 137 [(0, x0), (1, x1), (2, .int .i64 x2)] = some #[x0, x1, .int .i64 x2, .bool false] := by
  cases x0 <;> first | (exact absurd h0 Bool.false_ne_true) | (cases x1 <;> first | (exact absurd h1 Bool.false_ne_true) | kernel_rfl)
theorem implAddExpr_ret (n : Nt) (rs : List CRow) (os : List Oq) (sv vO : Value) (W : Int) (w : World) (hr : RdsNt w n) (hS : NtSm n) (hsv : RdsW w sv 1 rs.length (rs.flatMap crowC)) (hra : RdsAll w rs) (hv : RdsW w vO 3 os.length (os.flatMap oqC)) :
   Calls Try.prog 36 #[.agg #[.int .i64 n.ins, n.sv, n.av, n.ov], sv, vO, .int .i64 W] w (Ret w (fun u_ p_ => ∃ (ps : List HP) (m : Nt) (zv : Value) (zs : List Int), u_ = .tuple #[m.agg, zv] ∧ p_ = [bigE ps] ∧ (∀ w, (bigE ps).holds w → RdsNt w m ∧ RdsW w zv 1 zs.length (zs.map (Value.int .i64))) ∧ (m.sv.oneCell' = true ∧ m.av.oneCell' = true ∧ m.ov.oneCell' = true) ∧ ((AxP n (rs.map CRow.xs) os W ∧ exX n.fst W.toNat (rs.map CRow.xs) os os.length 0 n.gs = some (m.gs, zs) ∧ CpS n m ∧ zs.length = W.toNat) ∨ (¬ (AxP n (rs.map CRow.xs) os W ∧ ∃ r, exX n.fst W.toNat (rs.map CRow.xs) os os.length 0 n.gs = some r) ∧ zs = [] ∧ m.gs = n.gs)))) := by
 have qs1 := hS.s1
 have qa1 := hS.a1
 have qo1 := hS.o1
 have hcnt : n.cnt = 1 + n.ins + n.ss.length + n.gs.length := rfl
 have hfst : n.fst = 1 + n.ins + n.ss.length := rfl
 have hv9 := sml hv
 have hs9 := sml hsv
 refine zbq (N := 92) (args := [.agg #[.int .i64 n.ins, n.sv, n.av, n.ov], sv, vO, .int .i64 W]) Try.func36 rfl rfl (srQ ?_)
 refine zed rfl (zdh rfl rfl) ?_
 intro b1
 refine zed rfl (zcc (z := .agg #[.int .i64 0, .slice none 0 0, .slice none 0 0, .slice none 0 0]) rfl rfl) ?_
 intro b2
 refine zbc 1 rfl (zgk (hvQ rfl (zar (cs := [.int .i64 n.ins, n.sv, n.av, n.ov]) rfl rfl rfl rfl rfl (zah 1 rfl 0 rfl)) ?_))
 refine zdu rfl (zam rfl rfl (fun w hm => zbb (implNetOk_any n w (hr.below hm.bel) hS))) (zbz (fun h3 => ?_) (fun h3 => ?_))
 ·
  have h3p := of_pB h3
  refine zag 3 rfl (hvQ rfl (lnQ rfl rfl rfl (zap hsv)) ?_)
  refine zeq rfl rfl rfl rfl rfl rfl (fun h4 => ?_) (fun h4 => ?_)
  ·
   refine zbc 17 rfl (zaj rfl (srQ ?_))
   refine hvQ rfl (zar (cs := [.int .i64 n.ins, n.sv, n.av, n.ov]) rfl rfl rfl rfl rfl (zah 1 rfl 0 rfl)) (zfg rfl rfl rfl (zam rfl rfl (fun w hm => zee n w (hr.below hm.bel) hS)) ?_)
   intro v5 p6 hR7
   obtain ⟨mhR7, rfl, rfl, cphR7⟩ := hR7
   refine zcr (i := 2) rfl (fun ho8 => ?_)
   refine zcr (i := 1) rfl (fun ho9 => ?_)
   refine zgn (i := 0) rfl (fun ho10 => ?_)
   refine zbm (cs' := #[.int .i64 mhR7.ins, mhR7.sv, mhR7.av, mhR7.ov]) (i := 3) (off := 0) (us := [.int .i64 mhR7.ins, mhR7.sv, mhR7.av, mhR7.ov]) rfl rfl rfl rfl rfl rfl rfl (zaa rfl (zaa ho10 (zaa ho9 (zaa ho8 zbe)))) rfl rfl rfl (zbc 1 rfl ?_)
   refine zak (zad ?_)
   refine zcu [rowE 3 1 (.slice none 0 0) (([] : List Int).length) (([] : List Int).map (Value.int .i64)), sqsE mhR7.sv mhR7.ss, rS9 141 2 mhR7.av mhR7.gs anC, rI9 3 mhR7.ov mhR7.os, nB9 b2 mhR7, nB9 b1 n] (fun w hm => hm.nilRow 3 1) ?_
   refine zbw (fun w hm => (zcw (hm.holds _ (zbr (i := 1) rfl))).1.one) (fun ho1 => ?_)
   refine zbw (fun w hm => (zao 2 rfl w hm).one) (fun ho3 => ?_)
   refine zbw (fun w hm => (zao 3 rfl w hm).one) (fun ho2 => ?_)
   refine zaz 6 [4, 0, 3, 2, 1] rfl rfl (by decide) ?_
   refine zbk 4 rfl ?_
   exact zca (rs := [.cell 8 70, .tmp 9]) (vs := [.agg #[.int .i64 mhR7.ins, mhR7.sv, mhR7.av, mhR7.ov], .slice none 0 0]) (post := [bigE [sqsE mhR7.sv mhR7.ss, rS9 141 2 mhR7.av mhR7.gs anC, rI9 3 mhR7.ov mhR7.os, rowE 3 1 (.slice none 0 0) (([] : List Int).length) (([] : List Int).map (Value.int .i64))]]) rfl ⟨⟨b2, 0, [.int .i64 mhR7.ins, mhR7.sv, mhR7.av, mhR7.ov], rfl, rfl, by kernel_rfl, by kernel_rfl, zah 1 rfl 0 rfl⟩, rfl, trivial⟩ rfl (slQ [0] rfl) ⟨_, mhR7, _, [], rfl, rfl, fun w hw => ⟨⟨(zcw (zau hw List.mem_cons_self)).1, (zcw (zau hw List.mem_cons_self)).2, zbh (zau hw (List.mem_cons_of_mem _ List.mem_cons_self)), zbh (zau hw (List.mem_cons_of_mem _ (List.mem_cons_of_mem _ List.mem_cons_self)))⟩, zbh (zau hw (List.mem_cons_of_mem _ (List.mem_cons_of_mem _ (List.mem_cons_of_mem _ List.mem_cons_self))))⟩, ⟨ho1, ho3, ho2⟩, .inr ⟨(fun h9 => by obtain ⟨⟨nt, ln, op, hw, sg, nk⟩, r9, e9⟩ := h9; rw [List.length_map] at ln op; first | exact absurd nt (by assumption) | (exfalso; omega) | exact absurd op (by assumption) | exact absurd (show HpP os by assumption) (fun ⟨i, hi, hk⟩ => nk i hi hk) | (have h8 := zfr sg (i := i) (by omega); obtain ⟨h8a, h8b⟩ := id h8; first | omega | (have h7 := h8.2 j (by omega); unfold LtOk at h7; omega)) | skip), rfl, cphR7.gs⟩⟩
  refine zag 4 rfl (hvQ rfl (lnQ rfl rfl rfl (zap hsv)) ?_)
  refine zdu rfl (zam rfl rfl (fun w hm => zbb (implOpsOk_ans os (rs.length : Int) _ w (hv.below hm.bel)))) (zbz (fun h11 => ?_) (fun h11 => ?_))
  ·
   have h11p := of_pB h11
   refine zag 4 rfl (zdu rfl (zam rfl rfl (fun w hm => zbb (hasParam_ans os _ w (hv.below hm.bel)))) ?_)
   refine zbz (fun h12 => ?_) (fun h12 => ?_)
   ·
    have h12p := of_pB h12
    refine zbc 6 rfl (zaj rfl (srQ (hvQ rfl (zar (cs := [.int .i64 n.ins, n.sv, n.av, n.ov]) rfl rfl rfl rfl rfl (zah 1 rfl 0 rfl)) ?_)))
    refine zfg rfl rfl rfl (zam rfl rfl (fun w hm => zee n w (hr.below hm.bel) hS)) ?_
    intro v13 p14 hR15
    obtain ⟨mhR15, rfl, rfl, cphR15⟩ := hR15
    refine zcr (i := 2) rfl (fun ho16 => ?_)
    refine zcr (i := 1) rfl (fun ho17 => ?_)
    refine zgn (i := 0) rfl (fun ho18 => ?_)
    refine zbm (cs' := #[.int .i64 mhR15.ins, mhR15.sv, mhR15.av, mhR15.ov]) (i := 3) (off := 0) (us := [.int .i64 mhR15.ins, mhR15.sv, mhR15.av, mhR15.ov]) rfl rfl rfl rfl rfl rfl rfl (zaa rfl (zaa ho18 (zaa ho17 (zaa ho16 zbe)))) rfl rfl rfl (zbc 1 rfl ?_)
    refine zak (zad ?_)
    refine zcu [rowE 3 1 (.slice none 0 0) (([] : List Int).length) (([] : List Int).map (Value.int .i64)), sqsE mhR15.sv mhR15.ss, rS9 141 2 mhR15.av mhR15.gs anC, rI9 3 mhR15.ov mhR15.os, nB9 b2 mhR15, nB9 b1 n] (fun w hm => hm.nilRow 3 1) ?_
    refine zbw (fun w hm => (zcw (hm.holds _ (zbr (i := 1) rfl))).1.one) (fun ho1 => ?_)
    refine zbw (fun w hm => (zao 2 rfl w hm).one) (fun ho3 => ?_)
    refine zbw (fun w hm => (zao 3 rfl w hm).one) (fun ho2 => ?_)
    refine zaz 6 [4, 0, 3, 2, 1] rfl rfl (by decide) ?_
    refine zbk 4 rfl ?_
    exact zca (rs := [.cell 8 70, .tmp 9]) (vs := [.agg #[.int .i64 mhR15.ins, mhR15.sv, mhR15.av, mhR15.ov], .slice none 0 0]) (post := [bigE [sqsE mhR15.sv mhR15.ss, rS9 141 2 mhR15.av mhR15.gs anC, rI9 3 mhR15.ov mhR15.os, rowE 3 1 (.slice none 0 0) (([] : List Int).length) (([] : List Int).map (Value.int .i64))]]) rfl ⟨⟨b2, 0, [.int .i64 mhR15.ins, mhR15.sv, mhR15.av, mhR15.ov], rfl, rfl, by kernel_rfl, by kernel_rfl, zah 1 rfl 0 rfl⟩, rfl, trivial⟩ rfl (slQ [0] rfl) ⟨_, mhR15, _, [], rfl, rfl, fun w hw => ⟨⟨(zcw (zau hw List.mem_cons_self)).1, (zcw (zau hw List.mem_cons_self)).2, zbh (zau hw (List.mem_cons_of_mem _ List.mem_cons_self)), zbh (zau hw (List.mem_cons_of_mem _ (List.mem_cons_of_mem _ List.mem_cons_self)))⟩, zbh (zau hw (List.mem_cons_of_mem _ (List.mem_cons_of_mem _ (List.mem_cons_of_mem _ List.mem_cons_self))))⟩, ⟨ho1, ho3, ho2⟩, .inr ⟨(fun h9 => by obtain ⟨⟨nt, ln, op, hw, sg, nk⟩, r9, e9⟩ := h9; rw [List.length_map] at ln op; first | exact absurd nt (by assumption) | (exfalso; omega) | exact absurd op (by assumption) | exact absurd (show HpP os by assumption) (fun ⟨i, hi, hk⟩ => nk i hi hk) | (have h8 := zfr sg (i := i) (by omega); obtain ⟨h8a, h8b⟩ := id h8; first | omega | (have h7 := h8.2 j (by omega); unfold LtOk at h7; omega)) | skip), rfl, cphR15.gs⟩⟩
   have h12p := of_pBn h12
   refine zag 3 rfl (zdu rfl (zam rfl rfl (fun w hm => zbb (zer (zcq _ _ _ w)))) ?_)
   refine zbz (fun h19 => ?_) (fun h19 => ?_)
   ·
    obtain ⟨h19a, h19b⟩ := (zcp _ _ _).1 h19
    refine zbc 2 rfl (zal rfl (zdb (zgk ?_)))
    have hnt : NtOk n := by assumption
    obtain ⟨hi0, hi1, hs1, ha1, ho1⟩ := hnt.nc
    refine zag 1 rfl (hvQ rfl (lnQ rfl rfl rfl (zap hsv)) (zbc 1 rfl (zbf ?_)))
    refine lkQ1 (α := Nat) [0, 1, 2, 3, 4, 8, 9, 41, 44, 45] rfl (fun i => [eB9 b2, nB9 b1 n]) (fun i => [(46, .int .i64 (i : Int))]) (fun i => i ≤ rs.length ∧ ∀ r, r < i → (rs.getD r crow0).xs.length ≤ 4 ∧ ∀ k, k < (rs.getD r crow0).xs.length → LtOk ((rs.getD r crow0).xs.getD k 0) n.cnt) (fun i => rs.length - i) 0 ⟨Nat.zero_le _, fun r hr => absurd hr (Nat.not_lt_zero _)⟩ (saQ rfl) (pfQ rfl) ?_
    intro i hi20
    obtain ⟨hi, hq⟩ := hi20
    refine srQ ?_
    refine zcb rfl rfl rfl rfl rfl rfl (fun h21 => ?_) (fun h21 => ?_)
    ·
     refine ntQ (tcQ rfl (zdb (sbQ (srQ (hvQ rfl (riQ 1 rfl rfl rfl rfl (zap hsv)) ?_)))))
     refine hvQ rfl (zba (u := (rs.getD i crow0).v) rfl rfl rfl (zap hsv) (zcv crowC (fun r => r.v) (fun _ => rfl) rs crow0 (show i < _ by omega))) (zbc 1 rfl (zac (zac (reQ 1 rfl ?_))))
     refine hvQ rfl (lnQ rfl rfl rfl (fun w hm => (hra.at (k := i) (by omega)).below hm.bel)) (zeq rfl rfl rfl rfl rfl rfl (fun h22 => ?_) (fun h22 => ?_))
     ·
      refine ntQ (zaj rfl (srQ (hvQ rfl (zar (cs := [.int .i64 n.ins, n.sv, n.av, n.ov]) rfl rfl rfl rfl rfl (zah 1 rfl 0 rfl)) ?_)))
      refine zfg rfl rfl rfl (zam rfl rfl (fun w hm => zee n w (hr.below hm.bel) hS)) ?_
      intro v23 p24 hR25
      obtain ⟨mhR25, rfl, rfl, cphR25⟩ := hR25
      refine zcr (i := 2) rfl (fun ho26 => ?_)
      refine zcr (i := 1) rfl (fun ho27 => ?_)
      refine zgn (i := 0) rfl (fun ho28 => ?_)
      refine zbm (cs' := #[.int .i64 mhR25.ins, mhR25.sv, mhR25.av, mhR25.ov]) (i := 3) (off := 0) (us := [.int .i64 mhR25.ins, mhR25.sv, mhR25.av, mhR25.ov]) rfl rfl rfl rfl rfl rfl rfl (zaa rfl (zaa ho28 (zaa ho27 (zaa ho26 zbe)))) rfl rfl rfl (zbc 1 rfl ?_)
      refine zak (zad ?_)
      refine zaf (zfv ?_)
      refine zaf (zad ?_)
      refine zcu [rowE 3 1 (.slice none 0 0) (([] : List Int).length) (([] : List Int).map (Value.int .i64)), sqsE mhR25.sv mhR25.ss, rS9 141 2 mhR25.av mhR25.gs anC, rI9 3 mhR25.ov mhR25.os, nB9 b2 mhR25, nB9 b1 n] (fun w hm => hm.nilRow 3 1) ?_
      refine zbw (fun w hm => (zcw (hm.holds _ (zbr (i := 1) rfl))).1.one) (fun ho1 => ?_)
      refine zbw (fun w hm => (zao 2 rfl w hm).one) (fun ho3 => ?_)
      refine zbw (fun w hm => (zao 3 rfl w hm).one) (fun ho2 => ?_)
      refine zaz 6 [4, 0, 3, 2, 1] rfl rfl (by decide) ?_
      refine zbk 4 rfl ?_
      exact zca (rs := [.cell 8 70, .tmp 9]) (vs := [.agg #[.int .i64 mhR25.ins, mhR25.sv, mhR25.av, mhR25.ov], .slice none 0 0]) (post := [bigE [sqsE mhR25.sv mhR25.ss, rS9 141 2 mhR25.av mhR25.gs anC, rI9 3 mhR25.ov mhR25.os, rowE 3 1 (.slice none 0 0) (([] : List Int).length) (([] : List Int).map (Value.int .i64))]]) rfl ⟨⟨b2, 0, [.int .i64 mhR25.ins, mhR25.sv, mhR25.av, mhR25.ov], rfl, rfl, by kernel_rfl, by kernel_rfl, zah 1 rfl 0 rfl⟩, rfl, trivial⟩ rfl (slQ [0] rfl) ⟨_, mhR25, _, [], rfl, rfl, fun w hw => ⟨⟨(zcw (zau hw List.mem_cons_self)).1, (zcw (zau hw List.mem_cons_self)).2, zbh (zau hw (List.mem_cons_of_mem _ List.mem_cons_self)), zbh (zau hw (List.mem_cons_of_mem _ (List.mem_cons_of_mem _ List.mem_cons_self)))⟩, zbh (zau hw (List.mem_cons_of_mem _ (List.mem_cons_of_mem _ (List.mem_cons_of_mem _ List.mem_cons_self))))⟩, ⟨ho1, ho3, ho2⟩, .inr ⟨(fun h9 => by obtain ⟨⟨nt, ln, op, hw, sg, nk⟩, r9, e9⟩ := h9; rw [List.length_map] at ln op; first | exact absurd nt (by assumption) | (exfalso; omega) | exact absurd op (by assumption) | exact absurd (show HpP os by assumption) (fun ⟨i, hi, hk⟩ => nk i hi hk) | (have h8 := zfr sg (i := i) (by omega); obtain ⟨h8a, h8b⟩ := id h8; first | omega | (have h7 := h8.2 j (by omega); unfold LtOk at h7; omega)) | skip), rfl, cphR25.gs⟩⟩
     refine ntQ (zal rfl (zdb (zac (reQ 1 rfl ?_))))
     refine hvQ rfl (lnQ rfl rfl rfl (fun w hm => (hra.at (k := i) (by omega)).below hm.bel)) (zbc 1 rfl (zbf ?_))
     refine lkQ1 (α := Nat) [0, 1, 2, 3, 4, 8, 9, 11, 41, 44, 45, 46, 47, 52, 55, 56] rfl (fun j => [eB9 b2, nB9 b1 n]) (fun j => [(57, .int .i64 (j : Int))]) (fun j => j ≤ ((rs.getD i crow0).xs).length ∧ ∀ k, k < j → LtOk (((rs.getD i crow0).xs).getD k 0) n.cnt) (fun j => ((rs.getD i crow0).xs).length - j) 0 ⟨Nat.zero_le _, fun r hr => absurd hr (Nat.not_lt_zero _)⟩ (saQ rfl) (pfQ rfl) ?_
     intro j hi29
     obtain ⟨hj, hqk⟩ := hi29
     refine srQ ?_
     refine zcb rfl rfl rfl rfl rfl rfl (fun h30 => ?_) (fun h30 => ?_)
     ·
      refine ntQ (tcQ rfl (zdb (sbQ (srQ ?_))))
      refine hvQ rfl (riQ 1 rfl rfl rfl rfl (fun w hm => (hra.at (k := i) (by omega)).below hm.bel)) (hvQ rfl (zba (u := .int .i64 (((rs.getD i crow0).xs).getD j 0)) rfl rfl rfl (fun w hm => (hra.at (k := i) (by omega)).below hm.bel) (zcg (show _ < ((rs.getD i crow0).xs).length by omega))) ?_)
      refine zbc 1 rfl (zac (reQ 1 rfl (hvQ rfl (zar (cs := [.int .i64 n.ins, n.sv, n.av, n.ov]) rfl rfl rfl rfl rfl (zah 1 rfl 0 rfl)) ?_)))
      refine zdu rfl (zam rfl rfl (fun w hm => zbb (implnodeCountG n w (hr.below hm.bel) hnt.nc))) (hvQ rfl (zfs rfl rfl rfl (by constructor <;> omega)) (hvQ rfl (vsQ rfl rfl rfl) ?_))
      refine zdu rfl (zam rfl rfl (fun w hm => zbb (zer (zcq _ _ _ w)))) (zbz (fun h31 => ?_) (fun h31 => ?_))
      ·
       obtain ⟨h31a, h31b⟩ := (zcp _ _ _).1 h31
       refine zbc 1 rfl (fsQ rfl (zdn (zav (hvQ rfl (vaQ rfl rfl rfl) (enQ 1 rfl ?_)))))
       exact zcm (j + 1) ⟨by omega, fun k hk => by by_cases e9 : k = j; (subst e9; unfold LtOk; omega); exact hqk k (by omega)⟩ (by omega) (saQ rfl) (pfQ rfl)
      have h31a := zdy h31
      refine zbc 1 rfl (zaj rfl (srQ (hvQ rfl (zar (cs := [.int .i64 n.ins, n.sv, n.av, n.ov]) rfl rfl rfl rfl rfl (zah 1 rfl 0 rfl)) ?_)))
      refine zfg rfl rfl rfl (zam rfl rfl (fun w hm => zee n w (hr.below hm.bel) hS)) ?_
      intro v32 p33 hR34
      obtain ⟨mhR34, rfl, rfl, cphR34⟩ := hR34
      refine zcr (i := 2) rfl (fun ho35 => ?_)
      refine zcr (i := 1) rfl (fun ho36 => ?_)
      refine zgn (i := 0) rfl (fun ho37 => ?_)
      refine zbm (cs' := #[.int .i64 mhR34.ins, mhR34.sv, mhR34.av, mhR34.ov]) (i := 3) (off := 0) (us := [.int .i64 mhR34.ins, mhR34.sv, mhR34.av, mhR34.ov]) rfl rfl rfl rfl rfl rfl rfl (zaa rfl (zaa ho37 (zaa ho36 (zaa ho35 zbe)))) rfl rfl rfl (zbc 1 rfl ?_)
      refine zak (zaf ?_)
      refine zfv ?_
      refine zaf (zaf ?_)
      refine zfv ?_
      refine zaf (zad ?_)
      refine zcu [rowE 3 1 (.slice none 0 0) (([] : List Int).length) (([] : List Int).map (Value.int .i64)), sqsE mhR34.sv mhR34.ss, rS9 141 2 mhR34.av mhR34.gs anC, rI9 3 mhR34.ov mhR34.os, nB9 b2 mhR34, nB9 b1 n] (fun w hm => hm.nilRow 3 1) ?_
      refine zbw (fun w hm => (zcw (hm.holds _ (zbr (i := 1) rfl))).1.one) (fun ho1 => ?_)
      refine zbw (fun w hm => (zao 2 rfl w hm).one) (fun ho3 => ?_)
      refine zbw (fun w hm => (zao 3 rfl w hm).one) (fun ho2 => ?_)
      refine zaz 6 [4, 0, 3, 2, 1] rfl rfl (by decide) ?_
      refine zbk 4 rfl ?_
      exact zca (rs := [.cell 8 70, .tmp 9]) (vs := [.agg #[.int .i64 mhR34.ins, mhR34.sv, mhR34.av, mhR34.ov], .slice none 0 0]) (post := [bigE [sqsE mhR34.sv mhR34.ss, rS9 141 2 mhR34.av mhR34.gs anC, rI9 3 mhR34.ov mhR34.os, rowE 3 1 (.slice none 0 0) (([] : List Int).length) (([] : List Int).map (Value.int .i64))]]) rfl ⟨⟨b2, 0, [.int .i64 mhR34.ins, mhR34.sv, mhR34.av, mhR34.ov], rfl, rfl, by kernel_rfl, by kernel_rfl, zah 1 rfl 0 rfl⟩, rfl, trivial⟩ rfl (slQ [0] rfl) ⟨_, mhR34, _, [], rfl, rfl, fun w hw => ⟨⟨(zcw (zau hw List.mem_cons_self)).1, (zcw (zau hw List.mem_cons_self)).2, zbh (zau hw (List.mem_cons_of_mem _ List.mem_cons_self)), zbh (zau hw (List.mem_cons_of_mem _ (List.mem_cons_of_mem _ List.mem_cons_self)))⟩, zbh (zau hw (List.mem_cons_of_mem _ (List.mem_cons_of_mem _ (List.mem_cons_of_mem _ List.mem_cons_self))))⟩, ⟨ho1, ho3, ho2⟩, .inr ⟨(fun h9 => by obtain ⟨⟨nt, ln, op, hw, sg, nk⟩, r9, e9⟩ := h9; rw [List.length_map] at ln op; first | exact absurd nt (by assumption) | (exfalso; omega) | exact absurd op (by assumption) | exact absurd (show HpP os by assumption) (fun ⟨i, hi, hk⟩ => nk i hi hk) | (have h8 := zfr sg (i := i) (by omega); obtain ⟨h8a, h8b⟩ := id h8; first | omega | (have h7 := h8.2 j (by omega); unfold LtOk at h7; omega)) | skip), rfl, cphR34.gs⟩⟩
     refine ntQ (fcQ rfl ?_)
     refine zby (zes ?_)
     refine zat (zdn (zav (hvQ rfl (vaQ rfl rfl rfl) (enQ 1 rfl ?_))))
     exact zcm (i + 1) ⟨by omega, fun r hr => by by_cases e9 : r = i; (subst e9; exact ⟨by omega, fun k hk => hqk k (by omega)⟩); exact hq r (by omega)⟩ (by omega) (saQ rfl) (pfQ rfl)
    refine ntQ (fcQ rfl ?_)
    refine zby (zes ?_)
    refine zat (zaw (srQ ?_))
    have hAx : AxP n (rs.map CRow.xs) os W := ⟨by assumption, by rw [List.length_map]; omega, by rw [List.length_map]; assumption, by omega, sg_ofX (fun r hr => hq r (by omega)), fun i hi hk => absurd (show HpP os from ⟨i, hi, hk⟩) (by assumption)⟩
    have hopsp := hAx.op
    rw [List.length_map] at hopsp
    refine hvQ rfl (zar (cs := [.int .i64 n.ins, n.sv, n.av, n.ov]) rfl rfl rfl rfl rfl (zah 1 rfl 0 rfl)) (zfg rfl rfl rfl (zam rfl rfl (fun w hm => zee n w (hr.below hm.bel) hS)) ?_)
    intro v38 p39 hR40
    obtain ⟨mhR40, rfl, rfl, cphR40⟩ := hR40
    refine zed rfl (zcc (z := .agg #[.int .i64 0, .slice none 0 0, .slice none 0 0, .slice none 0 0]) rfl rfl) ?_
    intro b41
    refine zcr (i := 3) rfl (fun ho42 => ?_)
    refine zcr (i := 2) rfl (fun ho43 => ?_)
    refine zgn (i := 1) rfl (fun ho44 => ?_)
    refine zbm (cs' := #[.int .i64 mhR40.ins, mhR40.sv, mhR40.av, mhR40.ov]) (i := 0) (off := 0) (us := [.int .i64 mhR40.ins, mhR40.sv, mhR40.av, mhR40.ov]) rfl rfl rfl rfl rfl rfl rfl (zaa rfl (zaa ho44 (zaa ho43 (zaa ho42 zbe)))) rfl rfl rfl (ntQ (zac (reQ 2 rfl ?_)))
    refine hvQ rfl (zge (cs := #[.pointer (some ⟨b41, 0, none⟩), sv, .int .i64 W, .bool false]) rfl rfl (fun w hm => built_adder (.pointer (some ⟨b41, 0, none⟩)) sv W rfl (hsv.one))) (zed rfl (zdh rfl rfl) ?_)
    intro b45
    refine zbc 1 rfl (srQ ?_)
    refine hl_know (fun w hm => (zcw (hm.holds _ (zbr (i := 2) rfl))).1.one) (fun ho1 => ?_)
    refine hl_know (fun w hm => (zao 4 rfl w hm).one) (fun ho2 => ?_)
    refine zew 7 [6, 5, 4, 2, 0, 3, 1] rfl rfl (by decide) ?_
    refine hl_pool 2 rfl ?_
    refine zew 6 [5, 4, 3, 2, 1, 0] rfl rfl (by decide) ?_
    refine hl_pool 2 rfl ?_
    refine zag 2 rfl (zcz (R := (fun u_ p_ => ∃ (v_ : Value) (g_ : List An) (bd_ : Bool) (zs : List Int) (zv : Value), u_ = .tuple #[zv, .int .i64 (enX os os.length 0 : Int)] ∧ p_ = bigE [adP b41 mhR40 b45 sv W v_ g_ bd_, rI9 3 zv zs] ∧ Ext mhR40 mhR40.gs g_ ∧ LsOk mhR40 g_ zs ∧ zs.length = W.toNat ∧ AdR (false = true) (bd_ = true) (exX mhR40.fst W.toNat (rs.map CRow.xs) os os.length 0 mhR40.gs) (g_, zs))) 0 rfl rfl rfl rfl rfl (fun L w hX hm => addExpr_I b41 b45 mhR40 sv W rs os vO _ ⟨ho1, ho2⟩ hsv.one hAx.w (by rw [List.length_map]; exact hopsp) hAx.nk mhR40.av mhR40.gs false _ _ (cphR40.ok hAx.nt) (hAx.sg.copy cphR40) (fun w hm => ⟨⟨(zcw ((hX w hm).holds _ (zbr (i := 0) rfl))).1, (zcw ((hX w hm).holds _ (zbr (i := 0) rfl))).2, (zao (l := [sqsE mhR40.sv mhR40.ss, rI9 3 mhR40.ov mhR40.os, eB9 b2, nB9 b1 n]) 1 rfl) w (hX w hm)⟩, ⟨hsv.below (hX w hm).bel, hra.sub9 (hX w hm).bel⟩, hv.below (hX w hm).bel⟩) hm) ?_)
    intro v46 p47 hR48
    obtain ⟨vhR48, ghR48, bdhR48, zshR48, zvhR48, rfl, rfl, exhR48, lshR48, zlhR48, adhR48⟩ := hR48
    refine zck (l' := [bigE [adP b41 mhR40 b45 sv W vhR48 ghR48 bdhR48, rI9 3 zvhR48 zshR48], sqsE mhR40.sv mhR40.ss, rI9 3 mhR40.ov mhR40.os, eB9 b2, nB9 b1 n]) rfl ?_
    refine zag 1 rfl (zew 5 [4, 3, 2, 1, 0] rfl rfl (by decide) ?_)
    refine zfa [adP b41 mhR40 b45 sv W vhR48 ghR48 bdhR48, rI9 3 zvhR48 zshR48, sqsE mhR40.sv mhR40.ss, rI9 3 mhR40.ov mhR40.os, eB9 b2, nB9 b1 n] zdv ?_
    refine zbc 4 rfl (zgk ?_)
    refine zew 6 [5, 4, 3, 2, 1, 0] rfl rfl (by decide) ?_
    refine zfa [netP b41 mhR40 vhR48 ghR48, boxE b45 #[.pointer (some ⟨b41, 0, none⟩), sv, .int .i64 W, .bool bdhR48] 137, rI9 3 zvhR48 zshR48, sqsE mhR40.sv mhR40.ss, rI9 3 mhR40.ov mhR40.os, eB9 b2, nB9 b1 n] zdv ?_
    refine zag 1 rfl (hvQ rfl (zdf rfl rfl) (hvQ rfl (fdQ 3 rfl rfl rfl) (hvQ rfl (zan rfl rfl rfl (zai 1 rfl rfl)) ?_)))
    refine zbz (fun h49 => ?_) (fun h49 => ?_)
    ·
     refine ntQ (zaj rfl (srQ (hvQ rfl (zar (cs := [.int .i64 n.ins, n.sv, n.av, n.ov]) rfl rfl rfl rfl rfl (zah 6 rfl 0 rfl)) ?_)))
     refine zfg rfl rfl rfl (zam rfl rfl (fun w hm => zee n w (hr.below hm.bel) hS)) ?_
     intro v50 p51 hR52
     obtain ⟨mhR52, rfl, rfl, cphR52⟩ := hR52
     refine zcr (i := 2) rfl (fun ho53 => ?_)
     refine zcr (i := 1) rfl (fun ho54 => ?_)
     refine zgn (i := 0) rfl (fun ho55 => ?_)
     refine zbm (cs' := #[.int .i64 mhR52.ins, mhR52.sv, mhR52.av, mhR52.ov]) (i := 8) (off := 0) (us := [.int .i64 mhR52.ins, mhR52.sv, mhR52.av, mhR52.ov]) rfl rfl rfl rfl rfl rfl rfl (zaa rfl (zaa ho55 (zaa ho54 (zaa ho53 zbe)))) rfl rfl rfl (zbc 1 rfl ?_)
     refine zak (zad ?_)
     refine zcu [rowE 3 1 (.slice none 0 0) (([] : List Int).length) (([] : List Int).map (Value.int .i64)), sqsE mhR52.sv mhR52.ss, rS9 141 2 mhR52.av mhR52.gs anC, rI9 3 mhR52.ov mhR52.os, netP b41 mhR40 vhR48 ghR48, boxE b45 #[.pointer (some ⟨b41, 0, none⟩), sv, .int .i64 W, .bool bdhR48] 137, rI9 3 zvhR48 zshR48, sqsE mhR40.sv mhR40.ss, rI9 3 mhR40.ov mhR40.os, nB9 b2 mhR52, nB9 b1 n] (fun w hm => hm.nilRow 3 1) ?_
     refine zbw (fun w hm => (zcw (hm.holds _ (zbr (i := 1) rfl))).1.one) (fun ho1 => ?_)
     refine zbw (fun w hm => (zao 2 rfl w hm).one) (fun ho3 => ?_)
     refine zbw (fun w hm => (zao 3 rfl w hm).one) (fun ho2 => ?_)
     refine zaz 11 [9, 0, 3, 2, 1] rfl rfl (by decide) ?_
     refine zbk 4 rfl ?_
     exact zca (rs := [.cell 8 70, .tmp 9]) (vs := [.agg #[.int .i64 mhR52.ins, mhR52.sv, mhR52.av, mhR52.ov], .slice none 0 0]) (post := [bigE [sqsE mhR52.sv mhR52.ss, rS9 141 2 mhR52.av mhR52.gs anC, rI9 3 mhR52.ov mhR52.os, rowE 3 1 (.slice none 0 0) (([] : List Int).length) (([] : List Int).map (Value.int .i64))]]) rfl ⟨⟨b2, 0, [.int .i64 mhR52.ins, mhR52.sv, mhR52.av, mhR52.ov], rfl, rfl, by kernel_rfl, by kernel_rfl, zah 1 rfl 0 rfl⟩, rfl, trivial⟩ rfl (slQ [0] rfl) ⟨_, mhR52, _, [], rfl, rfl, fun w hw => ⟨⟨(zcw (zau hw List.mem_cons_self)).1, (zcw (zau hw List.mem_cons_self)).2, zbh (zau hw (List.mem_cons_of_mem _ List.mem_cons_self)), zbh (zau hw (List.mem_cons_of_mem _ (List.mem_cons_of_mem _ List.mem_cons_self)))⟩, zbh (zau hw (List.mem_cons_of_mem _ (List.mem_cons_of_mem _ (List.mem_cons_of_mem _ List.mem_cons_self))))⟩, ⟨ho1, ho3, ho2⟩, .inr ⟨(fun h9 => by obtain ⟨⟨nt, ln, op, hw, sg, nk⟩, r9, e9⟩ := h9; rw [List.length_map] at ln op; first | exact absurd nt (by assumption) | (exfalso; omega) | exact absurd op (by assumption) | exact absurd (show HpP os by assumption) (fun ⟨i, hi, hk⟩ => nk i hi hk) | (have h8 := zfr sg (i := i) (by omega); obtain ⟨h8a, h8b⟩ := id h8; first | omega | (have h7 := h8.2 j (by omega); unfold LtOk at h7; omega)) | (have h8 := adhR48.no (by assumption); rw [cphR40.gs, cphR40.sk.fst] at h8; rcases h8 with h8 | h8; (cases h8); (rw [h8] at e9; cases e9))), rfl, cphR52.gs⟩⟩
    refine ntQ (zal rfl (zdb (srQ ?_)))
    refine zew 7 [6, 5, 4, 3, 2, 1, 0] rfl rfl (by decide) ?_
    refine zfa [boxE b41 #[.int .i64 mhR40.ins, mhR40.sv, vhR48, mhR40.ov] 70, rS9 141 2 vhR48 ghR48 anC, boxE b45 #[.pointer (some ⟨b41, 0, none⟩), sv, .int .i64 W, .bool bdhR48] 137, rI9 3 zvhR48 zshR48, sqsE mhR40.sv mhR40.ss, rI9 3 mhR40.ov mhR40.os, eB9 b2, nB9 b1 n] zdv ?_
    refine hvQ rfl (zar (cs := [.int .i64 mhR40.ins, mhR40.sv, vhR48, mhR40.ov]) rfl rfl rfl rfl rfl (zah 0 rfl 0 rfl)) (zag 1 rfl ?_)
    refine zcr (i := 1) rfl (fun ho56 => ?_)
    refine zbm (cs' := #[.int .i64 mhR40.ins, mhR40.sv, vhR48, mhR40.ov]) (i := 6) (off := 0) (us := [.int .i64 mhR40.ins, mhR40.sv, vhR48, mhR40.ov]) rfl rfl rfl rfl rfl rfl rfl (zaa rfl (zaa ho44 (zaa ho56 (zaa ho42 zbe)))) rfl rfl rfl (zbc 1 rfl ?_)
    refine zak (zbw (fun w hm => (zcw (hm.holds _ (zbr (i := 4) rfl))).1.one) (fun ho1 => ?_))
    refine zbw (fun w hm => (zao 1 rfl w hm).one) (fun ho3 => ?_)
    refine zbw (fun w hm => (zao 5 rfl w hm).one) (fun ho2 => ?_)
    have hok9 := adhR48.ok (by simp_all)
    rw [cphR40.gs, cphR40.sk.fst] at hok9
    refine zaz 8 [6, 3, 5, 1, 4] rfl rfl (by decide) ?_
    refine zbk 4 rfl ?_
    exact zca (rs := [.cell 8 70, .tmp 9]) (vs := [.agg #[.int .i64 mhR40.ins, mhR40.sv, vhR48, mhR40.ov], zvhR48]) (post := [bigE [sqsE mhR40.sv mhR40.ss, rS9 141 2 vhR48 ghR48 anC, rI9 3 mhR40.ov mhR40.os, rI9 3 zvhR48 zshR48]]) rfl ⟨⟨b2, 0, [.int .i64 mhR40.ins, mhR40.sv, vhR48, mhR40.ov], rfl, rfl, by kernel_rfl, by kernel_rfl, zah 1 rfl 0 rfl⟩, rfl, trivial⟩ rfl (slQ [0] rfl) ⟨_, { mhR40 with av := vhR48, gs := ghR48 }, _, zshR48, rfl, rfl, fun w hw => ⟨⟨(zcw (zau hw List.mem_cons_self)).1, (zcw (zau hw List.mem_cons_self)).2, zbh (zau hw (List.mem_cons_of_mem _ List.mem_cons_self)), zbh (zau hw (List.mem_cons_of_mem _ (List.mem_cons_of_mem _ List.mem_cons_self)))⟩, zbh (zau hw (List.mem_cons_of_mem _ (List.mem_cons_of_mem _ (List.mem_cons_of_mem _ List.mem_cons_self))))⟩, ⟨ho1, ho3, ho2⟩, .inl ⟨hAx, hok9.2, ⟨cphR40.ins, cphR40.os, cphR40.ss⟩, zlhR48⟩⟩
   have h19a := zdy h19
   refine zbc 2 rfl (zaj rfl (srQ (hvQ rfl (zar (cs := [.int .i64 n.ins, n.sv, n.av, n.ov]) rfl rfl rfl rfl rfl (zah 1 rfl 0 rfl)) ?_)))
   refine zfg rfl rfl rfl (zam rfl rfl (fun w hm => zee n w (hr.below hm.bel) hS)) ?_
   intro v57 p58 hR59
   obtain ⟨mhR59, rfl, rfl, cphR59⟩ := hR59
   refine zcr (i := 2) rfl (fun ho60 => ?_)
   refine zcr (i := 1) rfl (fun ho61 => ?_)
   refine zgn (i := 0) rfl (fun ho62 => ?_)
   refine zbm (cs' := #[.int .i64 mhR59.ins, mhR59.sv, mhR59.av, mhR59.ov]) (i := 3) (off := 0) (us := [.int .i64 mhR59.ins, mhR59.sv, mhR59.av, mhR59.ov]) rfl rfl rfl rfl rfl rfl rfl (zaa rfl (zaa ho62 (zaa ho61 (zaa ho60 zbe)))) rfl rfl rfl (zbc 1 rfl ?_)
   refine zak (zad ?_)
   refine zcu [rowE 3 1 (.slice none 0 0) (([] : List Int).length) (([] : List Int).map (Value.int .i64)), sqsE mhR59.sv mhR59.ss, rS9 141 2 mhR59.av mhR59.gs anC, rI9 3 mhR59.ov mhR59.os, nB9 b2 mhR59, nB9 b1 n] (fun w hm => hm.nilRow 3 1) ?_
   refine zbw (fun w hm => (zcw (hm.holds _ (zbr (i := 1) rfl))).1.one) (fun ho1 => ?_)
   refine zbw (fun w hm => (zao 2 rfl w hm).one) (fun ho3 => ?_)
   refine zbw (fun w hm => (zao 3 rfl w hm).one) (fun ho2 => ?_)
   refine zaz 6 [4, 0, 3, 2, 1] rfl rfl (by decide) ?_
   refine zbk 4 rfl ?_
   exact zca (rs := [.cell 8 70, .tmp 9]) (vs := [.agg #[.int .i64 mhR59.ins, mhR59.sv, mhR59.av, mhR59.ov], .slice none 0 0]) (post := [bigE [sqsE mhR59.sv mhR59.ss, rS9 141 2 mhR59.av mhR59.gs anC, rI9 3 mhR59.ov mhR59.os, rowE 3 1 (.slice none 0 0) (([] : List Int).length) (([] : List Int).map (Value.int .i64))]]) rfl ⟨⟨b2, 0, [.int .i64 mhR59.ins, mhR59.sv, mhR59.av, mhR59.ov], rfl, rfl, by kernel_rfl, by kernel_rfl, zah 1 rfl 0 rfl⟩, rfl, trivial⟩ rfl (slQ [0] rfl) ⟨_, mhR59, _, [], rfl, rfl, fun w hw => ⟨⟨(zcw (zau hw List.mem_cons_self)).1, (zcw (zau hw List.mem_cons_self)).2, zbh (zau hw (List.mem_cons_of_mem _ List.mem_cons_self)), zbh (zau hw (List.mem_cons_of_mem _ (List.mem_cons_of_mem _ List.mem_cons_self)))⟩, zbh (zau hw (List.mem_cons_of_mem _ (List.mem_cons_of_mem _ (List.mem_cons_of_mem _ List.mem_cons_self))))⟩, ⟨ho1, ho3, ho2⟩, .inr ⟨(fun h9 => by obtain ⟨⟨nt, ln, op, hw, sg, nk⟩, r9, e9⟩ := h9; rw [List.length_map] at ln op; first | exact absurd nt (by assumption) | (exfalso; omega) | exact absurd op (by assumption) | exact absurd (show HpP os by assumption) (fun ⟨i, hi, hk⟩ => nk i hi hk) | (have h8 := zfr sg (i := i) (by omega); obtain ⟨h8a, h8b⟩ := id h8; first | omega | (have h7 := h8.2 j (by omega); unfold LtOk at h7; omega)) | (have h8 := adhR48.no (by assumption); rw [cphR40.gs, cphR40.sk.fst] at h8; rcases h8 with h8 | h8; (cases h8); (rw [h8] at e9; cases e9))), rfl, cphR59.gs⟩⟩
  have h11p := of_pBn h11
  refine zbc 11 rfl (zaj rfl (srQ (hvQ rfl (zar (cs := [.int .i64 n.ins, n.sv, n.av, n.ov]) rfl rfl rfl rfl rfl (zah 1 rfl 0 rfl)) ?_)))
  refine zfg rfl rfl rfl (zam rfl rfl (fun w hm => zee n w (hr.below hm.bel) hS)) ?_
  intro v63 p64 hR65
  obtain ⟨mhR65, rfl, rfl, cphR65⟩ := hR65
  refine zcr (i := 2) rfl (fun ho66 => ?_)
  refine zcr (i := 1) rfl (fun ho67 => ?_)
  refine zgn (i := 0) rfl (fun ho68 => ?_)
  refine zbm (cs' := #[.int .i64 mhR65.ins, mhR65.sv, mhR65.av, mhR65.ov]) (i := 3) (off := 0) (us := [.int .i64 mhR65.ins, mhR65.sv, mhR65.av, mhR65.ov]) rfl rfl rfl rfl rfl rfl rfl (zaa rfl (zaa ho68 (zaa ho67 (zaa ho66 zbe)))) rfl rfl rfl (zbc 1 rfl ?_)
  refine zak (zad ?_)
  refine zcu [rowE 3 1 (.slice none 0 0) (([] : List Int).length) (([] : List Int).map (Value.int .i64)), sqsE mhR65.sv mhR65.ss, rS9 141 2 mhR65.av mhR65.gs anC, rI9 3 mhR65.ov mhR65.os, nB9 b2 mhR65, nB9 b1 n] (fun w hm => hm.nilRow 3 1) ?_
  refine zbw (fun w hm => (zcw (hm.holds _ (zbr (i := 1) rfl))).1.one) (fun ho1 => ?_)
  refine zbw (fun w hm => (zao 2 rfl w hm).one) (fun ho3 => ?_)
  refine zbw (fun w hm => (zao 3 rfl w hm).one) (fun ho2 => ?_)
  refine zaz 6 [4, 0, 3, 2, 1] rfl rfl (by decide) ?_
  refine zbk 4 rfl ?_
  exact zca (rs := [.cell 8 70, .tmp 9]) (vs := [.agg #[.int .i64 mhR65.ins, mhR65.sv, mhR65.av, mhR65.ov], .slice none 0 0]) (post := [bigE [sqsE mhR65.sv mhR65.ss, rS9 141 2 mhR65.av mhR65.gs anC, rI9 3 mhR65.ov mhR65.os, rowE 3 1 (.slice none 0 0) (([] : List Int).length) (([] : List Int).map (Value.int .i64))]]) rfl ⟨⟨b2, 0, [.int .i64 mhR65.ins, mhR65.sv, mhR65.av, mhR65.ov], rfl, rfl, by kernel_rfl, by kernel_rfl, zah 1 rfl 0 rfl⟩, rfl, trivial⟩ rfl (slQ [0] rfl) ⟨_, mhR65, _, [], rfl, rfl, fun w hw => ⟨⟨(zcw (zau hw List.mem_cons_self)).1, (zcw (zau hw List.mem_cons_self)).2, zbh (zau hw (List.mem_cons_of_mem _ List.mem_cons_self)), zbh (zau hw (List.mem_cons_of_mem _ (List.mem_cons_of_mem _ List.mem_cons_self)))⟩, zbh (zau hw (List.mem_cons_of_mem _ (List.mem_cons_of_mem _ (List.mem_cons_of_mem _ List.mem_cons_self))))⟩, ⟨ho1, ho3, ho2⟩, .inr ⟨(fun h9 => by obtain ⟨⟨nt, ln, op, hw, sg, nk⟩, r9, e9⟩ := h9; rw [List.length_map] at ln op; first | exact absurd nt (by assumption) | (exfalso; omega) | exact absurd op (by assumption) | exact absurd (show HpP os by assumption) (fun ⟨i, hi, hk⟩ => nk i hi hk) | (have h8 := zfr sg (i := i) (by omega); obtain ⟨h8a, h8b⟩ := id h8; first | omega | (have h7 := h8.2 j (by omega); unfold LtOk at h7; omega)) | (have h8 := adhR48.no (by assumption); rw [cphR40.gs, cphR40.sk.fst] at h8; rcases h8 with h8 | h8; (cases h8); (rw [h8] at e9; cases e9))), rfl, cphR65.gs⟩⟩
 have h3p := of_pBn h3
 refine zbc 22 rfl ?_
 refine zaj rfl (srQ (hvQ rfl (zar (cs := [.int .i64 n.ins, n.sv, n.av, n.ov]) rfl rfl rfl rfl rfl (zah 1 rfl 0 rfl)) ?_))
 refine zfg rfl rfl rfl (zam rfl rfl (fun w hm => zee n w (hr.below hm.bel) hS)) ?_
 intro v69 p70 hR71
 obtain ⟨mhR71, rfl, rfl, cphR71⟩ := hR71
 refine zcr (i := 2) rfl (fun ho72 => ?_)
 refine zcr (i := 1) rfl (fun ho73 => ?_)
 refine zgn (i := 0) rfl (fun ho74 => ?_)
 refine zbm (cs' := #[.int .i64 mhR71.ins, mhR71.sv, mhR71.av, mhR71.ov]) (i := 3) (off := 0) (us := [.int .i64 mhR71.ins, mhR71.sv, mhR71.av, mhR71.ov]) rfl rfl rfl rfl rfl rfl rfl (zaa rfl (zaa ho74 (zaa ho73 (zaa ho72 zbe)))) rfl rfl rfl (zbc 1 rfl ?_)
 refine zak (zad ?_)
 refine zcu [rowE 3 1 (.slice none 0 0) (([] : List Int).length) (([] : List Int).map (Value.int .i64)), sqsE mhR71.sv mhR71.ss, rS9 141 2 mhR71.av mhR71.gs anC, rI9 3 mhR71.ov mhR71.os, nB9 b2 mhR71, nB9 b1 n] (fun w hm => hm.nilRow 3 1) ?_
 refine zbw (fun w hm => (zcw (hm.holds _ (zbr (i := 1) rfl))).1.one) (fun ho1 => ?_)
 refine zbw (fun w hm => (zao 2 rfl w hm).one) (fun ho3 => ?_)
 refine zbw (fun w hm => (zao 3 rfl w hm).one) (fun ho2 => ?_)
 refine zaz 6 [4, 0, 3, 2, 1] rfl rfl (by decide) ?_
 refine zbk 4 rfl ?_
 exact zca (rs := [.cell 8 70, .tmp 9]) (vs := [.agg #[.int .i64 mhR71.ins, mhR71.sv, mhR71.av, mhR71.ov], .slice none 0 0]) (post := [bigE [sqsE mhR71.sv mhR71.ss, rS9 141 2 mhR71.av mhR71.gs anC, rI9 3 mhR71.ov mhR71.os, rowE 3 1 (.slice none 0 0) (([] : List Int).length) (([] : List Int).map (Value.int .i64))]]) rfl ⟨⟨b2, 0, [.int .i64 mhR71.ins, mhR71.sv, mhR71.av, mhR71.ov], rfl, rfl, by kernel_rfl, by kernel_rfl, zah 1 rfl 0 rfl⟩, rfl, trivial⟩ rfl (slQ [0] rfl) ⟨_, mhR71, _, [], rfl, rfl, fun w hw => ⟨⟨(zcw (zau hw List.mem_cons_self)).1, (zcw (zau hw List.mem_cons_self)).2, zbh (zau hw (List.mem_cons_of_mem _ List.mem_cons_self)), zbh (zau hw (List.mem_cons_of_mem _ (List.mem_cons_of_mem _ List.mem_cons_self)))⟩, zbh (zau hw (List.mem_cons_of_mem _ (List.mem_cons_of_mem _ (List.mem_cons_of_mem _ List.mem_cons_self))))⟩, ⟨ho1, ho3, ho2⟩, .inr ⟨(fun h9 => by obtain ⟨⟨nt, ln, op, hw, sg, nk⟩, r9, e9⟩ := h9; rw [List.length_map] at ln op; first | exact absurd nt (by assumption) | (exfalso; omega) | exact absurd op (by assumption) | exact absurd (show HpP os by assumption) (fun ⟨i, hi, hk⟩ => nk i hi hk) | (have h8 := zfr sg (i := i) (by omega); obtain ⟨h8a, h8b⟩ := id h8; first | omega | (have h7 := h8.2 j (by omega); unfold LtOk at h7; omega)) | (have h8 := adhR48.no (by assumption); rw [cphR40.gs, cphR40.sk.fst] at h8; rcases h8 with h8 | h8; (cases h8); (rw [h8] at e9; cases e9))), rfl, cphR71.gs⟩⟩
theorem l11Expr_all (rs : List CRow) (os : List Oq) (sv vO : Value) (W : Nat) (hW : 1 ≤ W ∧ W ≤ 4) (hok : OpsP (rs.map CRow.xs).length os) (h1k : ∀ i, i < os.length → (os.getD i oq0).k ≠ 1) :
    ∀ (f p : Nat) (n : Nt) (w : World), os.length - p ≤ f → p < os.length → RdsNt w n → NtOk n → SgOk n n.gs (rs.map CRow.xs) → RdsW w sv 1 rs.length (rs.flatMap crowC) → RdsAll w rs → RdsW w vO 3 os.length (os.flatMap oqC) →
    Calls Try.prog 92 #[.agg #[.int .i64 n.ins, n.sv, n.av, n.ov], sv, vO, .int .i64 (p : Int), .int .i64 (W : Int)] w (Ret w (fun u_ p_ => XR9 n W rs os f p u_ p_))
  | 0, p, n, w, hf, hp, hr, hn, hS, hsv, hra, hv => by omega
  | f + 1, p, n, w, hf, hp, hr, hn, hS, hsv, hra, hv => l11Expr_step n rs os sv vO W f p w hr hn hS hsv hra hv hW hok hp hf h1k (fun q n2 w2 h1 h2 hr2 hn2 hS2 hs2 ha2 hv2 => l11Expr_all rs os sv vO W hW hok h1k f q n2 w2 (by omega) h2 hr2 hn2 hS2 hs2 ha2 hv2)
theorem l11Expr_I (n : Nt) (rs : List CRow) (os : List Oq) (sv vO : Value) (W : Int) (w : World) (hW : 1 ≤ W ∧ W ≤ 4) (hok : OpsP (rs.map CRow.xs).length os) (h1k : ∀ i, i < os.length → (os.getD i oq0).k ≠ 1) (hr : RdsNt w n) (hn : NtOk n) (hS : SgOk n n.gs (rs.map CRow.xs)) (hsv : RdsW w sv 1 rs.length (rs.flatMap crowC)) (hra : RdsAll w rs) (hv : RdsW w vO 3 os.length (os.flatMap oqC)) :
    Calls Try.prog 92 #[.agg #[.int .i64 n.ins, n.sv, n.av, n.ov], sv, vO, .int .i64 0, .int .i64 W] w (Ret w (fun u_ p_ => XR9 n W.toNat rs os os.length 0 u_ p_)) := by
  obtain ⟨k, rfl⟩ : ∃ k : Nat, W = (k : Int) := ⟨W.toNat, by omega⟩
  exact l11Expr_all rs os sv vO k ⟨by omega, by omega⟩ hok h1k os.length 0 n w (by omega) hok.pos hr hn hS hsv hra hv
theorem specAddExpr_ret (n : Nt) (rs : List CRow) (os : List Oq) (sv vO : Value) (W : Int) (w : World) (hr : RdsNt w n) (hS : NtSm n) (hsv : RdsW w sv 1 rs.length (rs.flatMap crowC)) (hra : RdsAll w rs) (hv : RdsW w vO 3 os.length (os.flatMap oqC)) (hmx : ∀ i j, (rs.getD i crow0).xs.getD j 0 ≤ 9223372036854775807) :
   Calls Try.prog 35 #[.agg #[.int .i64 n.ins, n.sv, n.av, n.ov], sv, vO, .int .i64 W] w (Ret w (fun u_ p_ => ∃ (ps : List HP) (m : Nt) (zv : Value) (zs : List Int), u_ = .tuple #[m.agg, zv] ∧ p_ = [bigE ps] ∧ (∀ w, (bigE ps).holds w → RdsW w zv 1 zs.length (zs.map (Value.int .i64))) ∧ (m.sv.oneCell' = true ∧ m.av.oneCell' = true ∧ m.ov.oneCell' = true) ∧ ((∃ r : GL, AxP n (rs.map CRow.xs) os W ∧ exX n.fst W.toNat (rs.map CRow.xs) os os.length 0 n.gs = some r ∧ zs.length = W.toNat) ∨ (¬ (AxP n (rs.map CRow.xs) os W ∧ ∃ r, exX n.fst W.toNat (rs.map CRow.xs) os os.length 0 n.gs = some r) ∧ zs = [])))) := by
 have qs1 := hS.s1
 have qa1 := hS.a1
 have qo1 := hS.o1
 have hcnt : n.cnt = 1 + n.ins + n.ss.length + n.gs.length := rfl
 have hfst : n.fst = 1 + n.ins + n.ss.length := rfl
 have hv9 := sml hv
 have hs9 := sml hsv
 refine zbq (N := 112) (args := [.agg #[.int .i64 n.ins, n.sv, n.av, n.ov], sv, vO, .int .i64 W]) Try.func35 rfl rfl (srQ ?_)
 refine zed rfl (zdh rfl rfl) ?_
 intro b1
 refine zed rfl (zcc (z := .agg #[.int .i64 0, .slice none 0 0, .slice none 0 0, .slice none 0 0]) rfl rfl) ?_
 intro b2
 refine zbc 1 rfl (srQ ?_)
 refine zey rfl (zds (s := 1) rfl Try.underlying48 rfl) ?_
 intro g3
 refine zbc 1 rfl (zgk (hvQ rfl (zar (cs := [.int .i64 n.ins, n.sv, n.av, n.ov]) rfl rfl rfl rfl rfl (zah 2 rfl 0 rfl)) ?_))
 refine zdu rfl (zam rfl rfl (fun w hm => zbb (specNetOk_any n w (hr.below hm.bel) hS))) (zbz (fun h4 => ?_) (fun h4 => ?_))
 ·
  have h4p := of_pB h4
  refine zag 3 rfl (hvQ rfl (lnQ rfl rfl rfl (zap hsv)) ?_)
  refine zeq rfl rfl rfl rfl rfl rfl (fun h5 => ?_) (fun h5 => ?_)
  ·
   refine zbc 13 rfl (zaj rfl (srQ (hvQ rfl (zar (cs := [.int .i64 n.ins, n.sv, n.av, n.ov]) rfl rfl rfl rfl rfl (zah 2 rfl 0 rfl)) ?_)))
   refine zfg rfl rfl rfl (zam rfl rfl (fun w hm => zec n w (hr.below hm.bel) hS)) ?_
   intro v6 p7 hR8
   obtain ⟨pshR8, mhR8, rfl, rfl, hpshR8, ⟨o1mhR8, o3mhR8⟩, hcphR8⟩ := hR8
   refine zag 1 rfl (zcr (i := 1) rfl (fun ho9 => ?_))
   refine zbm (cs' := #[.int .i64 mhR8.ins, mhR8.sv, mhR8.av, mhR8.ov]) (i := 4) (off := 0) (us := [.int .i64 mhR8.ins, mhR8.sv, mhR8.av, mhR8.ov]) rfl rfl rfl rfl rfl rfl rfl (zaa rfl (zaa o1mhR8 (zaa ho9 (zaa o3mhR8 zbe)))) rfl rfl rfl (zbc 1 rfl ?_)
   refine zak (zad ?_)
   refine zcu [rS9 143 3 mhR8.sv mhR8.ss sqC, rS9 141 2 mhR8.av mhR8.gs anC, bigE pshR8, rowE 3 1 (.slice (some ⟨g3, 0, none⟩) 0 0) (([] : List Int).length) (([] : List Int).map (Value.int .i64)), nB9 b2 mhR8, nB9 b1 n] (fun w hm => hm) ?_
   refine zbw (fun w hm => (zao 1 rfl w hm).one) (fun ho9 => ?_)
   refine zaz 6 [4, 3] rfl rfl (by decide) ?_
   refine zbk 1 rfl ?_
   exact zca (rs := [.cell 8 70, .tmp 9]) (vs := [.agg #[.int .i64 mhR8.ins, mhR8.sv, mhR8.av, mhR8.ov], .slice (some ⟨g3, 0, none⟩) 0 0]) (post := [bigE [rowE 3 1 (.slice (some ⟨g3, 0, none⟩) 0 0) (([] : List Int).length) (([] : List Int).map (Value.int .i64))]]) rfl ⟨⟨b2, 0, [.int .i64 mhR8.ins, mhR8.sv, mhR8.av, mhR8.ov], rfl, rfl, by kernel_rfl, by kernel_rfl, zah 1 rfl 0 rfl⟩, rfl, trivial⟩ rfl (slQ [0] rfl) ⟨_, mhR8, _, ([] : List Int), rfl, rfl, fun w hw => zbh (zau hw List.mem_cons_self), ⟨o1mhR8, ho9, o3mhR8⟩, .inr ⟨(fun h9 => by obtain ⟨⟨nt, ln, op, hw, sg, nk⟩, r9, e9⟩ := h9; rw [List.length_map] at ln op; first | exact absurd nt (by assumption) | (exfalso; omega) | exact absurd op (by assumption) | (have h8 := zfr sg (i := i) (by omega); obtain ⟨h8a, h8b⟩ := id h8; first | omega | exact absurd (h8.2 j (by omega)) (by assumption)) | exact absurd (by omega) (nk t (by omega)) | skip), rfl⟩⟩
  refine zag 4 rfl (hvQ rfl (lnQ rfl rfl rfl (zap hsv)) ?_)
  refine zdu rfl (zam rfl rfl (fun w hm => zbb (specOpsOk_ans os (rs.length : Int) _ w (hv.below hm.bel)))) (zbz (fun h10 => ?_) (fun h10 => ?_))
  ·
   have h10p := of_pB h10
   refine zag 4 rfl (zdu rfl (zam rfl rfl (fun w hm => zbb (zeb W 1 4 w))) ?_)
   refine zbz (fun h11 => ?_) (fun h11 => ?_)
   ·
    obtain ⟨h11a, h11b⟩ := (zcp _ _ _).1 h11
    refine zbc 2 rfl (zal rfl (zdb (zgk ?_)))
    have hnt : NtOk n := by assumption
    obtain ⟨hi0, hi1, hs1, ha1, ho1⟩ := hnt.nc
    have hcr := zdw hnt
    refine zbc 1 rfl (zbf ?_)
    refine lkQ1 (α := Nat) [0, 1, 2, 3, 4, 8, 9, 10, 37] rfl (fun i => [rowE 3 1 (.slice (some ⟨g3, 0, none⟩) 0 0) 0 ([]), eB9 b2, nB9 b1 n]) (fun i => [(11, .int .i64 (i : Int))]) (fun i => i ≤ rs.length ∧ ∀ r, r < i → (rs.getD r crow0).xs.length ≤ 4 ∧ ∀ k, k < (rs.getD r crow0).xs.length → LtOk ((rs.getD r crow0).xs.getD k 0) n.cnt) (fun i => rs.length - i) 0 ⟨Nat.zero_le _, fun r hr => absurd hr (Nat.not_lt_zero _)⟩ (saQ rfl) (pfQ rfl) ?_
    intro i hi12
    obtain ⟨hi, hq⟩ := hi12
    refine zac (zac (reQ 2 rfl (hvQ rfl (lnQ rfl rfl rfl (zap hsv)) ?_)))
    refine zcb rfl rfl rfl rfl rfl rfl (fun h13 => ?_) (fun h13 => ?_)
    ·
     refine ntQ (zaj rfl (zdb (sbQ (zac (zac (reQ 2 rfl (hvQ rfl (riQ 1 rfl rfl rfl rfl (zap hsv)) ?_)))))))
     refine hvQ rfl (zba (u := (rs.getD i crow0).v) rfl rfl rfl (zap hsv) (zcv crowC (fun r => r.v) (fun _ => rfl) rs crow0 (show i < _ by omega))) (hvQ rfl (lnQ rfl rfl rfl (fun w hm => (hra.at (k := i) (by omega)).below hm.bel)) ?_)
     refine zeq rfl rfl rfl rfl rfl rfl (fun h14 => ?_) (fun h14 => ?_)
     ·
      refine ntQ (zaj rfl (srQ (hvQ rfl (zar (cs := [.int .i64 n.ins, n.sv, n.av, n.ov]) rfl rfl rfl rfl rfl (zah 2 rfl 0 rfl)) ?_)))
      refine zfg rfl rfl rfl (zam rfl rfl (fun w hm => zec n w (hr.below hm.bel) hS)) ?_
      intro v15 p16 hR17
      obtain ⟨pshR17, mhR17, rfl, rfl, hpshR17, ⟨o1mhR17, o3mhR17⟩, hcphR17⟩ := hR17
      refine zag 1 rfl (zcr (i := 1) rfl (fun ho18 => ?_))
      refine zbm (cs' := #[.int .i64 mhR17.ins, mhR17.sv, mhR17.av, mhR17.ov]) (i := 4) (off := 0) (us := [.int .i64 mhR17.ins, mhR17.sv, mhR17.av, mhR17.ov]) rfl rfl rfl rfl rfl rfl rfl (zaa rfl (zaa o1mhR17 (zaa ho18 (zaa o3mhR17 zbe)))) rfl rfl rfl (zbc 1 rfl ?_)
      refine zak (zad ?_)
      refine zaf (zfv ?_)
      refine zaf (zad ?_)
      refine zcu [rS9 143 3 mhR17.sv mhR17.ss sqC, rS9 141 2 mhR17.av mhR17.gs anC, bigE pshR17, rowE 3 1 (.slice (some ⟨g3, 0, none⟩) 0 0) (([] : List Int).length) (([] : List Int).map (Value.int .i64)), nB9 b2 mhR17, nB9 b1 n] (fun w hm => hm) ?_
      refine zbw (fun w hm => (zao 1 rfl w hm).one) (fun ho9 => ?_)
      refine zaz 6 [4, 3] rfl rfl (by decide) ?_
      refine zbk 1 rfl ?_
      exact zca (rs := [.cell 8 70, .tmp 9]) (vs := [.agg #[.int .i64 mhR17.ins, mhR17.sv, mhR17.av, mhR17.ov], .slice (some ⟨g3, 0, none⟩) 0 0]) (post := [bigE [rowE 3 1 (.slice (some ⟨g3, 0, none⟩) 0 0) (([] : List Int).length) (([] : List Int).map (Value.int .i64))]]) rfl ⟨⟨b2, 0, [.int .i64 mhR17.ins, mhR17.sv, mhR17.av, mhR17.ov], rfl, rfl, by kernel_rfl, by kernel_rfl, zah 1 rfl 0 rfl⟩, rfl, trivial⟩ rfl (slQ [0] rfl) ⟨_, mhR17, _, ([] : List Int), rfl, rfl, fun w hw => zbh (zau hw List.mem_cons_self), ⟨o1mhR17, ho9, o3mhR17⟩, .inr ⟨(fun h9 => by obtain ⟨⟨nt, ln, op, hw, sg, nk⟩, r9, e9⟩ := h9; rw [List.length_map] at ln op; first | exact absurd nt (by assumption) | (exfalso; omega) | exact absurd op (by assumption) | (have h8 := zfr sg (i := i) (by omega); obtain ⟨h8a, h8b⟩ := id h8; first | omega | exact absurd (h8.2 j (by omega)) (by assumption)) | exact absurd (by omega) (nk t (by omega)) | skip), rfl⟩⟩
     refine ntQ (zal rfl (zdb (zbn 1 rfl (zbf ?_))))
     refine lkQ1 (α := Nat) [0, 1, 2, 3, 4, 8, 9, 10, 11, 37, 44, 52] rfl (fun j => [rowE 3 1 (.slice (some ⟨g3, 0, none⟩) 0 0) 0 ([]), eB9 b2, nB9 b1 n]) (fun j => [(12, .int .i64 (j : Int))]) (fun j => j ≤ ((rs.getD i crow0).xs).length ∧ ∀ k, k < j → LtOk (((rs.getD i crow0).xs).getD k 0) n.cnt) (fun j => ((rs.getD i crow0).xs).length - j) 0 ⟨Nat.zero_le _, fun r hr => absurd hr (Nat.not_lt_zero _)⟩ (saQ rfl) (pfQ rfl) ?_
     intro j hi19
     obtain ⟨hj, hqk⟩ := hi19
     refine zac (zac (reQ 3 rfl (hvQ rfl (riQ 1 rfl rfl rfl rfl (zap hsv)) ?_)))
     refine hvQ rfl (zba (u := (rs.getD i crow0).v) rfl rfl rfl (zap hsv) (zcv crowC (fun r => r.v) (fun _ => rfl) rs crow0 (show i < _ by omega))) (hvQ rfl (lnQ rfl rfl rfl (fun w hm => (hra.at (k := i) (by omega)).below hm.bel)) ?_)
     refine zcb rfl rfl rfl rfl rfl rfl (fun h20 => ?_) (fun h20 => ?_)
     ·
      refine ntQ (zaj rfl (zdb (sbQ (zac ?_))))
      rcases Bool.eq_false_or_eq_true (decide (LtOk (((rs.getD i crow0).xs).getD j 0) n.cnt)) with hb21 | hb21
      ·
       have hb21q := of_decide_eq_true hb21
       refine zdp 11 [[], [], [0, 1], [2], [], [3, 4], [5], [], [7], [6, 8], [9]] [65, 66, 67, 68, 69, 70, 71, 72, 73, 74, 75] [sv, .int .i64 (i : Int), elP sv (((i : Int)).toNat * 1), (rs.getD i crow0).v, .int .i64 (j : Int), elP ((rs.getD i crow0).v) (((j : Int)).toNat * 1), .int .i64 (((rs.getD i crow0).xs).getD j 0), .agg #[.int .i64 n.ins, n.sv, n.av, n.ov], .int .i64 n.cnt, .bool true, .bool false] (by kernel_rfl) rfl ?_ ?_
       ·
        exact ⟨iaQ rfl (zax rfl) rfl, iaQ rfl (zax rfl) rfl, iaQ rfl (riQ 1 rfl rfl rfl rfl (zap hsv)) rfl, iaQ rfl (zba (u := (rs.getD i crow0).v) rfl rfl rfl (zap hsv) (zcv crowC (fun r => r.v) (fun _ => rfl) rs crow0 (show i < _ by omega))) rfl, iaQ rfl (zax rfl) rfl, iaQ rfl (riQ 1 rfl rfl rfl rfl (fun w hm => (hra.at (k := i) (by omega)).below hm.bel)) rfl, iaQ rfl (zba (u := .int .i64 (((rs.getD i crow0).xs).getD j 0)) rfl rfl rfl (fun w hm => (hra.at (k := i) (by omega)).below hm.bel) (zcg (show _ < ((rs.getD i crow0).xs).length by omega))) rfl, iaQ rfl (zar (cs := [.int .i64 n.ins, n.sv, n.av, n.ov]) rfl rfl rfl rfl rfl (zah 2 rfl 0 rfl)) rfl, .inl ⟨rfl, zam rfl rfl (fun w hm => zbb (show Calls _ _ _ w (Ans w (.int .i64 n.cnt)) by have h9 := zeh n w (hr.below hm.bel) hS; rw [zfd hnt.nc] at h9; exact h9))⟩, .inl ⟨rfl, rq_cb (zam rfl rfl (fun w hm => zbb (zea (((rs.getD i crow0).xs).getD j 0) n.cnt w (hmx i j)))) hb21⟩, iaQ rfl (zax rfl) rfl, trivial⟩
       simp only [List.drop_succ_cons, List.drop_zero]
       refine ntQ (fsQ rfl (zdn (reQ 1 rfl (hvQ rfl (vaQ rfl rfl rfl) (enQ 1 rfl ?_)))))
       exact zcm (j + 1) ⟨by omega, fun k hk => by by_cases e9 : k = j; (subst e9; assumption); exact hqk k (by omega)⟩ (by omega) (saQ rfl) (pfQ rfl)
      have hb21q := of_decide_eq_false hb21
      refine zdp 11 [[], [], [0, 1], [2], [], [3, 4], [5], [], [7], [6, 8], [9]] [65, 66, 67, 68, 69, 70, 71, 72, 73, 74, 75] [sv, .int .i64 (i : Int), elP sv (((i : Int)).toNat * 1), (rs.getD i crow0).v, .int .i64 (j : Int), elP ((rs.getD i crow0).v) (((j : Int)).toNat * 1), .int .i64 (((rs.getD i crow0).xs).getD j 0), .agg #[.int .i64 n.ins, n.sv, n.av, n.ov], .int .i64 n.cnt, .bool false, .bool true] (by kernel_rfl) rfl ?_ ?_
      ·
       exact ⟨iaQ rfl (zax rfl) rfl, iaQ rfl (zax rfl) rfl, iaQ rfl (riQ 1 rfl rfl rfl rfl (zap hsv)) rfl, iaQ rfl (zba (u := (rs.getD i crow0).v) rfl rfl rfl (zap hsv) (zcv crowC (fun r => r.v) (fun _ => rfl) rs crow0 (show i < _ by omega))) rfl, iaQ rfl (zax rfl) rfl, iaQ rfl (riQ 1 rfl rfl rfl rfl (fun w hm => (hra.at (k := i) (by omega)).below hm.bel)) rfl, iaQ rfl (zba (u := .int .i64 (((rs.getD i crow0).xs).getD j 0)) rfl rfl rfl (fun w hm => (hra.at (k := i) (by omega)).below hm.bel) (zcg (show _ < ((rs.getD i crow0).xs).length by omega))) rfl, iaQ rfl (zar (cs := [.int .i64 n.ins, n.sv, n.av, n.ov]) rfl rfl rfl rfl rfl (zah 2 rfl 0 rfl)) rfl, .inl ⟨rfl, zam rfl rfl (fun w hm => zbb (show Calls _ _ _ w (Ans w (.int .i64 n.cnt)) by have h9 := zeh n w (hr.below hm.bel) hS; rw [zfd hnt.nc] at h9; exact h9))⟩, .inl ⟨rfl, rq_cb (zam rfl rfl (fun w hm => zbb (zea (((rs.getD i crow0).xs).getD j 0) n.cnt w (hmx i j)))) hb21⟩, iaQ rfl (zax rfl) rfl, trivial⟩
      simp only [List.drop_succ_cons, List.drop_zero]
      refine ntQ (zaj rfl (srQ (hvQ rfl (zar (cs := [.int .i64 n.ins, n.sv, n.av, n.ov]) rfl rfl rfl rfl rfl (zah 2 rfl 0 rfl)) ?_)))
      refine zfg rfl rfl rfl (zam rfl rfl (fun w hm => zec n w (hr.below hm.bel) hS)) ?_
      intro v22 p23 hR24
      obtain ⟨pshR24, mhR24, rfl, rfl, hpshR24, ⟨o1mhR24, o3mhR24⟩, hcphR24⟩ := hR24
      refine zag 1 rfl (zcr (i := 1) rfl (fun ho25 => ?_))
      refine zbm (cs' := #[.int .i64 mhR24.ins, mhR24.sv, mhR24.av, mhR24.ov]) (i := 4) (off := 0) (us := [.int .i64 mhR24.ins, mhR24.sv, mhR24.av, mhR24.ov]) rfl rfl rfl rfl rfl rfl rfl (zaa rfl (zaa o1mhR24 (zaa ho25 (zaa o3mhR24 zbe)))) rfl rfl rfl (zbc 1 rfl ?_)
      refine zak (zaf ?_)
      refine zfv ?_
      refine zaf (zaf ?_)
      refine zfv ?_
      refine zaf (zad ?_)
      refine zcu [rS9 143 3 mhR24.sv mhR24.ss sqC, rS9 141 2 mhR24.av mhR24.gs anC, bigE pshR24, rowE 3 1 (.slice (some ⟨g3, 0, none⟩) 0 0) (([] : List Int).length) (([] : List Int).map (Value.int .i64)), nB9 b2 mhR24, nB9 b1 n] (fun w hm => hm) ?_
      refine zbw (fun w hm => (zao 1 rfl w hm).one) (fun ho9 => ?_)
      refine zaz 6 [4, 3] rfl rfl (by decide) ?_
      refine zbk 1 rfl ?_
      exact zca (rs := [.cell 8 70, .tmp 9]) (vs := [.agg #[.int .i64 mhR24.ins, mhR24.sv, mhR24.av, mhR24.ov], .slice (some ⟨g3, 0, none⟩) 0 0]) (post := [bigE [rowE 3 1 (.slice (some ⟨g3, 0, none⟩) 0 0) (([] : List Int).length) (([] : List Int).map (Value.int .i64))]]) rfl ⟨⟨b2, 0, [.int .i64 mhR24.ins, mhR24.sv, mhR24.av, mhR24.ov], rfl, rfl, by kernel_rfl, by kernel_rfl, zah 1 rfl 0 rfl⟩, rfl, trivial⟩ rfl (slQ [0] rfl) ⟨_, mhR24, _, ([] : List Int), rfl, rfl, fun w hw => zbh (zau hw List.mem_cons_self), ⟨o1mhR24, ho9, o3mhR24⟩, .inr ⟨(fun h9 => by obtain ⟨⟨nt, ln, op, hw, sg, nk⟩, r9, e9⟩ := h9; rw [List.length_map] at ln op; first | exact absurd nt (by assumption) | (exfalso; omega) | exact absurd op (by assumption) | (have h8 := zfr sg (i := i) (by omega); obtain ⟨h8a, h8b⟩ := id h8; first | omega | exact absurd (h8.2 j (by omega)) (by assumption)) | exact absurd (by omega) (nk t (by omega)) | skip), rfl⟩⟩
     refine ntQ (zal rfl ?_)
     refine zby (zes ?_)
     refine zat (zdn (reQ 1 rfl (hvQ rfl (vaQ rfl rfl rfl) ?_)))
     have hnt : NtOk n := by assumption
     obtain ⟨hi0, hi1, hs1, ha1, ho1⟩ := hnt.nc
     have hcr := zdw hnt
     refine enQ 1 rfl ?_
     exact zcm (i + 1) ⟨by omega, fun r hr => by by_cases e9 : r = i; (subst e9; exact ⟨by omega, fun k hk => hqk k (by omega)⟩); exact hq r (by omega)⟩ (by omega) (saQ rfl) (pfQ rfl)
    refine ntQ (zal rfl ?_)
    refine zby (zes ?_)
    refine zat (zaw (zac (zbn 1 rfl (zbf ?_))))
    refine lkQ1 (α := Nat) [0, 1, 2, 3, 4, 8, 9, 10, 11, 37, 44] rfl (fun t => [rowE 3 1 (.slice (some ⟨g3, 0, none⟩) 0 0) 0 ([]), eB9 b2, nB9 b1 n]) (fun t => [(13, .int .i64 (t : Int))]) (fun t => t ≤ os.length ∧ ∀ k, k < t → (os.getD k oq0).k ≠ 1) (fun t => os.length - t) 0 ⟨Nat.zero_le _, fun r hr => absurd hr (Nat.not_lt_zero _)⟩ (saQ rfl) (pfQ rfl) ?_
    intro t hi26
    obtain ⟨ht, hqt⟩ := hi26
    refine zac (zac (reQ 2 rfl (hvQ rfl (lnQ rfl rfl rfl (zap hv)) ?_)))
    refine zcb rfl rfl rfl rfl rfl rfl (fun h27 => ?_) (fun h27 => ?_)
    ·
     refine ntQ (zaj rfl (zdb (sbQ (zac (reQ 2 rfl (hvQ rfl (riQ 3 rfl rfl rfl rfl (zap hv)) (hvQ rfl (zde (k0 := 0) rfl rfl rfl (zap hv) (by omega)) ?_)))))))
     refine hvQ rfl (zba (u := .int .i64 ((os.getD t oq0).k)) rfl rfl rfl (zap hv) ((zef oqC 3 (fun _ => rfl) os oq0 (show t < _ by omega) (by decide)).trans rfl)) (zbj rfl rfl rfl rfl rfl rfl (fun h28 => ?_) (fun h28 => ?_))
     ·
      refine ntQ (zaj rfl (srQ (hvQ rfl (zar (cs := [.int .i64 n.ins, n.sv, n.av, n.ov]) rfl rfl rfl rfl rfl (zah 2 rfl 0 rfl)) ?_)))
      refine zfg rfl rfl rfl (zam rfl rfl (fun w hm => zec n w (hr.below hm.bel) hS)) ?_
      intro v29 p30 hR31
      obtain ⟨pshR31, mhR31, rfl, rfl, hpshR31, ⟨o1mhR31, o3mhR31⟩, hcphR31⟩ := hR31
      refine zag 1 rfl (zcr (i := 1) rfl (fun ho32 => ?_))
      refine zbm (cs' := #[.int .i64 mhR31.ins, mhR31.sv, mhR31.av, mhR31.ov]) (i := 4) (off := 0) (us := [.int .i64 mhR31.ins, mhR31.sv, mhR31.av, mhR31.ov]) rfl rfl rfl rfl rfl rfl rfl (zaa rfl (zaa o1mhR31 (zaa ho32 (zaa o3mhR31 zbe)))) rfl rfl rfl (zbc 1 rfl ?_)
      refine zak (zaf ?_)
      refine zfv ?_
      refine zaf (zad ?_)
      refine zcu [rS9 143 3 mhR31.sv mhR31.ss sqC, rS9 141 2 mhR31.av mhR31.gs anC, bigE pshR31, rowE 3 1 (.slice (some ⟨g3, 0, none⟩) 0 0) (([] : List Int).length) (([] : List Int).map (Value.int .i64)), nB9 b2 mhR31, nB9 b1 n] (fun w hm => hm) ?_
      refine zbw (fun w hm => (zao 1 rfl w hm).one) (fun ho9 => ?_)
      refine zaz 6 [4, 3] rfl rfl (by decide) ?_
      refine zbk 1 rfl ?_
      exact zca (rs := [.cell 8 70, .tmp 9]) (vs := [.agg #[.int .i64 mhR31.ins, mhR31.sv, mhR31.av, mhR31.ov], .slice (some ⟨g3, 0, none⟩) 0 0]) (post := [bigE [rowE 3 1 (.slice (some ⟨g3, 0, none⟩) 0 0) (([] : List Int).length) (([] : List Int).map (Value.int .i64))]]) rfl ⟨⟨b2, 0, [.int .i64 mhR31.ins, mhR31.sv, mhR31.av, mhR31.ov], rfl, rfl, by kernel_rfl, by kernel_rfl, zah 1 rfl 0 rfl⟩, rfl, trivial⟩ rfl (slQ [0] rfl) ⟨_, mhR31, _, ([] : List Int), rfl, rfl, fun w hw => zbh (zau hw List.mem_cons_self), ⟨o1mhR31, ho9, o3mhR31⟩, .inr ⟨(fun h9 => by obtain ⟨⟨nt, ln, op, hw, sg, nk⟩, r9, e9⟩ := h9; rw [List.length_map] at ln op; first | exact absurd nt (by assumption) | (exfalso; omega) | exact absurd op (by assumption) | (have h8 := zfr sg (i := i) (by omega); obtain ⟨h8a, h8b⟩ := id h8; first | omega | exact absurd (h8.2 j (by omega)) (by assumption)) | exact absurd (by omega) (nk t (by omega)) | skip), rfl⟩⟩
     refine ntQ (fsQ rfl (zdn (reQ 1 rfl (hvQ rfl (vaQ rfl rfl rfl) (enQ 1 rfl ?_)))))
     exact zcm (t + 1) ⟨by omega, fun k hk => by by_cases e9 : k = t; (subst e9; omega); exact hqt k (by omega)⟩ (by omega) (saQ rfl) (pfQ rfl)
    refine ntQ (zal rfl ?_)
    refine zby (zes ?_)
    refine zat (zaw (srQ ?_))
    have hAx : AxP n (rs.map CRow.xs) os W := ⟨by assumption, by rw [List.length_map]; omega, by rw [List.length_map]; assumption, by omega, sg_ofX (fun r hr => hq r (by omega)), fun k hk => hqt k (by omega)⟩
    have hopsp := hAx.op
    rw [List.length_map] at hopsp
    refine hvQ rfl (zar (cs := [.int .i64 n.ins, n.sv, n.av, n.ov]) rfl rfl rfl rfl rfl (zah 2 rfl 0 rfl)) (zag 3 rfl ?_)
    refine zfg rfl rfl rfl (zam rfl rfl (fun w hm => l11Expr_I n rs os sv vO W w hAx.w (by rw [List.length_map]; exact hopsp) hAx.nk (hr.below hm.bel) hAx.nt hAx.sg (hsv.below hm.bel) (hra.sub9 hm.bel) (hv.below hm.bel))) ?_
    intro v33 p34 hR35
    obtain ⟨pshR35, mhR35, zvhR35, zshR35, rfl, rfl, hNmhR35, ⟨o1mhR35, o2mhR35, o3mhR35⟩, GmhR35, zlhR35, zbhR35, zehR35⟩ := hR35
    refine zag 4 rfl (zed rfl (zcc (z := .agg #[.int .i64 0, .slice none 0 0, .slice none 0 0, .slice none 0 0]) rfl rfl) ?_)
    intro b36
    refine zbm (cs' := #[.int .i64 mhR35.ins, mhR35.sv, mhR35.av, mhR35.ov]) (i := 0) (off := 0) (us := [.int .i64 mhR35.ins, mhR35.sv, mhR35.av, mhR35.ov]) rfl rfl rfl rfl rfl rfl rfl (zaa rfl (zaa o1mhR35 (zaa o2mhR35 (zaa o3mhR35 zbe)))) rfl rfl rfl (zbc 2 rfl (zac (zac (reQ 1 rfl ?_))))
    refine zdu rfl (zam rfl rfl (fun w hm => zbb (l11Right_ans zshR35 _ w ((zao 2 rfl) w hm) (by omega)))) (zbz (fun h37 => ?_) (fun h37 => ?_))
    ·
     have h37p := of_pB h37
     refine zbc 1 rfl (zal rfl (zdb (srQ (hvQ rfl (zar (cs := [.int .i64 mhR35.ins, mhR35.sv, mhR35.av, mhR35.ov]) rfl rfl rfl rfl rfl (zah 0 rfl 0 rfl)) ?_))))
     refine zfg rfl rfl rfl (zam rfl rfl (fun w hm => zec mhR35 w (rd_or hNmhR35 (hr.below hm.bel) (hm.holds _ (zbr (i := 1) rfl))) GmhR35.ok.sm)) ?_
     intro v38 p39 hR40
     obtain ⟨pshR40, mhR40, rfl, rfl, hpshR40, ⟨o1mhR40, o3mhR40⟩, hcphR40⟩ := hR40
     refine zag 1 rfl (zcr (i := 1) rfl (fun ho41 => ?_))
     refine zbm (cs' := #[.int .i64 mhR40.ins, mhR40.sv, mhR40.av, mhR40.ov]) (i := 7) (off := 0) (us := [.int .i64 mhR40.ins, mhR40.sv, mhR40.av, mhR40.ov]) rfl rfl rfl rfl rfl rfl rfl (zaa rfl (zaa o1mhR40 (zaa ho41 (zaa o3mhR40 zbe)))) rfl rfl rfl (zbc 1 rfl ?_)
     refine zak (zbw (fun w hm => (zao 1 rfl w hm).one) (fun ho9 => ?_))
     refine zaz 9 [7, 5] rfl rfl (by decide) ?_
     refine zbk 1 rfl ?_
     exact zca (rs := [.cell 8 70, .tmp 9]) (vs := [.agg #[.int .i64 mhR40.ins, mhR40.sv, mhR40.av, mhR40.ov], zvhR35]) (post := [bigE [rI9 3 zvhR35 zshR35]]) rfl ⟨⟨b2, 0, [.int .i64 mhR40.ins, mhR40.sv, mhR40.av, mhR40.ov], rfl, rfl, by kernel_rfl, by kernel_rfl, zah 1 rfl 0 rfl⟩, rfl, trivial⟩ rfl (slQ [0] rfl) ⟨_, mhR40, _, zshR35, rfl, rfl, fun w hw => zbh (zau hw List.mem_cons_self), ⟨o1mhR40, ho9, o3mhR40⟩, .inl ⟨_, hAx, zehR35.pos (fun h9 => h9 (by assumption)), zlhR35⟩⟩
    have h37p := of_pBn h37
    refine zbc 1 rfl (zaj rfl (srQ (hvQ rfl (zar (cs := [.int .i64 n.ins, n.sv, n.av, n.ov]) rfl rfl rfl rfl rfl (zah 5 rfl 0 rfl)) ?_)))
    refine zfg rfl rfl rfl (zam rfl rfl (fun w hm => zec n w (hr.below hm.bel) hS)) ?_
    intro v42 p43 hR44
    obtain ⟨pshR44, mhR44, rfl, rfl, hpshR44, ⟨o1mhR44, o3mhR44⟩, hcphR44⟩ := hR44
    refine zag 1 rfl (zcr (i := 1) rfl (fun ho45 => ?_))
    refine zbm (cs' := #[.int .i64 mhR44.ins, mhR44.sv, mhR44.av, mhR44.ov]) (i := 7) (off := 0) (us := [.int .i64 mhR44.ins, mhR44.sv, mhR44.av, mhR44.ov]) rfl rfl rfl rfl rfl rfl rfl (zaa rfl (zaa o1mhR44 (zaa ho45 (zaa o3mhR44 zbe)))) rfl rfl rfl (zbc 1 rfl ?_)
    refine zak (zad ?_)
    refine zcu [rS9 143 3 mhR44.sv mhR44.ss sqC, rS9 141 2 mhR44.av mhR44.gs anC, bigE pshR44, nB9 b36 mhR35, bigE pshR35, rI9 3 zvhR35 zshR35, rowE 3 1 (.slice (some ⟨g3, 0, none⟩) 0 0) (([] : List Int).length) (([] : List Int).map (Value.int .i64)), nB9 b2 mhR44, nB9 b1 n] (fun w hm => hm) ?_
    refine zbw (fun w hm => (zao 1 rfl w hm).one) (fun ho9 => ?_)
    refine zaz 9 [7, 6] rfl rfl (by decide) ?_
    refine zbk 1 rfl ?_
    exact zca (rs := [.cell 8 70, .tmp 9]) (vs := [.agg #[.int .i64 mhR44.ins, mhR44.sv, mhR44.av, mhR44.ov], .slice (some ⟨g3, 0, none⟩) 0 0]) (post := [bigE [rowE 3 1 (.slice (some ⟨g3, 0, none⟩) 0 0) (([] : List Int).length) (([] : List Int).map (Value.int .i64))]]) rfl ⟨⟨b2, 0, [.int .i64 mhR44.ins, mhR44.sv, mhR44.av, mhR44.ov], rfl, rfl, by kernel_rfl, by kernel_rfl, zah 1 rfl 0 rfl⟩, rfl, trivial⟩ rfl (slQ [0] rfl) ⟨_, mhR44, _, ([] : List Int), rfl, rfl, fun w hw => zbh (zau hw List.mem_cons_self), ⟨o1mhR44, ho9, o3mhR44⟩, .inr ⟨(fun h9 => by obtain ⟨⟨nt, ln, op, hw, sg, nk⟩, r9, e9⟩ := h9; rw [List.length_map] at ln op; first | exact absurd nt (by assumption) | (exfalso; omega) | exact absurd op (by assumption) | (have h8 := zfr sg (i := i) (by omega); obtain ⟨h8a, h8b⟩ := id h8; first | omega | exact absurd (h8.2 j (by omega)) (by assumption)) | exact absurd (by omega) (nk t (by omega)) | (have h8 := zehR35.neg (by assumption); rw [h8] at e9; cases e9)), rfl⟩⟩
   have h11a := zdy h11
   refine zbc 2 rfl (zaj rfl (srQ (hvQ rfl (zar (cs := [.int .i64 n.ins, n.sv, n.av, n.ov]) rfl rfl rfl rfl rfl (zah 2 rfl 0 rfl)) ?_)))
   refine zfg rfl rfl rfl (zam rfl rfl (fun w hm => zec n w (hr.below hm.bel) hS)) ?_
   intro v46 p47 hR48
   obtain ⟨pshR48, mhR48, rfl, rfl, hpshR48, ⟨o1mhR48, o3mhR48⟩, hcphR48⟩ := hR48
   refine zag 1 rfl (zcr (i := 1) rfl (fun ho49 => ?_))
   refine zbm (cs' := #[.int .i64 mhR48.ins, mhR48.sv, mhR48.av, mhR48.ov]) (i := 4) (off := 0) (us := [.int .i64 mhR48.ins, mhR48.sv, mhR48.av, mhR48.ov]) rfl rfl rfl rfl rfl rfl rfl (zaa rfl (zaa o1mhR48 (zaa ho49 (zaa o3mhR48 zbe)))) rfl rfl rfl (zbc 1 rfl ?_)
   refine zak (zad ?_)
   refine zcu [rS9 143 3 mhR48.sv mhR48.ss sqC, rS9 141 2 mhR48.av mhR48.gs anC, bigE pshR48, rowE 3 1 (.slice (some ⟨g3, 0, none⟩) 0 0) (([] : List Int).length) (([] : List Int).map (Value.int .i64)), nB9 b2 mhR48, nB9 b1 n] (fun w hm => hm) ?_
   refine zbw (fun w hm => (zao 1 rfl w hm).one) (fun ho9 => ?_)
   refine zaz 6 [4, 3] rfl rfl (by decide) ?_
   refine zbk 1 rfl ?_
   exact zca (rs := [.cell 8 70, .tmp 9]) (vs := [.agg #[.int .i64 mhR48.ins, mhR48.sv, mhR48.av, mhR48.ov], .slice (some ⟨g3, 0, none⟩) 0 0]) (post := [bigE [rowE 3 1 (.slice (some ⟨g3, 0, none⟩) 0 0) (([] : List Int).length) (([] : List Int).map (Value.int .i64))]]) rfl ⟨⟨b2, 0, [.int .i64 mhR48.ins, mhR48.sv, mhR48.av, mhR48.ov], rfl, rfl, by kernel_rfl, by kernel_rfl, zah 1 rfl 0 rfl⟩, rfl, trivial⟩ rfl (slQ [0] rfl) ⟨_, mhR48, _, ([] : List Int), rfl, rfl, fun w hw => zbh (zau hw List.mem_cons_self), ⟨o1mhR48, ho9, o3mhR48⟩, .inr ⟨(fun h9 => by obtain ⟨⟨nt, ln, op, hw, sg, nk⟩, r9, e9⟩ := h9; rw [List.length_map] at ln op; first | exact absurd nt (by assumption) | (exfalso; omega) | exact absurd op (by assumption) | (have h8 := zfr sg (i := i) (by omega); obtain ⟨h8a, h8b⟩ := id h8; first | omega | exact absurd (h8.2 j (by omega)) (by assumption)) | exact absurd (by omega) (nk t (by omega)) | (have h8 := zehR35.neg (by assumption); rw [h8] at e9; cases e9)), rfl⟩⟩
  have h10p := of_pBn h10
  refine zbc 7 rfl (zaj rfl (srQ (hvQ rfl (zar (cs := [.int .i64 n.ins, n.sv, n.av, n.ov]) rfl rfl rfl rfl rfl (zah 2 rfl 0 rfl)) ?_)))
  refine zfg rfl rfl rfl (zam rfl rfl (fun w hm => zec n w (hr.below hm.bel) hS)) ?_
  intro v50 p51 hR52
  obtain ⟨pshR52, mhR52, rfl, rfl, hpshR52, ⟨o1mhR52, o3mhR52⟩, hcphR52⟩ := hR52
  refine zag 1 rfl (zcr (i := 1) rfl (fun ho53 => ?_))
  refine zbm (cs' := #[.int .i64 mhR52.ins, mhR52.sv, mhR52.av, mhR52.ov]) (i := 4) (off := 0) (us := [.int .i64 mhR52.ins, mhR52.sv, mhR52.av, mhR52.ov]) rfl rfl rfl rfl rfl rfl rfl (zaa rfl (zaa o1mhR52 (zaa ho53 (zaa o3mhR52 zbe)))) rfl rfl rfl (zbc 1 rfl ?_)
  refine zak (zad ?_)
  refine zcu [rS9 143 3 mhR52.sv mhR52.ss sqC, rS9 141 2 mhR52.av mhR52.gs anC, bigE pshR52, rowE 3 1 (.slice (some ⟨g3, 0, none⟩) 0 0) (([] : List Int).length) (([] : List Int).map (Value.int .i64)), nB9 b2 mhR52, nB9 b1 n] (fun w hm => hm) ?_
  refine zbw (fun w hm => (zao 1 rfl w hm).one) (fun ho9 => ?_)
  refine zaz 6 [4, 3] rfl rfl (by decide) ?_
  refine zbk 1 rfl ?_
  exact zca (rs := [.cell 8 70, .tmp 9]) (vs := [.agg #[.int .i64 mhR52.ins, mhR52.sv, mhR52.av, mhR52.ov], .slice (some ⟨g3, 0, none⟩) 0 0]) (post := [bigE [rowE 3 1 (.slice (some ⟨g3, 0, none⟩) 0 0) (([] : List Int).length) (([] : List Int).map (Value.int .i64))]]) rfl ⟨⟨b2, 0, [.int .i64 mhR52.ins, mhR52.sv, mhR52.av, mhR52.ov], rfl, rfl, by kernel_rfl, by kernel_rfl, zah 1 rfl 0 rfl⟩, rfl, trivial⟩ rfl (slQ [0] rfl) ⟨_, mhR52, _, ([] : List Int), rfl, rfl, fun w hw => zbh (zau hw List.mem_cons_self), ⟨o1mhR52, ho9, o3mhR52⟩, .inr ⟨(fun h9 => by obtain ⟨⟨nt, ln, op, hw, sg, nk⟩, r9, e9⟩ := h9; rw [List.length_map] at ln op; first | exact absurd nt (by assumption) | (exfalso; omega) | exact absurd op (by assumption) | (have h8 := zfr sg (i := i) (by omega); obtain ⟨h8a, h8b⟩ := id h8; first | omega | exact absurd (h8.2 j (by omega)) (by assumption)) | exact absurd (by omega) (nk t (by omega)) | (have h8 := zehR35.neg (by assumption); rw [h8] at e9; cases e9)), rfl⟩⟩
 have h4p := of_pBn h4
 refine zbc 18 rfl (zaj rfl (zac ?_))
 refine zav (hvQ rfl (zar (cs := [.int .i64 n.ins, n.sv, n.av, n.ov]) rfl rfl rfl rfl rfl (zah 2 rfl 0 rfl)) ?_)
 refine zfg rfl rfl rfl (zam rfl rfl (fun w hm => zec n w (hr.below hm.bel) hS)) ?_
 intro v54 p55 hR56
 obtain ⟨pshR56, mhR56, rfl, rfl, hpshR56, ⟨o1mhR56, o3mhR56⟩, hcphR56⟩ := hR56
 refine zag 1 rfl (zcr (i := 1) rfl (fun ho57 => ?_))
 refine zbm (cs' := #[.int .i64 mhR56.ins, mhR56.sv, mhR56.av, mhR56.ov]) (i := 4) (off := 0) (us := [.int .i64 mhR56.ins, mhR56.sv, mhR56.av, mhR56.ov]) rfl rfl rfl rfl rfl rfl rfl (zaa rfl (zaa o1mhR56 (zaa ho57 (zaa o3mhR56 zbe)))) rfl rfl rfl (zbc 1 rfl ?_)
 refine zak (zad ?_)
 refine zcu [rS9 143 3 mhR56.sv mhR56.ss sqC, rS9 141 2 mhR56.av mhR56.gs anC, bigE pshR56, rowE 3 1 (.slice (some ⟨g3, 0, none⟩) 0 0) (([] : List Int).length) (([] : List Int).map (Value.int .i64)), nB9 b2 mhR56, nB9 b1 n] (fun w hm => hm) ?_
 refine zbw (fun w hm => (zao 1 rfl w hm).one) (fun ho9 => ?_)
 refine zaz 6 [4, 3] rfl rfl (by decide) ?_
 refine zbk 1 rfl ?_
 exact zca (rs := [.cell 8 70, .tmp 9]) (vs := [.agg #[.int .i64 mhR56.ins, mhR56.sv, mhR56.av, mhR56.ov], .slice (some ⟨g3, 0, none⟩) 0 0]) (post := [bigE [rowE 3 1 (.slice (some ⟨g3, 0, none⟩) 0 0) (([] : List Int).length) (([] : List Int).map (Value.int .i64))]]) rfl ⟨⟨b2, 0, [.int .i64 mhR56.ins, mhR56.sv, mhR56.av, mhR56.ov], rfl, rfl, by kernel_rfl, by kernel_rfl, zah 1 rfl 0 rfl⟩, rfl, trivial⟩ rfl (slQ [0] rfl) ⟨_, mhR56, _, ([] : List Int), rfl, rfl, fun w hw => zbh (zau hw List.mem_cons_self), ⟨o1mhR56, ho9, o3mhR56⟩, .inr ⟨(fun h9 => by obtain ⟨⟨nt, ln, op, hw, sg, nk⟩, r9, e9⟩ := h9; rw [List.length_map] at ln op; first | exact absurd nt (by assumption) | (exfalso; omega) | exact absurd op (by assumption) | (have h8 := zfr sg (i := i) (by omega); obtain ⟨h8a, h8b⟩ := id h8; first | omega | exact absurd (h8.2 j (by omega)) (by assumption)) | exact absurd (by omega) (nk t (by omega)) | (have h8 := zehR35.neg (by assumption); rw [h8] at e9; cases e9)), rfl⟩⟩
theorem gD_left {α : Type} {a b : List α} {d : α} {i : Nat} (h : i < a.length) : (a ++ b).getD i d = a.getD i d := by
  rw [List.getD_eq_getElem?_getD, List.getElem?_append_left h, ← List.getD_eq_getElem?_getD]
theorem gD_right {α : Type} {a b : List α} {d : α} {i : Nat} : (a ++ b).getD (a.length + i) d = b.getD i d := by
  rw [List.getD_eq_getElem?_getD, List.getElem?_append_right (by omega), Nat.add_sub_cancel_left, ← List.getD_eq_getElem?_getD]
theorem needK_left (P E : List Oq) : ∀ i, i ≤ P.length → needK (P ++ E) i = needK P i
  | 0, _ => rfl
  | i + 1, h => by
    show needK (P ++ E) i + (arI ((P ++ E).getD i oq0).k - 1) = _
    rw [needK_left P E i (by omega), gD_left (by omega)]; rfl
theorem needK_right (P E : List Oq) : ∀ i, i ≤ E.length → needK (P ++ E) (P.length + i) = needK P P.length + needK E i - 1
  | 0, _ => by rw [Nat.add_zero, needK_left P E _ (Nat.le_refl _)]; show _ = _ + 1 - 1; omega
  | i + 1, h => by
    show needK (P ++ E) (P.length + i) + (arI ((P ++ E).getD (P.length + i) oq0).k - 1) = _
    rw [needK_right P E i (by omega), gD_right]
    show _ = needK P P.length + (needK E i + (arI (E.getD i oq0).k - 1)) - 1
    omega
def PartP (n : Int) (P : List Oq) (c : Int) : Prop := (∀ i, i < P.length → 1 ≤ needK P i ∧ OqP n (P.getD i oq0)) ∧ needK P P.length = c
theorem PartP.one {n : Int} {o : Oq} (h : OqP n o) : PartP n [o] (arI o.k) := ⟨fun i hi => by
  have : i = 0 := by have : i < 1 := hi; omega
  subst this; exact ⟨by show (1 : Int) ≤ 1; omega, h⟩, by show 1 + (arI o.k - 1) = _; omega⟩
theorem PartP.app {n : Int} {P E : List Oq} {c : Int} (h : PartP n P c) (hc : 1 ≤ c) (hE : PartP n E 0) : PartP n (P ++ E) (c - 1) := ⟨fun i hi => by
  rw [List.length_append] at hi
  by_cases e : i < P.length
  · rw [needK_left _ _ _ (by omega), gD_left e]; exact h.1 i e
  · obtain ⟨j, rfl⟩ : ∃ j, i = P.length + j := ⟨i - P.length, by omega⟩
    rw [needK_right _ _ _ (by omega), gD_right, h.2]
    have := hE.1 j (by omega)
    exact ⟨by omega, this.2⟩, by
  rw [List.length_append, needK_right _ _ _ (Nat.le_refl _), h.2, hE.2]; omega⟩
theorem stepQ (a q : Int) (k : Nat) : (a - ((k + 1 : Nat) : Int)) * q = (a - (k : Int)) * q - q := by
  rw [show a - ((k + 1 : Nat) : Int) = (a - (k : Int)) - 1 by omega, Int.sub_mul, Int.one_mul]
theorem arKind {x : Int} (h : x ∈ ([4, 5, 6, 7, 8, 9, 10, 11, 12, 7, 12] : List Int)) : 4 ≤ x ∧ x ≤ 12 := by
  simp only [List.mem_cons, List.not_mem_nil, or_false] at h; omega
theorem arI_op {x : Int} (h : 4 ≤ x ∧ x ≤ 12) : 1 ≤ arI x ∧ arI x ≤ 3 := by unfold arI; (repeat' split) <;> omega
def ExP (n M : Int) (os : List Oq) : Prop := PartP n os 0 ∧ 1 ≤ os.length ∧ (os.length : Int) ≤ M
theorem zdm {n M : Int} {o : Oq} (h : OqP n o) (ha : arI o.k = 0) (hM : 1 ≤ M) : ExP n M [o] := ⟨by have := PartP.one h; rwa [ha] at this, by simp, by simpa using hM⟩
theorem flat_onesD {α : Type} (f : α → List Value) (xs : List α) (h : ∀ r u, u ∈ f r → u.oneCell' = true) : ∀ q ∈ xs.flatMap f, q.oneCell' = true := fun q hq => by
  obtain ⟨r, -, h2⟩ := List.mem_flatMap.1 hq
  exact h r q h2
theorem flat_app {α : Type} (f : α → List Value) (xs ys : List α) : xs.flatMap f ++ ys.flatMap f = (xs ++ ys).flatMap f := List.flatMap_append.symm
theorem exStart (n : Int) {M x : Int} (hx : 4 ≤ x ∧ x ≤ 12) : PartP n [Oq.mk x 0 0] (arI x - ((0 : Nat) : Int)) ∧ 1 ≤ ([Oq.mk x 0 0] : List Oq).length ∧ (([Oq.mk x 0 0] : List Oq).length : Int) + (arI x - ((0 : Nat) : Int)) * ((M - 1) / arI x) ≤ M := by
  have ha := arI_op hx
  have h0 : arI x - ((0 : Nat) : Int) = arI x := by omega
  have h1 : OqP n (Oq.mk x 0 0) := .inr (.inr (.inr ⟨by show x ≠ 0; omega, by show x ≠ 2; omega, by show x ≠ 3; omega, by show 0 ≤ arI x; omega, rfl, rfl⟩))
  rw [h0]
  refine ⟨PartP.one h1, by simp, ?_⟩
  have h2 := Int.mul_ediv_self_le (x := M - 1) (k := arI x) (by omega)
  show (1 : Int) + arI x * ((M - 1) / arI x) ≤ M
  omega
theorem exStep {n M x : Int} {k : Nat} {os es : List Oq} (hx : 4 ≤ x ∧ x ≤ 12) (hk : (k : Int) < arI x) (hP : PartP n os (arI x - (k : Int))) (h1 : 1 ≤ os.length) (hl : (os.length : Int) + (arI x - (k : Int)) * ((M - 1) / arI x) ≤ M) (hE : ExP n ((M - 1) / arI x) es) :
    PartP n (os ++ es) (arI x - ((k + 1 : Nat) : Int)) ∧ 1 ≤ (os ++ es).length ∧ ((os ++ es).length : Int) + (arI x - ((k + 1 : Nat) : Int)) * ((M - 1) / arI x) ≤ M := by
  obtain ⟨e1, e2, e3⟩ := hE
  refine ⟨?_, by rw [List.length_append]; omega, ?_⟩
  · have := hP.app (by omega) e1
    rwa [show arI x - (k : Int) - 1 = arI x - ((k + 1 : Nat) : Int) by omega] at this
  · rw [stepQ, List.length_append]; omega
theorem exEnd {n M x : Int} {k : Nat} {os : List Oq} (hk : (k : Int) = arI x) (hP : PartP n os (arI x - (k : Int))) (h1 : 1 ≤ os.length) (hl : (os.length : Int) + (arI x - (k : Int)) * ((M - 1) / arI x) ≤ M) : ExP n M os := by
  rw [show arI x - (k : Int) = 0 by omega] at hP hl
  rw [Int.zero_mul] at hl
  exact ⟨hP, h1, by omega⟩
theorem exLen {M x : Int} {k : Nat} {os : List Oq} (hx : 4 ≤ x ∧ x ≤ 12) (hM : 1 ≤ M) (hk : (k : Int) ≤ arI x) (hl : (os.length : Int) + (arI x - (k : Int)) * ((M - 1) / arI x) ≤ M) : (os.length : Int) ≤ M := by
  have ha := arI_op hx
  have h1 : 0 ≤ (M - 1) / arI x := Int.ediv_nonneg (by omega) (by omega)
  have h2 := Int.mul_nonneg (show 0 ≤ arI x - (k : Int) by omega) h1
  omega
theorem exQuo {M x : Int} (hx : 4 ≤ x ∧ x ≤ 12) (hM : 4 ≤ M) : 1 ≤ (M - 1) / arI x ∧ (M - 1) / arI x < M := by
  have ha := arI_op hx
  have h1 : (M - 1) / 3 ≤ (M - 1) / arI x := by
    rcases (by omega : arI x = 1 ∨ arI x = 2 ∨ arI x = 3) with e | e | e <;> rw [e] <;> omega
  have h2 : (M - 1) / arI x ≤ M - 1 := by
    rcases (by omega : arI x = 1 ∨ arI x = 2 ∨ arI x = 3) with e | e | e <;> rw [e] <;> omega
  omega
structure BldP (D : List Md) (m : Md) (P : List Int) : Prop where
  sg : ∀ s ∈ m.ss, SgP s
  gs : ∀ g ∈ m.gs, AsP m g
  xs : ∀ x ∈ m.xs, ((0 ≤ x.m ∧ x.m < D.length) ∧ x.ps.length = (ptsK (D.getD x.m.toNat md0)).length) ∧ IxP D m x
  ms : ∀ x ∈ m.ms, MmP m x
  dr : ∀ s, s < m.ss.length → (drvL D m).count (s : Int) = if (m.ss.getD s sg0).k = 0 then 0 else if (s : Int) ∈ P then 0 else 1
  pn : ∀ x ∈ P, 1 ≤ knd m x ∧ knd m x ≤ 3
structure ExtD (m m' : Md) : Prop where
  len : m.ss.length ≤ m'.ss.length
  kk : ∀ i, i < m.ss.length → (m'.ss.getD i sg0).k = (m.ss.getD i sg0).k
def nPt (ss : List Sg) : Nat := (ss.filter isPt).length
structure DmP (D : List Md) (m : Md) : Prop where
  b : BldP D m []
  len : LenP m
  pt : nPt m.ss ≤ 4
structure DdP (D : List Md) : Prop where
  md : ∀ k, k < D.length → DmP (D.take k) (D.getD k md0)
  len : D.length ≤ 3
theorem zfe (g : Nat) (a : Option Addr) (len cap : Nat) (z : List Int) (v : Value) (L : List Int) (w0 : World) (l : List HP) (w : World) (hm0 : Mem w0 (curE g a len cap :: l) w) (hb : BRow .u8 w0 a len cap z) (hv : Rd w0 l v 1 L.length (L.map (Value.int .i64))) (hL : 1 ≤ L.length ∧ L.length ≤ 256) :
   Calls Try.prog 85 #[.pointer (some ⟨g, 0, none⟩), v] w (fun e_ w_ => ∃ v_ p_, e_ = .returned v_ ∧ (fun u_ p_ => (∃ x : Int, u_ = .int .i64 x ∧ x ∈ L) ∧ p_ = curE g a len cap) v_ p_ ∧ Mem w0 (p_ :: l) w_) := by
 refine zdk (N := 12) (args := [.pointer (some ⟨g, 0, none⟩), v]) Try.func85 rfl rfl hm0 (zbn 1 rfl (zac (reQ 3 rfl ?_)))
 refine hvQ rfl (lnQ rfl rfl rfl (fun w hm => hv w (hm.sub (.cons _ (.refl _))))) (zch (R := (fun u_ p_ => (∃ x_ : Int, u_ = .int .i64 x_ ∧ 0 ≤ x_ ∧ x_ < (L.length : Int)) ∧ p_ = curE g a len cap)) 0 rfl rfl rfl rfl rfl (fun l' w hm => zbv g a len cap z (L.length : Int) _ _ _ hm hb (by constructor <;> omega)) ?_)
 intro v1 p2 hR3
 obtain ⟨⟨xhR3, rfl, xhR30, xhR31⟩, rfl⟩ := hR3
 refine zck (l' := (curE g a len cap :: l)) rfl ?_
 refine hvQ rfl (riQ 1 rfl rfl rfl rfl (fun w hm => hv w (hm.sub (.cons _ (.refl _))))) (hvQ rfl (lzQ rfl rfl rfl (fun w hm => hv w (hm.sub (.cons _ (.refl _))))) ?_)
 refine zbc 1 rfl ?_
 exact zak (zcf (rs := [.tmp 4]) (vs := [.int .i64 (L.getD ((xhR3).toNat) 0)]) rfl ⟨rfl, trivial⟩ rfl (fun w hm => ⟨_, curE g a len cap, rfl, ⟨⟨_, rfl, zdj (es := L) (d := 0) (by omega)⟩, rfl⟩, hm.sub (.refl _)⟩))
end Go.Proofs.Ytodiifjigjnalaa
