/- Texts of the law FnLutSteps, part 5: what it uses. -/
import Derived.Test.YtakjndmlanpadaaLup4
set_option linter.unusedVariables false
set_option linter.unusedSimpArgs false
namespace Go.Proofs.Ytakjndmlanpadaa
open Go.RowKit Go.ChangeShapes
open Go.RowKit
set_option maxHeartbeats 4000000 in
set_option maxRecDepth 100000 in
theorem CutOkE_ans (n : Nt) (node : Int) (cut : List Int) (cv : Value) (w : World) (hr : RdsNt w n) (hn : NtOk n) (hcr : RdsW w cv 1 cut.length (cut.map (Value.int .i64))) (hnd : 0 ≤ node ∧ node < n.cnt) (hcl9 : cut.length ≤ 100000) :
   Calls Try.prog 93 #[.agg #[.int .i64 n.ins, n.sv, n.av, n.ov], .int .i64 node, cv] w (Ans w (.bool (pBe (CutP n node cut)))) := by
 have hi0 := hn.i0
 have hi1 := hn.i1
 have hs1 := hn.s1
 have ha1 := hn.a1
 have ho1 := hn.o1
 have hcnt : n.cnt = 1 + n.ins + n.ss.length + n.gs.length := rfl
 have hfst : n.fst = 1 + n.ins + n.ss.length := rfl
 refine zbq (N := 105) (args := [.agg #[.int .i64 n.ins, n.sv, n.av, n.ov], .int .i64 node, cv]) Try.func93 rfl rfl ?_
 refine zbt _ [2, 1, 0] rfl (zaf (zab ?_))
 refine zci rfl rfl rfl (zdd rfl rfl) ?_
 intro b1
 refine zad 1 rfl (zac [6, 3, 2, 1, 0] rfl (zae (zaa (zaf (zaf ?_)))))
 refine zab (hl_v rfl rfl rfl (zbc (cs := [.int .i64 n.ins, n.sv, n.av, n.ov]) rfl (by kernel_rfl) (by kernel_rfl) rfl rfl (zay 0 rfl 0 rfl)) ?_)
 refine zbm rfl rfl rfl (zba (by kernel_rfl) rfl (fun w hm => zbk (zdk n w (hr.below hm.bel) hn))) ?_
 refine zad 3 rfl ?_
 refine zbw rfl rfl rfl rfl rfl rfl (fun h2 => absurd h2 (by omega)) (fun h2 => ?_)
 refine zad 3 rfl (hl_v rfl rfl rfl (zbc (cs := [.int .i64 n.ins, n.sv, n.av, n.ov]) rfl (by kernel_rfl) (by kernel_rfl) rfl rfl (zay 0 rfl 0 rfl)) ?_)
 refine zbm rfl rfl rfl (zba (by kernel_rfl) rfl (fun w hm => zbk (zbs n w (hr.below hm.bel) hn))) ?_
 refine zey rfl rfl rfl rfl rfl rfl (fun h3 => absurd h3 (by omega)) (fun h3 => ?_)
 refine zad 3 rfl (hl_v rfl rfl rfl (zbo rfl Try.underlying26 rfl (zak hcr)) ?_)
 refine zfg rfl rfl rfl rfl rfl rfl (fun h4 => ?_) (fun h4 => ?_)
 ·
  refine zad 1 rfl (zac [29, 6, 3, 2, 1, 0] rfl (zae (zaa (zbb rfl (zaf ?_)))))
  refine zab (zad 1 rfl (zac [29, 6, 3, 2, 1, 0] rfl (zae (zaa ?_))))
  refine zbl ?_
  refine zao ?_
  exact zch rfl rfl (congrArg Value.bool (pBe_no (p := CutP n node cut) (fun h => by have h9 := h.len; omega)).symm)
 refine zad 1 rfl (zac [29, 6, 3, 2, 1, 0] rfl (zae (zaa (zaq rfl (zaz ?_)))))
 refine zaa (zaf (zab (hl_v rfl rfl rfl (zbc (cs := [.int .i64 n.ins, n.sv, n.av, n.ov]) rfl (by kernel_rfl) (by kernel_rfl) rfl rfl (zay 0 rfl 0 rfl)) (zad 1 rfl ?_))))
 refine hl_q rfl rfl rfl (zba (by kernel_rfl) rfl (fun w hm => Cone_ret n node w (hr.below hm.bel) hn hnd)) ?_
 intro v5 p6 hR7
 subst hR7
 have hcl := coneS_len n node (by omega)
 refine zad 1 rfl (zac [29, 7, 6, 3, 2, 1, 0] rfl (zae (zaa (zaf (zaf ?_)))))
 refine zab (zad 1 rfl (zac [29, 8, 7, 6, 3, 2, 1, 0] rfl (zae (zaa (zax ?_)))))
 refine zed (α := Nat) (fun j => [rowE 3 1 v5 ((coneS n node).length) ((coneS n node).map (Value.int .i64)), boxE b1 #[.int .i64 n.ins, n.sv, n.av, n.ov] 101]) (fun j => [(0, .agg #[.int .i64 n.ins, n.sv, n.av, n.ov]), (1, .int .i64 node), (2, cv), (3, .pointer (some ⟨b1, 0, none⟩)), (6, .bool false), (7, v5), (8, .int .i64 (j : Int)), (29, .bool false)]) (fun j => j ≤ cut.length ∧ ∀ i, i < j → ElP n node cut i) (fun j => cut.length - j) 0 ⟨Nat.zero_le _, fun i hi => absurd hi (by omega)⟩ (zan [29, 8, 7, 6, 3, 2, 1, 0] rfl) ((.cons_cons _ (.cons_cons _ .slnil))) ?_
 intro j hi8
 obtain ⟨hj, hel⟩ := hi8
 refine zaf (zaf (zab (zad 2 rfl (hl_v rfl rfl rfl (zbo rfl Try.underlying26 rfl (zak hcr)) ?_))))
 refine zbw rfl rfl rfl rfl rfl rfl (fun h9 => ?_) (fun h9 => ?_)
 ·
  refine zac [36, 29, 8, 7, 6, 3, 2, 1, 0] rfl (zae (zaa (zbb rfl (zaz (zaa ?_)))))
  refine zaf (zax (zaf ?_))
  rcases Bool.eq_false_or_eq_true (hasB (coneS n node) (cut.getD j 0)) with hb10 | hb10
  ·
   rcases Bool.eq_false_or_eq_true (decide (0 < (j : Int))) with hb11 | hb11
   ·
    have hb11p : 0 < (j : Int) := of_decide_eq_true hb11
    rcases Bool.eq_false_or_eq_true (decide (cut.getD j 0 ≤ cut.getD (((j : Int) - 1).toNat) 0)) with hb12 | hb12
    ·
     have hb12p : cut.getD j 0 ≤ cut.getD (((j : Int) - 1).toNat) 0 := of_decide_eq_true hb12
     refine zca 23 [[], [], [], [1, 2], [3], [0, 4], [5], [6], [7], [7, 8], [7, 9], [10], [10], [10, 11, 12], [10, 13], [10], [10], [10, 16], [10, 15, 17], [10, 18], [10, 14, 19], [7, 10, 20], [7, 21]] [39, 40, 41, 42, 43, 44, 45, 46, 47, 48, 49, 50, 51, 52, 53, 54, 55, 56, 57, 58, 59, 60, 61] [v5, cv, .int .i64 (j : Int), elP cv (((j : Int)).toNat * 1), .int .i64 (cut.getD j 0), .bool true, .bool false, .bool false, .int .i64 (j : Int), .bool true, .bool true, cv, .int .i64 (j : Int), elP cv (((j : Int)).toNat * 1), .int .i64 (cut.getD j 0), cv, .int .i64 (j : Int), .int .i64 ((j : Int) - 1), elP cv (((j : Int) - 1).toNat * 1), .int .i64 (cut.getD (((j : Int) - 1).toNat) 0), .bool true, .bool true, .bool true] (by kernel_rfl) rfl ?_ ?_
     ·
      refine ⟨?_, ?_, ?_, ?_, ?_, ?_, ?_, ?_, ?_, ?_, ?_, ?_, ?_, ?_, ?_, ?_, ?_, ?_, ?_, ?_, ?_, ?_, ?_, trivial⟩
      · exact .inl ⟨rfl, zaj (zap rfl) rfl⟩
      · exact .inl ⟨rfl, zaj (zap rfl) rfl⟩
      · exact .inl ⟨rfl, zaj (zap rfl) rfl⟩
      · exact .inl ⟨rfl, zaj (zal (s := 1) rfl Try.underlying26 (by kernel_rfl) rfl rfl (zak hcr) (by omega) (by omega)) rfl⟩
      · exact .inl ⟨rfl, zaj (zam (u := .int .i64 (cut.getD j 0)) rfl (by kernel_rfl) rfl (zak hcr) (zbg (show _ < cut.length by omega))) rfl⟩
      · exact .inl ⟨rfl, rq_cb (zba (by kernel_rfl) rfl (fun w hm => zbk (zeh (coneS n node) (cut.getD j 0) _ w ((zas 0 rfl) w hm) (by omega)))) hb10⟩
      · exact .inl ⟨rfl, zaj (zap rfl) rfl⟩
      · exact .inl ⟨rfl, zaj (zap rfl) rfl⟩
      · exact .inl ⟨rfl, zaj (zap rfl) rfl⟩
      · exact .inl ⟨rfl, zdg (zcq rfl rfl rfl rfl) hb11⟩
      · exact .inl ⟨rfl, zaj (zap rfl) rfl⟩
      · exact .inl ⟨rfl, zaj (zap rfl) rfl⟩
      · exact .inl ⟨rfl, zaj (zap rfl) rfl⟩
      · exact .inl ⟨rfl, zaj (zal (s := 1) rfl Try.underlying26 (by kernel_rfl) rfl rfl (zak hcr) (by omega) (by omega)) rfl⟩
      · exact .inl ⟨rfl, zaj (zam (u := .int .i64 (cut.getD j 0)) rfl (by kernel_rfl) rfl (zak hcr) (zbg (show _ < cut.length by omega))) rfl⟩
      · exact .inl ⟨rfl, zaj (zap rfl) rfl⟩
      · exact .inl ⟨rfl, zaj (zap rfl) rfl⟩
      · exact .inl ⟨rfl, zaj (zdb rfl rfl rfl (by constructor <;> omega)) rfl⟩
      · exact .inl ⟨rfl, zaj (zal (s := 1) rfl Try.underlying26 (by kernel_rfl) rfl rfl (zak hcr) (by omega) (by omega)) rfl⟩
      · exact .inl ⟨rfl, zaj (zam (u := .int .i64 (cut.getD (((j : Int) - 1).toNat) 0)) rfl (by kernel_rfl) rfl (zak hcr) (zbg (show _ < cut.length by omega))) rfl⟩
      · exact .inl ⟨rfl, zdg (zcq rfl rfl rfl rfl) hb12⟩
      · exact .inl ⟨rfl, zaj (zap rfl) rfl⟩
      exact .inl ⟨rfl, zaj (zap rfl) rfl⟩
     refine zac [61, 36, 29, 8, 7, 6, 3, 2, 1, 0] rfl ?_
     simp only [List.drop_succ_cons, List.drop_zero]
     refine zac [61, 36, 29, 8, 7, 6, 3, 2, 1, 0] rfl (zae (zaa (zbb rfl (zaf (zab ?_)))))
     refine zad 1 rfl (zac [61, 36, 29, 8, 7, 6, 3, 2, 1, 0] rfl (zae (zaa ?_)))
     refine zbl ?_
     refine zbf ?_
     refine zao (zao ?_)
     refine zbf ?_
     refine zao ?_
     exact zch rfl rfl (congrArg Value.bool (pBe_no (p := CutP n node cut) (fun h => elP_no (by first | exact .inl (by assumption) | exact .inr ⟨by omega, by omega⟩) (h.el j (by omega)))).symm)
    have hb12p : ¬ (cut.getD j 0 ≤ cut.getD (((j : Int) - 1).toNat) 0) := of_decide_eq_false hb12
    refine zca 23 [[], [], [], [1, 2], [3], [0, 4], [5], [6], [7], [7, 8], [7, 9], [10], [10], [10, 11, 12], [10, 13], [10], [10], [10, 16], [10, 15, 17], [10, 18], [10, 14, 19], [7, 10, 20], [7, 21]] [39, 40, 41, 42, 43, 44, 45, 46, 47, 48, 49, 50, 51, 52, 53, 54, 55, 56, 57, 58, 59, 60, 61] [v5, cv, .int .i64 (j : Int), elP cv (((j : Int)).toNat * 1), .int .i64 (cut.getD j 0), .bool true, .bool false, .bool false, .int .i64 (j : Int), .bool true, .bool true, cv, .int .i64 (j : Int), elP cv (((j : Int)).toNat * 1), .int .i64 (cut.getD j 0), cv, .int .i64 (j : Int), .int .i64 ((j : Int) - 1), elP cv (((j : Int) - 1).toNat * 1), .int .i64 (cut.getD (((j : Int) - 1).toNat) 0), .bool false, .bool false, .bool false] (by kernel_rfl) rfl ?_ ?_
    ·
     refine ⟨?_, ?_, ?_, ?_, ?_, ?_, ?_, ?_, ?_, ?_, ?_, ?_, ?_, ?_, ?_, ?_, ?_, ?_, ?_, ?_, ?_, ?_, ?_, trivial⟩
     · exact .inl ⟨rfl, zaj (zap rfl) rfl⟩
     · exact .inl ⟨rfl, zaj (zap rfl) rfl⟩
     · exact .inl ⟨rfl, zaj (zap rfl) rfl⟩
     · exact .inl ⟨rfl, zaj (zal (s := 1) rfl Try.underlying26 (by kernel_rfl) rfl rfl (zak hcr) (by omega) (by omega)) rfl⟩
     · exact .inl ⟨rfl, zaj (zam (u := .int .i64 (cut.getD j 0)) rfl (by kernel_rfl) rfl (zak hcr) (zbg (show _ < cut.length by omega))) rfl⟩
     · exact .inl ⟨rfl, rq_cb (zba (by kernel_rfl) rfl (fun w hm => zbk (zeh (coneS n node) (cut.getD j 0) _ w ((zas 0 rfl) w hm) (by omega)))) hb10⟩
     · exact .inl ⟨rfl, zaj (zap rfl) rfl⟩
     · exact .inl ⟨rfl, zaj (zap rfl) rfl⟩
     · exact .inl ⟨rfl, zaj (zap rfl) rfl⟩
     · exact .inl ⟨rfl, zdg (zcq rfl rfl rfl rfl) hb11⟩
     · exact .inl ⟨rfl, zaj (zap rfl) rfl⟩
     · exact .inl ⟨rfl, zaj (zap rfl) rfl⟩
     · exact .inl ⟨rfl, zaj (zap rfl) rfl⟩
     · exact .inl ⟨rfl, zaj (zal (s := 1) rfl Try.underlying26 (by kernel_rfl) rfl rfl (zak hcr) (by omega) (by omega)) rfl⟩
     · exact .inl ⟨rfl, zaj (zam (u := .int .i64 (cut.getD j 0)) rfl (by kernel_rfl) rfl (zak hcr) (zbg (show _ < cut.length by omega))) rfl⟩
     · exact .inl ⟨rfl, zaj (zap rfl) rfl⟩
     · exact .inl ⟨rfl, zaj (zap rfl) rfl⟩
     · exact .inl ⟨rfl, zaj (zdb rfl rfl rfl (by constructor <;> omega)) rfl⟩
     · exact .inl ⟨rfl, zaj (zal (s := 1) rfl Try.underlying26 (by kernel_rfl) rfl rfl (zak hcr) (by omega) (by omega)) rfl⟩
     · exact .inl ⟨rfl, zaj (zam (u := .int .i64 (cut.getD (((j : Int) - 1).toNat) 0)) rfl (by kernel_rfl) rfl (zak hcr) (zbg (show _ < cut.length by omega))) rfl⟩
     · exact .inl ⟨rfl, zdg (zcq rfl rfl rfl rfl) hb12⟩
     · exact .inl ⟨rfl, zaj (zap rfl) rfl⟩
     exact .inl ⟨rfl, zaj (zap rfl) rfl⟩
    refine zac [61, 36, 29, 8, 7, 6, 3, 2, 1, 0] rfl ?_
    simp only [List.drop_succ_cons, List.drop_zero]
    refine zac [61, 36, 29, 8, 7, 6, 3, 2, 1, 0] rfl (zae (zaa (zaq rfl (zaz (zai ?_)))))
    refine zaa (zab (zad 1 rfl (hl_v rfl rfl rfl (zbj rfl rfl rfl (by constructor <;> omega)) (zad 1 rfl (zac [61, 36, 29, 8, 7, 6, 3, 2, 1, 0] rfl ?_)))))
    refine zae ?_
    exact zdh (j + 1) ⟨by omega, fun i hi => by by_cases e : i = j; (subst e; exact elP_yes (by assumption) (by first | exact .inl (by omega) | exact .inr (by omega))); exact hel i (by omega)⟩ (by omega) (zan [29, 8, 7, 6, 3, 2, 1, 0] rfl) ((.cons_cons _ (.cons_cons _ .slnil)))
   have hb11p : ¬ (0 < (j : Int)) := of_decide_eq_false hb11
   refine zca 23 [[], [], [], [1, 2], [3], [0, 4], [5], [6], [7], [7, 8], [7, 9], [10], [10], [10], [10], [10], [10], [10], [10], [10], [10], [7, 10, 20], [7, 21]] [39, 40, 41, 42, 43, 44, 45, 46, 47, 48, 49, 50, 51, 52, 53, 54, 55, 56, 57, 58, 59, 60, 61] [v5, cv, .int .i64 (j : Int), elP cv (((j : Int)).toNat * 1), .int .i64 (cut.getD j 0), .bool true, .bool false, .bool false, .int .i64 (j : Int), .bool false, .bool false, undef, undef, undef, undef, undef, undef, undef, undef, undef, undef, .bool false, .bool false] (by kernel_rfl) rfl ?_ ?_
   ·
    refine ⟨?_, ?_, ?_, ?_, ?_, ?_, ?_, ?_, ?_, ?_, ?_, ?_, ?_, ?_, ?_, ?_, ?_, ?_, ?_, ?_, ?_, ?_, ?_, trivial⟩
    · exact .inl ⟨rfl, zaj (zap rfl) rfl⟩
    · exact .inl ⟨rfl, zaj (zap rfl) rfl⟩
    · exact .inl ⟨rfl, zaj (zap rfl) rfl⟩
    · exact .inl ⟨rfl, zaj (zal (s := 1) rfl Try.underlying26 (by kernel_rfl) rfl rfl (zak hcr) (by omega) (by omega)) rfl⟩
    · exact .inl ⟨rfl, zaj (zam (u := .int .i64 (cut.getD j 0)) rfl (by kernel_rfl) rfl (zak hcr) (zbg (show _ < cut.length by omega))) rfl⟩
    · exact .inl ⟨rfl, rq_cb (zba (by kernel_rfl) rfl (fun w hm => zbk (zeh (coneS n node) (cut.getD j 0) _ w ((zas 0 rfl) w hm) (by omega)))) hb10⟩
    · exact .inl ⟨rfl, zaj (zap rfl) rfl⟩
    · exact .inl ⟨rfl, zaj (zap rfl) rfl⟩
    · exact .inl ⟨rfl, zaj (zap rfl) rfl⟩
    · exact .inl ⟨rfl, zdg (zcq rfl rfl rfl rfl) hb11⟩
    · exact .inl ⟨rfl, zaj (zap rfl) rfl⟩
    · exact .inr ⟨rfl, rfl⟩
    · exact .inr ⟨rfl, rfl⟩
    · exact .inr ⟨rfl, rfl⟩
    · exact .inr ⟨rfl, rfl⟩
    · exact .inr ⟨rfl, rfl⟩
    · exact .inr ⟨rfl, rfl⟩
    · exact .inr ⟨rfl, rfl⟩
    · exact .inr ⟨rfl, rfl⟩
    · exact .inr ⟨rfl, rfl⟩
    · exact .inr ⟨rfl, rfl⟩
    · exact .inl ⟨rfl, zaj (zap rfl) rfl⟩
    exact .inl ⟨rfl, zaj (zap rfl) rfl⟩
   refine zac [61, 36, 29, 8, 7, 6, 3, 2, 1, 0] rfl ?_
   simp only [List.drop_succ_cons, List.drop_zero]
   refine zac [61, 36, 29, 8, 7, 6, 3, 2, 1, 0] rfl (zae (zaa (zaq rfl (zaz (zai ?_)))))
   refine zaa (zab (zad 1 rfl (hl_v rfl rfl rfl (zbj rfl rfl rfl (by constructor <;> omega)) (zad 1 rfl (zac [61, 36, 29, 8, 7, 6, 3, 2, 1, 0] rfl ?_)))))
   refine zae ?_
   exact zdh (j + 1) ⟨by omega, fun i hi => by by_cases e : i = j; (subst e; exact elP_yes (by assumption) (by first | exact .inl (by omega) | exact .inr (by omega))); exact hel i (by omega)⟩ (by omega) (zan [29, 8, 7, 6, 3, 2, 1, 0] rfl) ((.cons_cons _ (.cons_cons _ .slnil)))
  refine zca 23 [[], [], [], [1, 2], [3], [0, 4], [5], [6], [7], [7], [7], [10], [10], [10], [10], [10], [10], [10], [10], [10], [10], [7], [7, 21]] [39, 40, 41, 42, 43, 44, 45, 46, 47, 48, 49, 50, 51, 52, 53, 54, 55, 56, 57, 58, 59, 60, 61] [v5, cv, .int .i64 (j : Int), elP cv (((j : Int)).toNat * 1), .int .i64 (cut.getD j 0), .bool false, .bool true, .bool true, undef, undef, undef, undef, undef, undef, undef, undef, undef, undef, undef, undef, undef, undef, .bool true] (by kernel_rfl) rfl ?_ ?_
  ·
   refine ⟨?_, ?_, ?_, ?_, ?_, ?_, ?_, ?_, ?_, ?_, ?_, ?_, ?_, ?_, ?_, ?_, ?_, ?_, ?_, ?_, ?_, ?_, ?_, trivial⟩
   · exact .inl ⟨rfl, zaj (zap rfl) rfl⟩
   · exact .inl ⟨rfl, zaj (zap rfl) rfl⟩
   · exact .inl ⟨rfl, zaj (zap rfl) rfl⟩
   · exact .inl ⟨rfl, zaj (zal (s := 1) rfl Try.underlying26 (by kernel_rfl) rfl rfl (zak hcr) (by omega) (by omega)) rfl⟩
   · exact .inl ⟨rfl, zaj (zam (u := .int .i64 (cut.getD j 0)) rfl (by kernel_rfl) rfl (zak hcr) (zbg (show _ < cut.length by omega))) rfl⟩
   · exact .inl ⟨rfl, rq_cb (zba (by kernel_rfl) rfl (fun w hm => zbk (zeh (coneS n node) (cut.getD j 0) _ w ((zas 0 rfl) w hm) (by omega)))) hb10⟩
   · exact .inl ⟨rfl, zaj (zap rfl) rfl⟩
   · exact .inl ⟨rfl, zaj (zap rfl) rfl⟩
   · exact .inr ⟨rfl, rfl⟩
   · exact .inr ⟨rfl, rfl⟩
   · exact .inr ⟨rfl, rfl⟩
   · exact .inr ⟨rfl, rfl⟩
   · exact .inr ⟨rfl, rfl⟩
   · exact .inr ⟨rfl, rfl⟩
   · exact .inr ⟨rfl, rfl⟩
   · exact .inr ⟨rfl, rfl⟩
   · exact .inr ⟨rfl, rfl⟩
   · exact .inr ⟨rfl, rfl⟩
   · exact .inr ⟨rfl, rfl⟩
   · exact .inr ⟨rfl, rfl⟩
   · exact .inr ⟨rfl, rfl⟩
   · exact .inr ⟨rfl, rfl⟩
   exact .inl ⟨rfl, zaj (zap rfl) rfl⟩
  refine zac [61, 36, 29, 8, 7, 6, 3, 2, 1, 0] rfl ?_
  simp only [List.drop_succ_cons, List.drop_zero]
  refine zac [61, 36, 29, 8, 7, 6, 3, 2, 1, 0] rfl (zae (zaa (zbb rfl (zaf (zab ?_)))))
  refine zad 1 rfl (zac [61, 36, 29, 8, 7, 6, 3, 2, 1, 0] rfl (zae (zaa ?_)))
  refine zbl ?_
  refine zbf ?_
  refine zao (zao ?_)
  refine zbf ?_
  refine zao ?_
  exact zch rfl rfl (congrArg Value.bool (pBe_no (p := CutP n node cut) (fun h => elP_no (by first | exact .inl (by assumption) | exact .inr ⟨by omega, by omega⟩) (h.el j (by omega)))).symm)
 refine zac [36, 29, 8, 7, 6, 3, 2, 1, 0] rfl (zae (zaa (zaq rfl ?_)))
 refine zbp ?_
 refine zah (zah ?_)
 refine zav ?_
 refine zaa (zaf (zab (hl_v rfl rfl rfl (zbc (cs := [.int .i64 n.ins, n.sv, n.av, n.ov]) rfl (by kernel_rfl) (by kernel_rfl) rfl rfl (zay 1 rfl 0 rfl)) ?_)))
 refine zbm rfl rfl rfl (zba (by kernel_rfl) rfl (fun w hm => zbk (zbs n w (hr.below hm.bel) hn))) ?_
 refine zbr rfl rfl rfl (zeu (z := .bool false) (s := 1) (bytes := 1) (n := (List.replicate (n.cnt).toNat bl0).length) (cs := ((List.replicate (n.cnt).toNat bl0).flatMap blC)) rfl Try.underlying80 (by kernel_rfl) (by decide) rfl rfl (by first | (rw [List.length_replicate]; done) | (rw [List.length_replicate]; omega)) (by first | (rw [List.length_replicate]; done) | (rw [List.length_replicate]; omega)) (by rw [List.length_replicate]; omega) (zfe blC 1 (fun _ => rfl) bl0 _ rfl (n.cnt).toNat)) ?_
 intro g13
 refine zad 1 rfl (zac [36, 29, 9, 8, 7, 6, 3, 2, 1, 0] rfl (zae (zaa (zaf (zab ?_)))))
 refine zad 2 rfl ?_
 have hrl : (List.replicate n.cnt.toNat bl0).length = n.cnt.toNat := List.length_replicate
 refine hl_v rfl rfl rfl (zal (s := 1) rfl Try.underlying80 (by kernel_rfl) rfl rfl (zas 0 rfl) (by omega) (by omega)) ?_
 refine zdp (i := 0) (n' := ((List.replicate (n.cnt).toNat bl0).set ((node).toNat) { (List.replicate (n.cnt).toNat bl0).getD ((node).toNat) bl0 with b := true }).length) rfl rfl rfl (by kernel_rfl) rfl rfl rfl rfl (by first | omega | (simp only [List.length_set]; omega)) List.length_set.symm (zdm blC (fun r => .bool r.b) (fun _ => rfl) _ ({ (List.replicate (n.cnt).toNat bl0).getD ((node).toNat) bl0 with b := true }) rfl) rfl ?_
 refine zac [36, 29, 9, 8, 7, 6, 3, 2, 1, 0] rfl (zae (zaa (zaf (zaf (zab ?_)))))
 refine zad 2 rfl (zac [36, 29, 10, 9, 8, 7, 6, 3, 2, 1, 0] rfl (zae (zaa (zax ?_))))
 refine zdt (α := Nat) (β := List Bl) (fun k bs => [rowE 4 1 (.slice (some ⟨g13, 0, none⟩) ((List.replicate (n.cnt).toNat bl0).length) ((List.replicate (n.cnt).toNat bl0).length)) bs.length (bs.flatMap blC), rowE 3 1 v5 ((coneS n node).length) ((coneS n node).map (Value.int .i64)), boxE b1 #[.int .i64 n.ins, n.sv, n.av, n.ov] 101]) (fun k bs => [(0, .agg #[.int .i64 n.ins, n.sv, n.av, n.ov]), (1, .int .i64 node), (2, cv), (3, .pointer (some ⟨b1, 0, none⟩)), (6, .bool false), (7, v5), (9, .slice (some ⟨g13, 0, none⟩) ((List.replicate (n.cnt).toNat bl0).length) ((List.replicate (n.cnt).toNat bl0).length)), (10, .int .i64 (k : Int)), (29, .bool false), (36, .bool false)]) (fun k bs => (k : Int) ≤ node ∧ opn n cut node.toNat (opn0 n node) = opn n cut k bs ∧ bs.length = n.cnt.toNat) (fun k bs => k) node.toNat _ ⟨by omega, rfl, by rw [List.length_set, List.length_replicate]⟩ (sk 0 rfl (sk 1 rfl (sk 2 rfl (sk 3 rfl (sk 6 rfl (sk 7 rfl (sk 9 rfl (sk 10 (congrArg (fun x => some (Value.int .i64 x)) (by omega)) (sk 29 rfl (sk 36 rfl (zag _))))))))))) ((.cons_cons _ (.cons_cons _ (.cons_cons _ .slnil)))) ?_
 intro k bs hi14
 obtain ⟨hk, hop, hbl⟩ := hi14
 refine zaf (zaf (zab (zad 1 rfl ?_)))
 refine zfg rfl rfl rfl rfl rfl rfl (fun h15 => ?_) (fun h15 => ?_)
 ·
  refine zac [70, 36, 29, 10, 9, 7, 6, 3, 2, 1, 0] rfl (zae (zaa (zbb rfl (zaz (zaa ?_)))))
  refine zaf (zax (zaf (zaf (zab (zad 2 rfl ?_)))))
  refine hl_v rfl rfl rfl (zal (s := 1) rfl Try.underlying80 (by kernel_rfl) rfl rfl (zas 0 rfl) (by omega) (by omega)) ?_
  refine hl_v rfl rfl rfl (zam (u := .bool ((bs.getD k bl0).b)) rfl (by kernel_rfl) rfl (zas 0 rfl) (zbz blC (fun r => .bool r.b) (fun _ => rfl) bs bl0 (show k < _ by omega))) ?_
  refine zck (fun h16 => ?_) (fun h16 => ?_)
  ·
   have hmk := h16
   refine zad 4 rfl ?_
   refine zbm rfl rfl rfl (zba (by kernel_rfl) rfl (fun w hm => zbk (zeh cut (k : Int) _ w ((zak hcr) w hm) (by omega)))) ?_
   refine zck (fun h17 => ?_) (fun h17 => ?_)
   ·
    refine zad 1 rfl (zac [82, 70, 36, 29, 10, 9, 7, 6, 3, 2, 1, 0] rfl (zae (zaa (zbb rfl ?_))))
    refine zbp ?_
    refine zah ?_
    refine zav ?_
    refine zaa (zab (zad 1 rfl (hl_v rfl rfl rfl (zdb rfl rfl rfl (by constructor <;> omega)) (zad 1 rfl (zac [82, 70, 36, 29, 10, 9, 7, 6, 3, 2, 1, 0] rfl ?_)))))
    refine zae ?_
    exact zcu (k - 1) bs ⟨by omega, hop.trans (opn_skip (by omega) (by first | exact .inl hmk | exact .inr (by assumption))), by first | omega | (simp only [List.length_set]; omega)⟩ (by omega) (sk 0 rfl (sk 1 rfl (sk 2 rfl (sk 3 rfl (sk 6 rfl (sk 7 rfl (sk 9 rfl (sk 10 (congrArg (fun x => some (Value.int .i64 x)) (by omega)) (sk 29 rfl (sk 36 rfl (zag _))))))))))) ((.cons_cons _ (.cons_cons _ (.cons_cons _ .slnil))))
   refine zad 1 rfl (zac [82, 70, 36, 29, 10, 9, 7, 6, 3, 2, 1, 0] rfl (zae (zaa (zaq rfl (zaz ?_)))))
   refine zaa (zaf (zaf (zab (zad 1 rfl (hl_v rfl rfl rfl (zbc (cs := [.int .i64 n.ins, n.sv, n.av, n.ov]) rfl (by kernel_rfl) (by kernel_rfl) rfl rfl (zay 2 rfl 0 rfl)) ?_)))))
   refine zbm rfl rfl rfl (zba (by kernel_rfl) rfl (fun w hm => zbk (zbv n w (hr.below hm.bel) hn))) ?_
   refine zbw rfl rfl rfl rfl rfl rfl (fun h18 => ?_) (fun h18 => ?_)
   ·
    refine zac [86, 82, 70, 36, 29, 10, 9, 7, 6, 3, 2, 1, 0] rfl (zae (zaa (zbb rfl (zaf (zab ?_)))))
    refine zad 1 rfl (zac [86, 82, 70, 36, 29, 10, 9, 7, 6, 3, 2, 1, 0] rfl (zae (zaa ?_)))
    refine zbl ?_
    refine zao ?_
    refine zbf ?_
    refine zao (zao ?_)
    refine zbf ?_
    refine zao ?_
    exact zch rfl rfl (congrArg Value.bool (pBe_no (p := CutP n node cut) (fun h => by have h9 := h.op; rw [hop, opn_no (by omega) hmk (by assumption) (by omega)] at h9; cases h9)).symm)
   refine zac [86, 82, 70, 36, 29, 10, 9, 7, 6, 3, 2, 1, 0] rfl (zae (zaa (zaq rfl (zaz (zaa ?_)))))
   refine zaf ?_
   have hani := hn.an ((k : Int) - n.fst).toNat (by omega)
   unfold LtOk at hani
   refine zdj (by kernel_rfl) 9 [0, 1, 2, 3, 4, 5, 6, 7, 8] (List.take 9 _) (List.drop 9 _) [[], [0], [], [], [3], [2, 4], [1, 5], [6], []] [87, 88, 89, 90, 91, 92, 93, 94, 11] (fun i_ vs_ v_ p_ => match i_ with | 0 => v_ = .pointer (some ⟨b1, 0 + 2, none⟩) ∧ p_ = [] | 1 => v_ = n.av ∧ p_ = [] | 2 => v_ = .int .i64 (k : Int) ∧ p_ = [] | 3 => v_ = .agg #[.int .i64 n.ins, n.sv, n.av, n.ov] ∧ p_ = [] | 4 => v_ = .int .i64 n.fst ∧ p_ = [] | 5 => v_ = .int .i64 ((k : Int) - n.fst) ∧ p_ = [] | 6 => v_ = elP n.av (((k : Int) - n.fst).toNat * 2) ∧ p_ = [] | 7 => v_ = .agg #[.int .i64 ((n.gs.getD (((k : Int) - n.fst).toNat) an0).a), .int .i64 ((n.gs.getD (((k : Int) - n.fst).toNat) an0).b)] ∧ p_ = [] | 8 => IsBox #[.int .i64 0, .int .i64 0] 124 v_ p_ | _ => True) (List.take_append_drop 9 _).symm (by kernel_rfl) (by kernel_rfl) rfl rfl ?_ ?_
   ·
    refine ⟨?_, ?_, ?_, ?_, ?_, ?_, ?_, ?_, ?_, trivial⟩
    ·
     intro vf pf hR
     refine Or.inl ⟨rfl, ?_⟩
     refine zbh (sk 3 rfl (zag _)) ?_
     exact rq_v (zat (k0 := 2) rfl (by kernel_rfl) rfl)
    ·
     intro vf pf hR
     have e0 : (vf 0) = .pointer (some ⟨b1, 0 + 2, none⟩) ∧ (pf 0) = [] := hR 0 (by decide)
     refine Or.inl ⟨rfl, ?_⟩
     refine zau (sk 87 (congrArg some e0.1) (zag _)) (List.sublist_append_right _ _) ?_
     exact rq_v (zbd rfl (by kernel_rfl) rfl (zaw 2 rfl rfl))
    ·
     intro vf pf hR
     refine Or.inl ⟨rfl, ?_⟩
     refine zbh (sk 10 rfl (zag _)) ?_
     exact rq_v (zap rfl)
    ·
     intro vf pf hR
     refine Or.inl ⟨rfl, ?_⟩
     refine zau (sk 3 rfl (zag _)) (List.sublist_append_right _ _) ?_
     exact rq_v (zbc (cs := [.int .i64 n.ins, n.sv, n.av, n.ov]) rfl (by kernel_rfl) (by kernel_rfl) rfl rfl (zay 2 rfl 0 rfl))
    ·
     intro vf pf hR
     have e3 : (vf 3) = .agg #[.int .i64 n.ins, n.sv, n.av, n.ov] ∧ (pf 3) = [] := hR 3 (by decide)
     refine Or.inl ⟨rfl, ?_⟩
     refine zau (sk 90 (congrArg some e3.1) (zag _)) (List.sublist_append_right _ _) ?_
     exact (zba (by kernel_rfl) rfl (fun w hm => zbk (zbv n w (hr.below hm.bel) hn)))
    ·
     intro vf pf hR
     have e2 : (vf 2) = .int .i64 (k : Int) ∧ (pf 2) = [] := hR 2 (by decide)
     have e4 : (vf 4) = .int .i64 n.fst ∧ (pf 4) = [] := hR 4 (by decide)
     refine Or.inl ⟨rfl, ?_⟩
     refine zbh (sk 89 (congrArg some e2.1) (sk 91 (congrArg some e4.1) (zag _))) ?_
     exact rq_v (zdb rfl rfl rfl (by constructor <;> omega))
    ·
     intro vf pf hR
     have e1 : (vf 1) = n.av ∧ (pf 1) = [] := hR 1 (by decide)
     have e5 : (vf 5) = .int .i64 ((k : Int) - n.fst) ∧ (pf 5) = [] := hR 5 (by decide)
     refine Or.inl ⟨rfl, ?_⟩
     refine zau (sk 88 (congrArg some e1.1) (sk 92 (congrArg some e5.1) (zag _))) (List.sublist_append_right _ _) ?_
     exact rq_v (zal (s := 2) rfl Try.underlying99 (by kernel_rfl) rfl rfl (zak hr.an) (by omega) (by omega))
    ·
     intro vf pf hR
     have e6 : (vf 6) = elP n.av (((k : Int) - n.fst).toNat * 2) ∧ (pf 6) = [] := hR 6 (by decide)
     refine Or.inl ⟨rfl, ?_⟩
     refine zau (sk 93 (congrArg some e6.1) (zag _)) (List.sublist_append_right _ _) ?_
     exact rq_v (zdr (us := [.int .i64 ((n.gs.getD (((k : Int) - n.fst).toNat) an0).a), .int .i64 ((n.gs.getD (((k : Int) - n.fst).toNat) an0).b)]) rfl (by kernel_rfl) (by kernel_rfl) rfl (zak hr.an) (by omega) rfl (zel anC 2 (fun _ => rfl) n.gs an0 (show ((k : Int) - n.fst).toNat < _ by omega) rfl))
    intro vf pf hR
    refine Or.inl ⟨rfl, ?_⟩
    refine zau (zag _) (List.sublist_append_right _ _) ?_
    exact zcj (z := .agg #[.int .i64 0, .int .i64 0]) rfl (by kernel_rfl)
   intro vf pf hR
   have e7 : (vf 7) = .agg #[.int .i64 ((n.gs.getD (((k : Int) - n.fst).toNat) an0).a), .int .i64 ((n.gs.getD (((k : Int) - n.fst).toNat) an0).b)] ∧ (pf 7) = [] := hR 7 (by decide)
   have e8 : IsBox #[.int .i64 0, .int .i64 0] 124 (vf 8) (pf 8) := hR 8 (by decide)
   obtain ⟨b19, vE8, pE8⟩ := e8
   have q0 : (vf 0) = .pointer (some ⟨b1, 0 + 2, none⟩) ∧ (pf 0) = [] := hR 0 (by decide)
   have q1 : (vf 1) = n.av ∧ (pf 1) = [] := hR 1 (by decide)
   have q2 : (vf 2) = .int .i64 (k : Int) ∧ (pf 2) = [] := hR 2 (by decide)
   have q3 : (vf 3) = .agg #[.int .i64 n.ins, n.sv, n.av, n.ov] ∧ (pf 3) = [] := hR 3 (by decide)
   have q4 : (vf 4) = .int .i64 n.fst ∧ (pf 4) = [] := hR 4 (by decide)
   have q5 : (vf 5) = .int .i64 ((k : Int) - n.fst) ∧ (pf 5) = [] := hR 5 (by decide)
   have q6 : (vf 6) = elP n.av (((k : Int) - n.fst).toNat * 2) ∧ (pf 6) = [] := hR 6 (by decide)
   have q7 : (vf 7) = .agg #[.int .i64 ((n.gs.getD (((k : Int) - n.fst).toNat) an0).a), .int .i64 ((n.gs.getD (((k : Int) - n.fst).toNat) an0).b)] ∧ (pf 7) = [] := hR 7 (by decide)
   refine zcs (sk 0 rfl (sk 1 rfl (sk 2 rfl (sk 3 rfl (sk 6 rfl (sk 7 rfl (sk 9 rfl (sk 10 rfl (sk 11 (congrArg some vE8) (sk 29 rfl (sk 36 rfl (sk 70 rfl (sk 82 rfl (sk 86 rfl (sk 94 (congrArg some e7.1) (zag _)))))))))))))))) (by simp only [pE8, vE8, q0.2, q1.2, q2.2, q3.2, q4.2, q5.2, q6.2, q7.2, fS] <;> rfl) ?_
   simp only [List.drop_succ_cons, List.drop_zero]
   refine zcn (cs' := #[.int .i64 ((n.gs.getD (((k : Int) - n.fst).toNat) an0).a), .int .i64 ((n.gs.getD (((k : Int) - n.fst).toNat) an0).b)]) (i := 0) (off := 0) (us := [.int .i64 ((n.gs.getD (((k : Int) - n.fst).toNat) an0).a), .int .i64 ((n.gs.getD (((k : Int) - n.fst).toNat) an0).b)]) rfl rfl rfl (by kernel_rfl) rfl rfl rfl (zar rfl (zar rfl zby)) rfl rfl rfl ?_
   refine zac [86, 82, 70, 36, 29, 11, 10, 9, 7, 6, 3, 2, 1, 0] rfl (zae (zaa (zaf (zab (zad 1 rfl ?_)))))
   refine hl_v rfl rfl rfl (zat (k0 := 0) rfl (by kernel_rfl) rfl) (hl_v rfl rfl rfl (zbd rfl (by kernel_rfl) rfl (zaw 0 rfl rfl)) ?_)
   refine hl_v rfl rfl rfl (zee rfl rfl rfl (by refine ⟨?_, ?_, ?_⟩ <;> omega)) ?_
   refine hl_v rfl rfl rfl (zal (s := 1) rfl Try.underlying80 (by kernel_rfl) rfl rfl (zas 1 rfl) (by omega) (by omega)) ?_
   refine zdp (i := 1) (n' := (bs.set ((((n.gs.getD (((k : Int) - n.fst).toNat) an0).a) / 2).toNat) { bs.getD ((((n.gs.getD (((k : Int) - n.fst).toNat) an0).a) / 2).toNat) bl0 with b := true }).length) rfl rfl rfl (by kernel_rfl) rfl rfl rfl rfl (by first | omega | (simp only [List.length_set]; omega)) List.length_set.symm (zdm blC (fun r => .bool r.b) (fun _ => rfl) _ ({ bs.getD ((((n.gs.getD (((k : Int) - n.fst).toNat) an0).a) / 2).toNat) bl0 with b := true }) rfl) rfl ?_
   refine zac [86, 82, 70, 36, 29, 11, 10, 9, 7, 6, 3, 2, 1, 0] rfl (zae (zaa (zab (zad 1 rfl (hl_v rfl rfl rfl (zat (k0 := 1) rfl (by kernel_rfl) rfl) ?_)))))
   refine hl_v rfl rfl rfl (zbd rfl (by kernel_rfl) rfl (zaw 0 rfl rfl)) ?_
   refine hl_v rfl rfl rfl (zee rfl rfl rfl (by refine ⟨?_, ?_, ?_⟩ <;> omega)) ?_
   refine hl_v rfl rfl rfl (zal (s := 1) rfl Try.underlying80 (by kernel_rfl) rfl rfl (zas 1 rfl) (by omega) (by first | omega | (simp only [List.length_set]; omega))) ?_
   refine zdp (i := 1) (n' := ((bs.set ((((n.gs.getD (((k : Int) - n.fst).toNat) an0).a) / 2).toNat) { bs.getD ((((n.gs.getD (((k : Int) - n.fst).toNat) an0).a) / 2).toNat) bl0 with b := true }).set ((((n.gs.getD (((k : Int) - n.fst).toNat) an0).b) / 2).toNat) { (bs.set ((((n.gs.getD (((k : Int) - n.fst).toNat) an0).a) / 2).toNat) { bs.getD ((((n.gs.getD (((k : Int) - n.fst).toNat) an0).a) / 2).toNat) bl0 with b := true }).getD ((((n.gs.getD (((k : Int) - n.fst).toNat) an0).b) / 2).toNat) bl0 with b := true }).length) rfl rfl rfl (by kernel_rfl) rfl rfl rfl rfl (by first | omega | (simp only [List.length_set]; omega)) List.length_set.symm (zdm blC (fun r => .bool r.b) (fun _ => rfl) _ ({ (bs.set ((((n.gs.getD (((k : Int) - n.fst).toNat) an0).a) / 2).toNat) { bs.getD ((((n.gs.getD (((k : Int) - n.fst).toNat) an0).a) / 2).toNat) bl0 with b := true }).getD ((((n.gs.getD (((k : Int) - n.fst).toNat) an0).b) / 2).toNat) bl0 with b := true }) rfl) rfl ?_
   refine zac [86, 82, 70, 36, 29, 11, 10, 9, 7, 6, 3, 2, 1, 0] rfl (zae (zai (zaa (zab (zad 1 rfl ?_)))))
   refine hl_v rfl rfl rfl (zdb rfl rfl rfl (by constructor <;> omega)) (zad 1 rfl (zac [86, 82, 70, 36, 29, 11, 10, 9, 7, 6, 3, 2, 1, 0] rfl (zae ?_)))
   exact zcu (k - 1) ((bs.set ((((n.gs.getD (((k : Int) - n.fst).toNat) an0).a) / 2).toNat) { bs.getD ((((n.gs.getD (((k : Int) - n.fst).toNat) an0).a) / 2).toNat) bl0 with b := true }).set ((((n.gs.getD (((k : Int) - n.fst).toNat) an0).b) / 2).toNat) { (bs.set ((((n.gs.getD (((k : Int) - n.fst).toNat) an0).a) / 2).toNat) { bs.getD ((((n.gs.getD (((k : Int) - n.fst).toNat) an0).a) / 2).toNat) bl0 with b := true }).getD ((((n.gs.getD (((k : Int) - n.fst).toNat) an0).b) / 2).toNat) bl0 with b := true }) ⟨by omega, hop.trans (opn_step (by omega) hmk (by assumption) (by omega)), by first | omega | (simp only [List.length_set]; omega)⟩ (by omega) (sk 0 rfl (sk 1 rfl (sk 2 rfl (sk 3 rfl (sk 6 rfl (sk 7 rfl (sk 9 rfl (sk 10 (congrArg (fun x => some (Value.int .i64 x)) (by omega)) (sk 29 rfl (sk 36 rfl (zag _))))))))))) ((.cons _ (.cons_cons _ (.cons_cons _ (.cons_cons _ .slnil)))))
  have hmk := h16
  refine zad 4 rfl (zbi rfl rfl rfl (zad 1 rfl (zac [82, 70, 36, 29, 10, 9, 7, 6, 3, 2, 1, 0] rfl (zae (zaa ?_)))))
  refine zbb rfl ?_
  refine zbp ?_
  refine zah ?_
  refine zav ?_
  refine zaa (zab (zad 1 rfl (hl_v rfl rfl rfl (zdb rfl rfl rfl (by constructor <;> omega)) (zad 1 rfl (zac [82, 70, 36, 29, 10, 9, 7, 6, 3, 2, 1, 0] rfl ?_)))))
  refine zae ?_
  exact zcu (k - 1) bs ⟨by omega, hop.trans (opn_skip (by omega) (by first | exact .inl hmk | exact .inr (by assumption))), by first | omega | (simp only [List.length_set]; omega)⟩ (by omega) (sk 0 rfl (sk 1 rfl (sk 2 rfl (sk 3 rfl (sk 6 rfl (sk 7 rfl (sk 9 rfl (sk 10 (congrArg (fun x => some (Value.int .i64 x)) (by omega)) (sk 29 rfl (sk 36 rfl (zag _))))))))))) ((.cons_cons _ (.cons_cons _ (.cons_cons _ .slnil))))
 refine zac [70, 36, 29, 10, 9, 7, 6, 3, 2, 1, 0] rfl (zae (zaa (zaq rfl ?_)))
 refine zbp ?_
 refine zah (zah ?_)
 refine zav ?_
 refine zaa (zaf (zab (zad 1 rfl (zac [70, 36, 29, 10, 9, 7, 6, 3, 2, 1, 0] rfl (zae ?_)))))
 refine zaa ?_
 refine zbl ?_
 exact zch rfl rfl (congrArg Value.bool (pBe_yes (p := CutP n node cut) ⟨by omega, fun i hi => hel i (by omega), by rw [hop, show k = 0 by omega]; rfl⟩).symm)
set_option maxHeartbeats 4000000 in
set_option maxRecDepth 100000 in
theorem MappingOk_ans (n : Nt) (rs : List CRow) (v : Value) (w : World) (hr : RdsNt w n) (hn : NtOk n) (hv : RdsCl w v rs) (h400 : ∀ r ∈ rs, r.xs.length ≤ 400) :
   Calls Try.prog 77 #[.agg #[.int .i64 n.ins, n.sv, n.av, n.ov], v] w (Ans w (.bool (pBe (MapP n rs)))) := by
 have hi0 := hn.i0
 have hi1 := hn.i1
 have hs1 := hn.s1
 have ha1 := hn.a1
 have ho1 := hn.o1
 have hcnt : n.cnt = 1 + n.ins + n.ss.length + n.gs.length := rfl
 have hfst : n.fst = 1 + n.ins + n.ss.length := rfl
 refine zbq (N := 45) (args := [.agg #[.int .i64 n.ins, n.sv, n.av, n.ov], v]) Try.func77 rfl rfl ?_
 refine zbt _ [1, 0] rfl (zaf (zab ?_))
 refine zci rfl rfl rfl (zdd rfl rfl) ?_
 intro b1
 refine zad 1 rfl (zac [4, 2, 1, 0] rfl (zae (zaa (zaf (zaf ?_)))))
 refine zab (hl_v rfl rfl rfl (zbc (cs := [.int .i64 n.ins, n.sv, n.av, n.ov]) rfl (by kernel_rfl) (by kernel_rfl) rfl rfl (zay 0 rfl 0 rfl)) ?_)
 refine zbm rfl rfl rfl (zba (by kernel_rfl) rfl (fun w hm => zbk (zdk n w (hr.below hm.bel) hn))) ?_
 refine zad 3 rfl (hl_v rfl rfl rfl (zbo rfl Try.underlying41 rfl (zak hv.row)) (hl_v rfl rfl rfl (zat (k0 := 2) rfl (by kernel_rfl) rfl) (hl_v rfl rfl rfl (zbd rfl (by kernel_rfl) rfl (zaw 0 rfl rfl)) (hl_v rfl rfl rfl (zbo rfl Try.underlying99 rfl (zak hr.an)) ?_))))
 refine hl_neq rfl rfl rfl rfl rfl rfl (fun h2 => ?_) (fun h2 => ?_)
 ·
  refine zad 1 rfl (zac [16, 4, 2, 1, 0] rfl (zae (zaa (zbb rfl (zaf ?_)))))
  refine zab (zad 1 rfl (zac [16, 4, 2, 1, 0] rfl (zae (zaa ?_))))
  refine zbl ?_
  refine zao ?_
  exact zch rfl rfl (congrArg Value.bool (pBe_no (p := MapP n rs) (fun h => by have h9 := h.len; omega)).symm)
 refine zad 1 rfl (zac [16, 4, 2, 1, 0] rfl (zae (zaa (zaq rfl (zaz ?_)))))
 refine zaa (zaf (zaf (zab (zad 1 rfl (zac [16, 5, 4, 2, 1, 0] rfl ?_)))))
 refine zae (zaa (zax ?_))
 refine zed (α := Nat) (fun i => [boxE b1 #[.int .i64 n.ins, n.sv, n.av, n.ov] 101]) (fun i => [(0, .agg #[.int .i64 n.ins, n.sv, n.av, n.ov]), (1, v), (2, .pointer (some ⟨b1, 0, none⟩)), (4, .bool false), (5, .int .i64 (i : Int)), (16, .bool false)]) (fun i => i ≤ rs.length ∧ ∀ j, j < i → CutP n (n.fst + (j : Int)) (rs.getD j crow0).xs ∧ hasB (rs.getD j crow0).xs (n.fst + (j : Int)) = false) (fun i => rs.length - i) 0 ⟨Nat.zero_le _, fun i hi => absurd hi (by omega)⟩ (zan [16, 5, 4, 2, 1, 0] rfl) ((.cons_cons _ .slnil)) ?_
 intro i hi3
 obtain ⟨hi, hel⟩ := hi3
 refine zaf (zaf (zab (zad 2 rfl (hl_v rfl rfl rfl (zbo rfl Try.underlying41 rfl (zak hv.row)) ?_))))
 refine zbw rfl rfl rfl rfl rfl rfl (fun h4 => ?_) (fun h4 => ?_)
 ·
  refine zac [20, 16, 5, 4, 2, 1, 0] rfl (zae (zaa (zbb rfl (zaz (zaa ?_)))))
  refine zaf (zax (zaf ?_))
  have h4i := h400 _ (zcp (es := rs) (i := i) (d := crow0) (by omega))
  rcases Bool.eq_false_or_eq_true (pBe (CutP n (n.fst + (i : Int)) (rs.getD i crow0).xs)) with hb5 | hb5
  ·
   have h4i := h400 _ (zcp (es := rs) (i := i) (d := crow0) (by omega))
   rcases Bool.eq_false_or_eq_true (hasB ((rs.getD i crow0).xs) (n.fst + (i : Int))) with hb6 | hb6
   ·
    have h4i := h400 _ (zcp (es := rs) (i := i) (d := crow0) (by omega))
    refine zca 22 [[], [], [1], [], [2, 3], [], [], [5, 6], [7], [0, 4, 8], [9], [10], [11], [11], [11, 12, 13], [11, 14], [11], [11, 16], [11], [11, 17, 18], [11, 15, 19], [11, 20]] [23, 24, 25, 26, 27, 28, 29, 30, 31, 32, 33, 34, 35, 36, 37, 38, 39, 40, 41, 42, 43, 44] [.agg #[.int .i64 n.ins, n.sv, n.av, n.ov], .agg #[.int .i64 n.ins, n.sv, n.av, n.ov], .int .i64 n.fst, .int .i64 (i : Int), .int .i64 (n.fst + (i : Int)), v, .int .i64 (i : Int), elP v (((i : Int)).toNat * 1), (rs.getD i crow0).v, .bool true, .bool false, .bool false, v, .int .i64 (i : Int), elP v (((i : Int)).toNat * 1), (rs.getD i crow0).v, .agg #[.int .i64 n.ins, n.sv, n.av, n.ov], .int .i64 n.fst, .int .i64 (i : Int), .int .i64 (n.fst + (i : Int)), .bool true, .bool true] (by kernel_rfl) rfl ?_ ?_
    ·
     refine ⟨?_, ?_, ?_, ?_, ?_, ?_, ?_, ?_, ?_, ?_, ?_, ?_, ?_, ?_, ?_, ?_, ?_, ?_, ?_, ?_, ?_, ?_, trivial⟩
     · exact .inl ⟨rfl, zaj (zbc (cs := [.int .i64 n.ins, n.sv, n.av, n.ov]) rfl (by kernel_rfl) (by kernel_rfl) rfl rfl (zay 0 rfl 0 rfl)) rfl⟩
     · exact .inl ⟨rfl, zaj (zbc (cs := [.int .i64 n.ins, n.sv, n.av, n.ov]) rfl (by kernel_rfl) (by kernel_rfl) rfl rfl (zay 0 rfl 0 rfl)) rfl⟩
     · exact .inl ⟨rfl, zba (by kernel_rfl) rfl (fun w hm => zbk (zbv n w (hr.below hm.bel) hn))⟩
     · exact .inl ⟨rfl, zaj (zap rfl) rfl⟩
     · exact .inl ⟨rfl, zaj (zbj rfl rfl rfl (by constructor <;> omega)) rfl⟩
     · exact .inl ⟨rfl, zaj (zap rfl) rfl⟩
     · exact .inl ⟨rfl, zaj (zap rfl) rfl⟩
     · exact .inl ⟨rfl, zaj (zal (s := 1) rfl Try.underlying41 (by kernel_rfl) rfl rfl (zak hv.row) (by omega) (by omega)) rfl⟩
     · exact .inl ⟨rfl, zaj (zam (u := (rs.getD i crow0).v) rfl (by kernel_rfl) rfl (zak hv.row) (zbz crowC (fun r => r.v) (fun _ => rfl) rs crow0 (show i < _ by omega))) rfl⟩
     · exact .inl ⟨rfl, rq_cb (zba (by kernel_rfl) rfl (fun w hm => zbk (CutOkE_ans n (n.fst + (i : Int)) (rs.getD i crow0).xs _ w (hr.below hm.bel) hn ((hv.at (k := i) (by omega)).below hm.bel) (by omega) (by omega)))) hb5⟩
     · exact .inl ⟨rfl, zaj (zap rfl) rfl⟩
     · exact .inl ⟨rfl, zaj (zap rfl) rfl⟩
     · exact .inl ⟨rfl, zaj (zap rfl) rfl⟩
     · exact .inl ⟨rfl, zaj (zap rfl) rfl⟩
     · exact .inl ⟨rfl, zaj (zal (s := 1) rfl Try.underlying41 (by kernel_rfl) rfl rfl (zak hv.row) (by omega) (by omega)) rfl⟩
     · exact .inl ⟨rfl, zaj (zam (u := (rs.getD i crow0).v) rfl (by kernel_rfl) rfl (zak hv.row) (zbz crowC (fun r => r.v) (fun _ => rfl) rs crow0 (show i < _ by omega))) rfl⟩
     · exact .inl ⟨rfl, zaj (zbc (cs := [.int .i64 n.ins, n.sv, n.av, n.ov]) rfl (by kernel_rfl) (by kernel_rfl) rfl rfl (zay 0 rfl 0 rfl)) rfl⟩
     · exact .inl ⟨rfl, zba (by kernel_rfl) rfl (fun w hm => zbk (zbv n w (hr.below hm.bel) hn))⟩
     · exact .inl ⟨rfl, zaj (zap rfl) rfl⟩
     · exact .inl ⟨rfl, zaj (zbj rfl rfl rfl (by constructor <;> omega)) rfl⟩
     · exact .inl ⟨rfl, rq_cb (zba (by kernel_rfl) rfl (fun w hm => zbk (zeh ((rs.getD i crow0).xs) (n.fst + (i : Int)) _ w ((zak (hv.at (k := i) (by omega))) w hm) (by omega)))) hb6⟩
     exact .inl ⟨rfl, zaj (zap rfl) rfl⟩
    refine zac [44, 20, 16, 5, 4, 2, 1, 0] rfl ?_
    simp only [List.drop_succ_cons, List.drop_zero]
    refine zac [44, 20, 16, 5, 4, 2, 1, 0] rfl (zae (zaa (zbb rfl (zaf (zab ?_)))))
    refine zad 1 rfl (zac [44, 20, 16, 5, 4, 2, 1, 0] rfl (zae (zaa ?_)))
    refine zbl ?_
    refine zbf ?_
    refine zao (zao ?_)
    refine zbf ?_
    refine zao ?_
    exact zch rfl rfl (congrArg Value.bool (pBe_no (p := MapP n rs) (fun h => by have h9 := h.cut i (by omega); first | (exact absurd (pBe_yes h9.1) (by rw [show pBe (CutP n (n.fst + (i : Int)) (rs.getD i crow0).xs) = false by assumption]; decide)) | (exact absurd h9.2 (by rw [show hasB (rs.getD i crow0).xs (n.fst + (i : Int)) = true by assumption]; decide)))).symm)
   have h4i := h400 _ (zcp (es := rs) (i := i) (d := crow0) (by omega))
   refine zca 22 [[], [], [1], [], [2, 3], [], [], [5, 6], [7], [0, 4, 8], [9], [10], [11], [11], [11, 12, 13], [11, 14], [11], [11, 16], [11], [11, 17, 18], [11, 15, 19], [11, 20]] [23, 24, 25, 26, 27, 28, 29, 30, 31, 32, 33, 34, 35, 36, 37, 38, 39, 40, 41, 42, 43, 44] [.agg #[.int .i64 n.ins, n.sv, n.av, n.ov], .agg #[.int .i64 n.ins, n.sv, n.av, n.ov], .int .i64 n.fst, .int .i64 (i : Int), .int .i64 (n.fst + (i : Int)), v, .int .i64 (i : Int), elP v (((i : Int)).toNat * 1), (rs.getD i crow0).v, .bool true, .bool false, .bool false, v, .int .i64 (i : Int), elP v (((i : Int)).toNat * 1), (rs.getD i crow0).v, .agg #[.int .i64 n.ins, n.sv, n.av, n.ov], .int .i64 n.fst, .int .i64 (i : Int), .int .i64 (n.fst + (i : Int)), .bool false, .bool false] (by kernel_rfl) rfl ?_ ?_
   ·
    refine ⟨?_, ?_, ?_, ?_, ?_, ?_, ?_, ?_, ?_, ?_, ?_, ?_, ?_, ?_, ?_, ?_, ?_, ?_, ?_, ?_, ?_, ?_, trivial⟩
    · exact .inl ⟨rfl, zaj (zbc (cs := [.int .i64 n.ins, n.sv, n.av, n.ov]) rfl (by kernel_rfl) (by kernel_rfl) rfl rfl (zay 0 rfl 0 rfl)) rfl⟩
    · exact .inl ⟨rfl, zaj (zbc (cs := [.int .i64 n.ins, n.sv, n.av, n.ov]) rfl (by kernel_rfl) (by kernel_rfl) rfl rfl (zay 0 rfl 0 rfl)) rfl⟩
    · exact .inl ⟨rfl, zba (by kernel_rfl) rfl (fun w hm => zbk (zbv n w (hr.below hm.bel) hn))⟩
    · exact .inl ⟨rfl, zaj (zap rfl) rfl⟩
    · exact .inl ⟨rfl, zaj (zbj rfl rfl rfl (by constructor <;> omega)) rfl⟩
    · exact .inl ⟨rfl, zaj (zap rfl) rfl⟩
    · exact .inl ⟨rfl, zaj (zap rfl) rfl⟩
    · exact .inl ⟨rfl, zaj (zal (s := 1) rfl Try.underlying41 (by kernel_rfl) rfl rfl (zak hv.row) (by omega) (by omega)) rfl⟩
    · exact .inl ⟨rfl, zaj (zam (u := (rs.getD i crow0).v) rfl (by kernel_rfl) rfl (zak hv.row) (zbz crowC (fun r => r.v) (fun _ => rfl) rs crow0 (show i < _ by omega))) rfl⟩
    · exact .inl ⟨rfl, rq_cb (zba (by kernel_rfl) rfl (fun w hm => zbk (CutOkE_ans n (n.fst + (i : Int)) (rs.getD i crow0).xs _ w (hr.below hm.bel) hn ((hv.at (k := i) (by omega)).below hm.bel) (by omega) (by omega)))) hb5⟩
    · exact .inl ⟨rfl, zaj (zap rfl) rfl⟩
    · exact .inl ⟨rfl, zaj (zap rfl) rfl⟩
    · exact .inl ⟨rfl, zaj (zap rfl) rfl⟩
    · exact .inl ⟨rfl, zaj (zap rfl) rfl⟩
    · exact .inl ⟨rfl, zaj (zal (s := 1) rfl Try.underlying41 (by kernel_rfl) rfl rfl (zak hv.row) (by omega) (by omega)) rfl⟩
    · exact .inl ⟨rfl, zaj (zam (u := (rs.getD i crow0).v) rfl (by kernel_rfl) rfl (zak hv.row) (zbz crowC (fun r => r.v) (fun _ => rfl) rs crow0 (show i < _ by omega))) rfl⟩
    · exact .inl ⟨rfl, zaj (zbc (cs := [.int .i64 n.ins, n.sv, n.av, n.ov]) rfl (by kernel_rfl) (by kernel_rfl) rfl rfl (zay 0 rfl 0 rfl)) rfl⟩
    · exact .inl ⟨rfl, zba (by kernel_rfl) rfl (fun w hm => zbk (zbv n w (hr.below hm.bel) hn))⟩
    · exact .inl ⟨rfl, zaj (zap rfl) rfl⟩
    · exact .inl ⟨rfl, zaj (zbj rfl rfl rfl (by constructor <;> omega)) rfl⟩
    · exact .inl ⟨rfl, rq_cb (zba (by kernel_rfl) rfl (fun w hm => zbk (zeh ((rs.getD i crow0).xs) (n.fst + (i : Int)) _ w ((zak (hv.at (k := i) (by omega))) w hm) (by omega)))) hb6⟩
    exact .inl ⟨rfl, zaj (zap rfl) rfl⟩
   refine zac [44, 20, 16, 5, 4, 2, 1, 0] rfl ?_
   simp only [List.drop_succ_cons, List.drop_zero]
   refine zac [44, 20, 16, 5, 4, 2, 1, 0] rfl (zae (zaa (zaq rfl (zaz (zai ?_)))))
   refine zaa (zab (zad 1 rfl (hl_v rfl rfl rfl (zbj rfl rfl rfl (by constructor <;> omega)) (zad 1 rfl (zac [44, 20, 16, 5, 4, 2, 1, 0] rfl ?_)))))
   refine zae ?_
   exact zdh (i + 1) ⟨by omega, fun j hj => by by_cases e : j = i; (subst e; exact ⟨of_pBe (by assumption), by assumption⟩); exact hel j (by omega)⟩ (by omega) (zan [16, 5, 4, 2, 1, 0] rfl) ((.cons_cons _ .slnil))
  have h4i := h400 _ (zcp (es := rs) (i := i) (d := crow0) (by omega))
  refine zca 22 [[], [], [1], [], [2, 3], [], [], [5, 6], [7], [0, 4, 8], [9], [10], [11], [11], [11], [11], [11], [11], [11], [11], [11], [11, 20]] [23, 24, 25, 26, 27, 28, 29, 30, 31, 32, 33, 34, 35, 36, 37, 38, 39, 40, 41, 42, 43, 44] [.agg #[.int .i64 n.ins, n.sv, n.av, n.ov], .agg #[.int .i64 n.ins, n.sv, n.av, n.ov], .int .i64 n.fst, .int .i64 (i : Int), .int .i64 (n.fst + (i : Int)), v, .int .i64 (i : Int), elP v (((i : Int)).toNat * 1), (rs.getD i crow0).v, .bool false, .bool true, .bool true, undef, undef, undef, undef, undef, undef, undef, undef, undef, .bool true] (by kernel_rfl) rfl ?_ ?_
  ·
   refine ⟨?_, ?_, ?_, ?_, ?_, ?_, ?_, ?_, ?_, ?_, ?_, ?_, ?_, ?_, ?_, ?_, ?_, ?_, ?_, ?_, ?_, ?_, trivial⟩
   · exact .inl ⟨rfl, zaj (zbc (cs := [.int .i64 n.ins, n.sv, n.av, n.ov]) rfl (by kernel_rfl) (by kernel_rfl) rfl rfl (zay 0 rfl 0 rfl)) rfl⟩
   · exact .inl ⟨rfl, zaj (zbc (cs := [.int .i64 n.ins, n.sv, n.av, n.ov]) rfl (by kernel_rfl) (by kernel_rfl) rfl rfl (zay 0 rfl 0 rfl)) rfl⟩
   · exact .inl ⟨rfl, zba (by kernel_rfl) rfl (fun w hm => zbk (zbv n w (hr.below hm.bel) hn))⟩
   · exact .inl ⟨rfl, zaj (zap rfl) rfl⟩
   · exact .inl ⟨rfl, zaj (zbj rfl rfl rfl (by constructor <;> omega)) rfl⟩
   · exact .inl ⟨rfl, zaj (zap rfl) rfl⟩
   · exact .inl ⟨rfl, zaj (zap rfl) rfl⟩
   · exact .inl ⟨rfl, zaj (zal (s := 1) rfl Try.underlying41 (by kernel_rfl) rfl rfl (zak hv.row) (by omega) (by omega)) rfl⟩
   · exact .inl ⟨rfl, zaj (zam (u := (rs.getD i crow0).v) rfl (by kernel_rfl) rfl (zak hv.row) (zbz crowC (fun r => r.v) (fun _ => rfl) rs crow0 (show i < _ by omega))) rfl⟩
   · exact .inl ⟨rfl, rq_cb (zba (by kernel_rfl) rfl (fun w hm => zbk (CutOkE_ans n (n.fst + (i : Int)) (rs.getD i crow0).xs _ w (hr.below hm.bel) hn ((hv.at (k := i) (by omega)).below hm.bel) (by omega) (by omega)))) hb5⟩
   · exact .inl ⟨rfl, zaj (zap rfl) rfl⟩
   · exact .inl ⟨rfl, zaj (zap rfl) rfl⟩
   · exact .inr ⟨rfl, rfl⟩
   · exact .inr ⟨rfl, rfl⟩
   · exact .inr ⟨rfl, rfl⟩
   · exact .inr ⟨rfl, rfl⟩
   · exact .inr ⟨rfl, rfl⟩
   · exact .inr ⟨rfl, rfl⟩
   · exact .inr ⟨rfl, rfl⟩
   · exact .inr ⟨rfl, rfl⟩
   · exact .inr ⟨rfl, rfl⟩
   exact .inl ⟨rfl, zaj (zap rfl) rfl⟩
  refine zac [44, 20, 16, 5, 4, 2, 1, 0] rfl ?_
  simp only [List.drop_succ_cons, List.drop_zero]
  refine zac [44, 20, 16, 5, 4, 2, 1, 0] rfl (zae (zaa (zbb rfl (zaf (zab ?_)))))
  refine zad 1 rfl (zac [44, 20, 16, 5, 4, 2, 1, 0] rfl (zae (zaa ?_)))
  refine zbl ?_
  refine zbf ?_
  refine zao (zao ?_)
  refine zbf ?_
  refine zao ?_
  exact zch rfl rfl (congrArg Value.bool (pBe_no (p := MapP n rs) (fun h => by have h9 := h.cut i (by omega); first | (exact absurd (pBe_yes h9.1) (by rw [show pBe (CutP n (n.fst + (i : Int)) (rs.getD i crow0).xs) = false by assumption]; decide)) | (exact absurd h9.2 (by rw [show hasB (rs.getD i crow0).xs (n.fst + (i : Int)) = true by assumption]; decide)))).symm)
 refine zac [20, 16, 5, 4, 2, 1, 0] rfl (zae (zaa (zaq rfl ?_)))
 refine zbp ?_
 refine zah (zah ?_)
 refine zav ?_
 refine zaa (zaf (zab (zad 1 rfl (zac [20, 16, 5, 4, 2, 1, 0] rfl (zae ?_)))))
 refine zaa ?_
 refine zbl ?_
 exact zch rfl rfl (congrArg Value.bool (pBe_yes (p := MapP n rs) ⟨by omega, fun j hj => hel j (by omega)⟩).symm)
set_option maxHeartbeats 4000000 in
set_option maxRecDepth 100000 in
theorem CutTableE_ret (n : Nt) (node : Int) (cut : List Int) (cv : Value) (w : World) (hr : RdsNt w n) (hn : NtOk n) (hcr : RdsW w cv 1 cut.length (cut.map (Value.int .i64))) (hnd : 0 ≤ node ∧ node < n.cnt) (hcp : CutP n node cut) :
   Calls Try.prog 80 #[.agg #[.int .i64 n.ins, n.sv, n.av, n.ov], .int .i64 node, cv] w (Ret w (fun u_ p_ => ∃ b : Int, u_ = .agg #[.int .i64 (cut.length : Int), .int .i64 b] ∧ p_ = [] ∧ TabOk (Tab.mk (cut.length : Int) b))) := by
 have hi0 := hn.i0
 have hi1 := hn.i1
 have hs1 := hn.s1
 have ha1 := hn.a1
 have ho1 := hn.o1
 have hcnt : n.cnt = 1 + n.ins + n.ss.length + n.gs.length := rfl
 have hfst : n.fst = 1 + n.ins + n.ss.length := rfl
 have hcl4 := hcp.len
 have hpn := pn_rng (n := (cut.length : Int)) (by omega)
 refine zbq (N := 96) (args := [.agg #[.int .i64 n.ins, n.sv, n.av, n.ov], .int .i64 node, cv]) Try.func80 rfl rfl ?_
 refine zbt _ [2, 1, 0] rfl (zaf (zab ?_))
 refine zci rfl rfl rfl (zdd rfl rfl) ?_
 intro b1
 refine zci rfl rfl rfl (zcj (z := .agg #[.int .i64 0, .int .i64 0]) rfl (by kernel_rfl)) ?_
 intro b2
 refine zac [6, 3, 2, 1, 0] rfl (zae (zaa (zaf (zaf (zab ?_)))))
 refine hl_v rfl rfl rfl (zbc (cs := [.int .i64 n.ins, n.sv, n.av, n.ov]) rfl (by kernel_rfl) (by kernel_rfl) rfl rfl (zay 1 rfl 0 rfl)) (zad 2 rfl ?_)
 refine zbm rfl rfl rfl (zba (by kernel_rfl) rfl (fun w hm => zbk (by have h9 := CutOkE_ans n node cut cv w (hr.below hm.bel) hn (hcr.below hm.bel) hnd (by omega); rw [pBe_yes hcp] at h9; exact h9))) ?_
 refine zad 1 rfl (zac [18, 6, 3, 2, 1, 0] rfl (zae (zaa (zaq rfl (zaz ?_)))))
 refine zaa (zaf (zab (zad 1 rfl (hl_v rfl rfl rfl (zbo rfl Try.underlying26 rfl (zak hcr)) (hl_v rfl rfl rfl (zdu (cs := #[.int .i64 (cut.length : Int), .int .i64 0]) rfl rfl (by kernel_rfl)) ?_)))))
 refine zci rfl rfl rfl (zcj (z := .agg #[.int .i64 0, .int .i64 0]) rfl (by kernel_rfl)) ?_
 intro b3
 refine zcn (cs' := #[.int .i64 (cut.length : Int), .int .i64 0]) (i := 0) (off := 0) (us := [.int .i64 (cut.length : Int), .int .i64 0]) rfl rfl rfl (by kernel_rfl) rfl rfl rfl (zar rfl (zar rfl zby)) rfl rfl rfl ?_
 refine zac [18, 7, 6, 3, 2, 1, 0] rfl (zae (zaa (zaf (zaf (zab ?_)))))
 refine zad 1 rfl (zac [18, 8, 7, 6, 3, 2, 1, 0] rfl (zae (zaa (zax ?_))))
 refine zdt (α := Nat) (β := Int) (fun i b => [boxE b3 #[.int .i64 (cut.length : Int), .int .i64 b] 75, boxE b2 #[.int .i64 0, .int .i64 0] 75, boxE b1 #[.int .i64 n.ins, n.sv, n.av, n.ov] 101]) (fun i b => [(0, .agg #[.int .i64 n.ins, n.sv, n.av, n.ov]), (1, .int .i64 node), (2, cv), (3, .pointer (some ⟨b1, 0, none⟩)), (6, .pointer (some ⟨b2, 0, none⟩)), (7, .pointer (some ⟨b3, 0, none⟩)), (8, .int .i64 (i : Int)), (18, .bool false)]) (fun i b => i ≤ pn (cut.length : Int) ∧ 0 ≤ b ∧ b < 2 ^ i) (fun i b => pn (cut.length : Int) - i) 0 0 ⟨Nat.zero_le _, Int.le_refl _, by decide⟩ (zan [18, 8, 7, 6, 3, 2, 1, 0] rfl) ((.cons_cons _ (.cons_cons _ (.cons_cons _ .slnil)))) ?_
 intro i b hi4
 obtain ⟨hi, hb0, hb1⟩ := hi4
 have hp16 := pow16 (k := i) (by omega)
 refine zaf (zaf (zab (zad 2 rfl (hl_v rfl rfl rfl (zbo rfl Try.underlying26 rfl (zak hcr)) (hl_v rfl rfl rfl (zfd (k := .i64) (kk := .i64) (r := (pn (cut.length : Int) : Int)) rfl rfl rfl rfl (by omega) (wr1 (by omega))) ?_)))))
 refine zbw rfl rfl rfl rfl rfl rfl (fun h5 => ?_) (fun h5 => ?_)
 ·
  refine zac [27, 18, 8, 7, 6, 3, 2, 1, 0] rfl (zae (zaa (zbb rfl (zaz (zaa ?_)))))
  refine zaf (zax (zaf (zab (hl_v rfl rfl rfl (zbc (cs := [.int .i64 n.ins, n.sv, n.av, n.ov]) rfl (by kernel_rfl) (by kernel_rfl) rfl rfl (zay 2 rfl 0 rfl)) ?_))))
  refine zbm rfl rfl rfl (zba (by kernel_rfl) rfl (fun w hm => zbk (zbs n w (hr.below hm.bel) hn))) ?_
  refine zbr rfl rfl rfl (zeu (z := .int .i64 0) (s := 1) (bytes := 8) (n := (List.replicate (n.cnt).toNat (0 : Int)).length) (cs := ((List.replicate (n.cnt).toNat (0 : Int)).map (Value.int .i64))) rfl Try.underlying26 (by kernel_rfl) (by decide) rfl rfl (by first | (rw [List.length_replicate]; done) | (rw [List.length_replicate]; omega)) (by first | (rw [List.length_replicate]; done) | (rw [List.length_replicate]; omega)) (by rw [List.length_replicate]; omega) (zfr _)) ?_
  intro g6
  refine zad 1 rfl (zac [27, 18, 9, 8, 7, 6, 3, 2, 1, 0] rfl (zae (zaa (zaf (zaf ?_)))))
  refine zab (zad 1 rfl (zac [27, 18, 10, 9, 8, 7, 6, 3, 2, 1, 0] rfl (zae (zaa (zax ?_)))))
  refine zdt (α := Nat) (β := List Int) (fun k vs => [rowE 3 1 (.slice (some ⟨g6, 0, none⟩) ((List.replicate (n.cnt).toNat (0 : Int)).length) ((List.replicate (n.cnt).toNat (0 : Int)).length)) vs.length (vs.map (Value.int .i64)), boxE b3 #[.int .i64 (cut.length : Int), .int .i64 b] 75, boxE b2 #[.int .i64 0, .int .i64 0] 75, boxE b1 #[.int .i64 n.ins, n.sv, n.av, n.ov] 101]) (fun k vs => [(0, .agg #[.int .i64 n.ins, n.sv, n.av, n.ov]), (1, .int .i64 node), (2, cv), (3, .pointer (some ⟨b1, 0, none⟩)), (6, .pointer (some ⟨b2, 0, none⟩)), (7, .pointer (some ⟨b3, 0, none⟩)), (8, .int .i64 (i : Int)), (9, .slice (some ⟨g6, 0, none⟩) ((List.replicate (n.cnt).toNat (0 : Int)).length) ((List.replicate (n.cnt).toNat (0 : Int)).length)), (10, .int .i64 (k : Int)), (18, .bool false), (27, .bool true)]) (fun k vs => (k : Int) ≤ node + 1 ∧ vs.length = n.cnt.toNat ∧ B01 vs) (fun k vs => node.toNat + 1 - k) 0 _ ⟨by omega, by rw [List.length_replicate], b01_rep _⟩ (zan [27, 18, 10, 9, 8, 7, 6, 3, 2, 1, 0] rfl) ((.cons_cons _ (.cons_cons _ (.cons_cons _ (.cons_cons _ .slnil))))) ?_
  intro k vs hi7
  obtain ⟨hk, hvl, hv01⟩ := hi7
  refine zaf (zaf (zab (zad 2 rfl ?_)))
  refine hl_leq rfl rfl rfl rfl rfl rfl (fun h8 => ?_) (fun h8 => ?_)
  ·
   refine zac [35, 27, 18, 10, 9, 8, 7, 6, 3, 2, 1, 0] rfl (zae (zaa (zbb rfl (zaz (zaa ?_)))))
   refine zaf (zax (zaf (zab (zad 1 rfl (zac [35, 27, 18, 11, 10, 9, 8, 7, 6, 3, 2, 1, 0] rfl ?_)))))
   refine zae (zaa (zaf (zaf (zab (zad 1 rfl ?_)))))
   refine zac [35, 27, 18, 12, 11, 10, 9, 8, 7, 6, 3, 2, 1, 0] rfl (zae (zaa (zax ?_)))
   refine zcy (α := Nat) (β := List Int) (γ := Bool) (fun j vs2 sb => [rowE 3 1 (.slice (some ⟨g6, 0, none⟩) ((List.replicate (n.cnt).toNat (0 : Int)).length) ((List.replicate (n.cnt).toNat (0 : Int)).length)) vs2.length (vs2.map (Value.int .i64)), boxE b3 #[.int .i64 (cut.length : Int), .int .i64 b] 75, boxE b2 #[.int .i64 0, .int .i64 0] 75, boxE b1 #[.int .i64 n.ins, n.sv, n.av, n.ov] 101]) (fun j vs2 sb => [(0, .agg #[.int .i64 n.ins, n.sv, n.av, n.ov]), (1, .int .i64 node), (2, cv), (3, .pointer (some ⟨b1, 0, none⟩)), (6, .pointer (some ⟨b2, 0, none⟩)), (7, .pointer (some ⟨b3, 0, none⟩)), (8, .int .i64 (i : Int)), (9, .slice (some ⟨g6, 0, none⟩) ((List.replicate (n.cnt).toNat (0 : Int)).length) ((List.replicate (n.cnt).toNat (0 : Int)).length)), (10, .int .i64 (k : Int)), (11, .bool sb), (12, .int .i64 (j : Int)), (18, .bool false), (27, .bool true), (35, .bool true)]) (fun j vs2 sb => j ≤ cut.length ∧ vs2.length = n.cnt.toNat ∧ B01 vs2) (fun j vs2 sb => cut.length - j) 0 vs false ⟨Nat.zero_le _, hvl, hv01⟩ (zan [35, 27, 18, 12, 11, 10, 9, 8, 7, 6, 3, 2, 1, 0] rfl) ((.cons_cons _ (.cons_cons _ (.cons_cons _ (.cons_cons _ .slnil))))) ?_
   intro j vs2 sb hi9
   obtain ⟨hj, hvl2, hv02⟩ := hi9
   refine zaf (zaf (zab (zad 2 rfl (hl_v rfl rfl rfl (zbo rfl Try.underlying26 rfl (zak hcr)) ?_))))
   refine zbw rfl rfl rfl rfl rfl rfl (fun h10 => ?_) (fun h10 => ?_)
   ·
    refine zac [41, 35, 27, 18, 12, 11, 10, 9, 8, 7, 6, 3, 2, 1, 0] rfl (zae (zaa (zbb rfl (zaz (zaa ?_)))))
    refine zaf (zax (zaf (zab (zad 2 rfl (hl_v rfl rfl rfl (zal (s := 1) rfl Try.underlying26 (by kernel_rfl) rfl rfl (zak hcr) (by omega) (by omega)) ?_)))))
    refine hl_v rfl rfl rfl (zam (u := .int .i64 (cut.getD j 0)) rfl (by kernel_rfl) rfl (zak hcr) (zbg (show _ < cut.length by omega))) (zad 1 rfl ?_)
    refine zdi rfl rfl rfl rfl rfl rfl (fun h11 => ?_) (fun h11 => ?_)
    ·
     refine zac [49, 41, 35, 27, 18, 12, 11, 10, 9, 8, 7, 6, 3, 2, 1, 0] rfl (zae (zaa (zbb rfl (zaf (zab ?_)))))
     refine zad 4 rfl (hl_v rfl rfl rfl (rv_shr rfl rfl rfl (by omega)) (hl_v rfl rfl rfl (zeg rfl (by decide) rfl rfl (r := ((i : Int) / 2 ^ ((j : Int)).toNat % 2)) (andB _ (by omega))) (hl_v rfl rfl rfl (zal (s := 1) rfl Try.underlying26 (by kernel_rfl) rfl rfl (zas 0 rfl) (by omega) (by omega)) ?_)))
     refine zdp (i := 0) (n' := (vs2.set k ((i : Int) / 2 ^ ((j : Int)).toNat % 2)).length) (xs' := ((vs2.set k ((i : Int) / 2 ^ ((j : Int)).toNat % 2)).map (Value.int .i64))) rfl rfl rfl (by kernel_rfl) rfl rfl rfl rfl (by first | omega | (simp only [List.length_set]; omega)) List.length_set.symm (zep _ _ _) rfl ?_
     refine zac [49, 41, 35, 27, 18, 12, 11, 10, 9, 8, 7, 6, 3, 2, 1, 0] rfl (zae (zaa (zab (zad 1 rfl (zac [49, 41, 35, 27, 18, 12, 11, 10, 9, 8, 7, 6, 3, 2, 1, 0] rfl ?_)))))
     refine zae (zai (zaa (zab (zad 1 rfl (hl_v rfl rfl rfl (zbj rfl rfl rfl (by constructor <;> omega)) ?_)))))
     refine zad 1 rfl (zac [49, 41, 35, 27, 18, 12, 11, 10, 9, 8, 7, 6, 3, 2, 1, 0] rfl (zae ?_))
     exact zce (j + 1) (vs2.set k ((i : Int) / 2 ^ ((j : Int)).toNat % 2)) true ⟨by omega, by rw [List.length_set]; exact hvl2, b01_set hv02 (by omega)⟩ (by omega) (zan [35, 27, 18, 12, 11, 10, 9, 8, 7, 6, 3, 2, 1, 0] rfl) ((.cons_cons _ (.cons_cons _ (.cons_cons _ (.cons_cons _ .slnil)))))
    refine zac [49, 41, 35, 27, 18, 12, 11, 10, 9, 8, 7, 6, 3, 2, 1, 0] rfl (zae (zaa (zaq rfl (zaz (zai ?_)))))
    refine zaa (zab (zad 1 rfl (hl_v rfl rfl rfl (zbj rfl rfl rfl (by constructor <;> omega)) (zad 1 rfl (zac [49, 41, 35, 27, 18, 12, 11, 10, 9, 8, 7, 6, 3, 2, 1, 0] rfl ?_)))))
    refine zae ?_
    exact zce (j + 1) vs2 sb ⟨by omega, hvl2, hv02⟩ (by omega) (zan [35, 27, 18, 12, 11, 10, 9, 8, 7, 6, 3, 2, 1, 0] rfl) ((.cons_cons _ (.cons_cons _ (.cons_cons _ (.cons_cons _ .slnil)))))
   refine zac [41, 35, 27, 18, 12, 11, 10, 9, 8, 7, 6, 3, 2, 1, 0] rfl (zae (zaa (zaq rfl ?_)))
   refine zbp ?_
   refine zah (zah ?_)
   refine zav ?_
   refine zaa (zaf (zab (hl_v rfl rfl rfl (zap rfl) ?_)))
   refine zck (fun h12 => ?_) (fun h12 => ?_)
   ·
    refine zad 3 rfl (zbi rfl rfl rfl (zbi rfl rfl rfl (zbi rfl rfl rfl (zad 1 rfl (zac [64, 41, 35, 27, 18, 12, 11, 10, 9, 8, 7, 6, 3, 2, 1, 0] rfl ?_)))))
    refine zae (zaa (zaq rfl (zaz (zai (zaa ?_)))))
    refine zab (zad 1 rfl (hl_v rfl rfl rfl (zbj rfl rfl rfl (by constructor <;> omega)) (zad 1 rfl (zac [64, 41, 35, 27, 18, 12, 11, 10, 9, 8, 7, 6, 3, 2, 1, 0] rfl (zae ?_)))))
    exact zcu (k + 1) vs2 ⟨by omega, hvl2, hv02⟩ (by omega) (zan [27, 18, 10, 9, 8, 7, 6, 3, 2, 1, 0] rfl) ((.cons_cons _ (.cons_cons _ (.cons_cons _ (.cons_cons _ .slnil)))))
   refine zad 3 rfl (hl_v rfl rfl rfl (zbc (cs := [.int .i64 n.ins, n.sv, n.av, n.ov]) rfl (by kernel_rfl) (by kernel_rfl) rfl rfl (zay 3 rfl 0 rfl)) ?_)
   refine zbm rfl rfl rfl (zba (by kernel_rfl) rfl (fun w hm => zbk (zbv n w (hr.below hm.bel) hn))) ?_
   refine zey rfl rfl rfl rfl rfl rfl (fun h13 => ?_) (fun h13 => ?_)
   ·
    refine zad 1 rfl (zac [64, 41, 35, 27, 18, 12, 11, 10, 9, 8, 7, 6, 3, 2, 1, 0] rfl (zae (zaa (zbb rfl (zaf ?_)))))
    have hani := hn.an ((k : Int) - n.fst).toNat (by omega)
    unfold LtOk at hani
    refine zdj (by kernel_rfl) 9 [0, 1, 2, 3, 4, 5, 6, 7, 8] (List.take 9 _) (List.drop 9 _) [[], [0], [], [], [3], [2, 4], [1, 5], [6], []] [65, 66, 67, 68, 69, 70, 71, 72, 13] (fun i_ vs_ v_ p_ => match i_ with | 0 => v_ = .pointer (some ⟨b1, 0 + 2, none⟩) ∧ p_ = [] | 1 => v_ = n.av ∧ p_ = [] | 2 => v_ = .int .i64 (k : Int) ∧ p_ = [] | 3 => v_ = .agg #[.int .i64 n.ins, n.sv, n.av, n.ov] ∧ p_ = [] | 4 => v_ = .int .i64 n.fst ∧ p_ = [] | 5 => v_ = .int .i64 ((k : Int) - n.fst) ∧ p_ = [] | 6 => v_ = elP n.av (((k : Int) - n.fst).toNat * 2) ∧ p_ = [] | 7 => v_ = .agg #[.int .i64 ((n.gs.getD (((k : Int) - n.fst).toNat) an0).a), .int .i64 ((n.gs.getD (((k : Int) - n.fst).toNat) an0).b)] ∧ p_ = [] | 8 => IsBox #[.int .i64 0, .int .i64 0] 124 v_ p_ | _ => True) (List.take_append_drop 9 _).symm (by kernel_rfl) (by kernel_rfl) rfl rfl ?_ ?_
    ·
     refine ⟨?_, ?_, ?_, ?_, ?_, ?_, ?_, ?_, ?_, trivial⟩
     ·
      intro vf pf hR
      refine Or.inl ⟨rfl, ?_⟩
      refine zbh (sk 3 rfl (zag _)) ?_
      exact rq_v (zat (k0 := 2) rfl (by kernel_rfl) rfl)
     ·
      intro vf pf hR
      have e0 : (vf 0) = .pointer (some ⟨b1, 0 + 2, none⟩) ∧ (pf 0) = [] := hR 0 (by decide)
      refine Or.inl ⟨rfl, ?_⟩
      refine zau (sk 65 (congrArg some e0.1) (zag _)) (List.sublist_append_right _ _) ?_
      exact rq_v (zbd rfl (by kernel_rfl) rfl (zaw 3 rfl rfl))
     ·
      intro vf pf hR
      refine Or.inl ⟨rfl, ?_⟩
      refine zbh (sk 10 rfl (zag _)) ?_
      exact rq_v (zap rfl)
     ·
      intro vf pf hR
      refine Or.inl ⟨rfl, ?_⟩
      refine zau (sk 3 rfl (zag _)) (List.sublist_append_right _ _) ?_
      exact rq_v (zbc (cs := [.int .i64 n.ins, n.sv, n.av, n.ov]) rfl (by kernel_rfl) (by kernel_rfl) rfl rfl (zay 3 rfl 0 rfl))
     ·
      intro vf pf hR
      have e3 : (vf 3) = .agg #[.int .i64 n.ins, n.sv, n.av, n.ov] ∧ (pf 3) = [] := hR 3 (by decide)
      refine Or.inl ⟨rfl, ?_⟩
      refine zau (sk 68 (congrArg some e3.1) (zag _)) (List.sublist_append_right _ _) ?_
      exact (zba (by kernel_rfl) rfl (fun w hm => zbk (zbv n w (hr.below hm.bel) hn)))
     ·
      intro vf pf hR
      have e2 : (vf 2) = .int .i64 (k : Int) ∧ (pf 2) = [] := hR 2 (by decide)
      have e4 : (vf 4) = .int .i64 n.fst ∧ (pf 4) = [] := hR 4 (by decide)
      refine Or.inl ⟨rfl, ?_⟩
      refine zbh (sk 67 (congrArg some e2.1) (sk 69 (congrArg some e4.1) (zag _))) ?_
      exact rq_v (zdb rfl rfl rfl (by constructor <;> omega))
     ·
      intro vf pf hR
      have e1 : (vf 1) = n.av ∧ (pf 1) = [] := hR 1 (by decide)
      have e5 : (vf 5) = .int .i64 ((k : Int) - n.fst) ∧ (pf 5) = [] := hR 5 (by decide)
      refine Or.inl ⟨rfl, ?_⟩
      refine zau (sk 66 (congrArg some e1.1) (sk 70 (congrArg some e5.1) (zag _))) (List.sublist_append_right _ _) ?_
      exact rq_v (zal (s := 2) rfl Try.underlying99 (by kernel_rfl) rfl rfl (zak hr.an) (by omega) (by omega))
     ·
      intro vf pf hR
      have e6 : (vf 6) = elP n.av (((k : Int) - n.fst).toNat * 2) ∧ (pf 6) = [] := hR 6 (by decide)
      refine Or.inl ⟨rfl, ?_⟩
      refine zau (sk 71 (congrArg some e6.1) (zag _)) (List.sublist_append_right _ _) ?_
      exact rq_v (zdr (us := [.int .i64 ((n.gs.getD (((k : Int) - n.fst).toNat) an0).a), .int .i64 ((n.gs.getD (((k : Int) - n.fst).toNat) an0).b)]) rfl (by kernel_rfl) (by kernel_rfl) rfl (zak hr.an) (by omega) rfl (zel anC 2 (fun _ => rfl) n.gs an0 (show ((k : Int) - n.fst).toNat < _ by omega) rfl))
     intro vf pf hR
     refine Or.inl ⟨rfl, ?_⟩
     refine zau (zag _) (List.sublist_append_right _ _) ?_
     exact zcj (z := .agg #[.int .i64 0, .int .i64 0]) rfl (by kernel_rfl)
    intro vf pf hR
    have e7 : (vf 7) = .agg #[.int .i64 ((n.gs.getD (((k : Int) - n.fst).toNat) an0).a), .int .i64 ((n.gs.getD (((k : Int) - n.fst).toNat) an0).b)] ∧ (pf 7) = [] := hR 7 (by decide)
    have e8 : IsBox #[.int .i64 0, .int .i64 0] 124 (vf 8) (pf 8) := hR 8 (by decide)
    obtain ⟨b14, vE8, pE8⟩ := e8
    have q0 : (vf 0) = .pointer (some ⟨b1, 0 + 2, none⟩) ∧ (pf 0) = [] := hR 0 (by decide)
    have q1 : (vf 1) = n.av ∧ (pf 1) = [] := hR 1 (by decide)
    have q2 : (vf 2) = .int .i64 (k : Int) ∧ (pf 2) = [] := hR 2 (by decide)
    have q3 : (vf 3) = .agg #[.int .i64 n.ins, n.sv, n.av, n.ov] ∧ (pf 3) = [] := hR 3 (by decide)
    have q4 : (vf 4) = .int .i64 n.fst ∧ (pf 4) = [] := hR 4 (by decide)
    have q5 : (vf 5) = .int .i64 ((k : Int) - n.fst) ∧ (pf 5) = [] := hR 5 (by decide)
    have q6 : (vf 6) = elP n.av (((k : Int) - n.fst).toNat * 2) ∧ (pf 6) = [] := hR 6 (by decide)
    have q7 : (vf 7) = .agg #[.int .i64 ((n.gs.getD (((k : Int) - n.fst).toNat) an0).a), .int .i64 ((n.gs.getD (((k : Int) - n.fst).toNat) an0).b)] ∧ (pf 7) = [] := hR 7 (by decide)
    refine zcs (sk 0 rfl (sk 1 rfl (sk 2 rfl (sk 3 rfl (sk 6 rfl (sk 7 rfl (sk 8 rfl (sk 9 rfl (sk 10 rfl (sk 11 rfl (sk 12 rfl (sk 13 (congrArg some vE8) (sk 18 rfl (sk 27 rfl (sk 35 rfl (sk 41 rfl (sk 64 rfl (sk 72 (congrArg some e7.1) (zag _))))))))))))))))))) (by simp only [pE8, vE8, q0.2, q1.2, q2.2, q3.2, q4.2, q5.2, q6.2, q7.2, fS] <;> rfl) ?_
    simp only [List.drop_succ_cons, List.drop_zero]
    refine zcn (cs' := #[.int .i64 ((n.gs.getD (((k : Int) - n.fst).toNat) an0).a), .int .i64 ((n.gs.getD (((k : Int) - n.fst).toNat) an0).b)]) (i := 0) (off := 0) (us := [.int .i64 ((n.gs.getD (((k : Int) - n.fst).toNat) an0).a), .int .i64 ((n.gs.getD (((k : Int) - n.fst).toNat) an0).b)]) rfl rfl rfl (by kernel_rfl) rfl rfl rfl (zar rfl (zar rfl zby)) rfl rfl rfl ?_
    refine zac [64, 41, 35, 27, 18, 13, 12, 11, 10, 9, 8, 7, 6, 3, 2, 1, 0] rfl (zae (zaa ?_))
    refine zca 12 [[], [], [], [], [3], [2, 4], [], [], [7], [6, 8], [5, 9], [0, 1]] [73, 74, 75, 76, 77, 78, 79, 80, 81, 82, 83, 84] [.slice (some ⟨g6, 0, none⟩) ((List.replicate (n.cnt).toNat (0 : Int)).length) ((List.replicate (n.cnt).toNat (0 : Int)).length), .int .i64 (k : Int), .slice (some ⟨g6, 0, none⟩) ((List.replicate (n.cnt).toNat (0 : Int)).length) ((List.replicate (n.cnt).toNat (0 : Int)).length), .pointer (some ⟨b14, 0 + 0, none⟩), .int .i64 ((n.gs.getD (((k : Int) - n.fst).toNat) an0).a), .int .i64 (bitL vs2 ((n.gs.getD (((k : Int) - n.fst).toNat) an0).a)), .slice (some ⟨g6, 0, none⟩) ((List.replicate (n.cnt).toNat (0 : Int)).length) ((List.replicate (n.cnt).toNat (0 : Int)).length), .pointer (some ⟨b14, 0 + 1, none⟩), .int .i64 ((n.gs.getD (((k : Int) - n.fst).toNat) an0).b), .int .i64 (bitL vs2 ((n.gs.getD (((k : Int) - n.fst).toNat) an0).b)), .int .i64 ((bitL vs2 ((n.gs.getD (((k : Int) - n.fst).toNat) an0).a)) * (bitL vs2 ((n.gs.getD (((k : Int) - n.fst).toNat) an0).b))), elP (.slice (some ⟨g6, 0, none⟩) ((List.replicate (n.cnt).toNat (0 : Int)).length) ((List.replicate (n.cnt).toNat (0 : Int)).length)) (((k : Int)).toNat * 1)] (by kernel_rfl) rfl ?_ ?_
    ·
     refine ⟨?_, ?_, ?_, ?_, ?_, ?_, ?_, ?_, ?_, ?_, ?_, ?_, trivial⟩
     · exact .inl ⟨rfl, zaj (zap rfl) rfl⟩
     · exact .inl ⟨rfl, zaj (zap rfl) rfl⟩
     · exact .inl ⟨rfl, zaj (zap rfl) rfl⟩
     · exact .inl ⟨rfl, zaj (zat (k0 := 0) rfl (by kernel_rfl) rfl) rfl⟩
     · exact .inl ⟨rfl, zaj (zbd rfl (by kernel_rfl) rfl (zaw 0 rfl rfl)) rfl⟩
     · exact .inl ⟨rfl, zba (by kernel_rfl) rfl (fun w hm => zbk (l09Bit_ans vs2 ((n.gs.getD (((k : Int) - n.fst).toNat) an0).a) _ w ((zas 1 rfl) w hm) (by omega) (hv02 _ (by omega)) (by omega)))⟩
     · exact .inl ⟨rfl, zaj (zap rfl) rfl⟩
     · exact .inl ⟨rfl, zaj (zat (k0 := 1) rfl (by kernel_rfl) rfl) rfl⟩
     · exact .inl ⟨rfl, zaj (zbd rfl (by kernel_rfl) rfl (zaw 0 rfl rfl)) rfl⟩
     · exact .inl ⟨rfl, zba (by kernel_rfl) rfl (fun w hm => zbk (l09Bit_ans vs2 ((n.gs.getD (((k : Int) - n.fst).toNat) an0).b) _ w ((zas 1 rfl) w hm) (by omega) (hv02 _ (by omega)) (by omega)))⟩
     · exact .inl ⟨rfl, zaj (zeg rfl (by decide) rfl rfl (r := (bitL vs2 ((n.gs.getD (((k : Int) - n.fst).toNat) an0).a)) * (bitL vs2 ((n.gs.getD (((k : Int) - n.fst).toNat) an0).b))) (and01 (bit01 hv02 (by omega) (by omega)) (bit01 hv02 (by omega) (by omega)))) rfl⟩
     exact .inl ⟨rfl, zaj (zal (s := 1) rfl Try.underlying26 (by kernel_rfl) rfl rfl (zas 1 rfl) (by omega) (by omega)) rfl⟩
    refine zac [84, 83, 64, 41, 35, 27, 18, 13, 12, 11, 10, 9, 8, 7, 6, 3, 2, 1, 0] rfl ?_
    simp only [List.drop_succ_cons, List.drop_zero]
    refine zdp (i := 1) (n' := (vs2.set k ((bitL vs2 ((n.gs.getD (((k : Int) - n.fst).toNat) an0).a)) * (bitL vs2 ((n.gs.getD (((k : Int) - n.fst).toNat) an0).b)))).length) (xs' := ((vs2.set k ((bitL vs2 ((n.gs.getD (((k : Int) - n.fst).toNat) an0).a)) * (bitL vs2 ((n.gs.getD (((k : Int) - n.fst).toNat) an0).b)))).map (Value.int .i64))) rfl rfl rfl (by kernel_rfl) rfl rfl rfl rfl (by first | omega | (simp only [List.length_set]; omega)) List.length_set.symm (zep _ _ _) rfl ?_
    refine zac [64, 41, 35, 27, 18, 13, 12, 11, 10, 9, 8, 7, 6, 3, 2, 1, 0] rfl (zae (zai (zaa (zab (zad 1 rfl ?_)))))
    refine hl_v rfl rfl rfl (zbj rfl rfl rfl (by constructor <;> omega)) (zad 1 rfl (zac [64, 41, 35, 27, 18, 13, 12, 11, 10, 9, 8, 7, 6, 3, 2, 1, 0] rfl (zae ?_)))
    exact zcu (k + 1) (vs2.set k ((bitL vs2 ((n.gs.getD (((k : Int) - n.fst).toNat) an0).a)) * (bitL vs2 ((n.gs.getD (((k : Int) - n.fst).toNat) an0).b)))) ⟨by omega, by rw [List.length_set]; exact hvl2, b01_set hv02 (mul_01 (bit01 hv02 (by omega) (by omega)) (bit01 hv02 (by omega) (by omega)))⟩ (by omega) (zan [27, 18, 10, 9, 8, 7, 6, 3, 2, 1, 0] rfl) ((.cons _ (.cons_cons _ (.cons_cons _ (.cons_cons _ (.cons_cons _ .slnil))))))
   refine zad 1 rfl (zac [64, 41, 35, 27, 18, 12, 11, 10, 9, 8, 7, 6, 3, 2, 1, 0] rfl (zae (zaa (zaq rfl (zaz ?_)))))
   refine zai (zaa (zab (zad 1 rfl (hl_v rfl rfl rfl (zbj rfl rfl rfl (by constructor <;> omega)) (zad 1 rfl ?_)))))
   refine zac [64, 41, 35, 27, 18, 12, 11, 10, 9, 8, 7, 6, 3, 2, 1, 0] rfl (zae ?_)
   exact zcu (k + 1) vs2 ⟨by omega, hvl2, hv02⟩ (by omega) (zan [27, 18, 10, 9, 8, 7, 6, 3, 2, 1, 0] rfl) ((.cons_cons _ (.cons_cons _ (.cons_cons _ (.cons_cons _ .slnil)))))
  refine zac [35, 27, 18, 10, 9, 8, 7, 6, 3, 2, 1, 0] rfl (zae (zaa (zaq rfl ?_)))
  refine zbp ?_
  refine zah (zah ?_)
  refine zav ?_
  refine zaa ?_
  have hvb := hv01 (node).toNat (by omega)
  refine zca 10 [[], [0], [], [], [2, 3], [4], [], [5, 6], [1, 7], []] [85, 86, 87, 88, 89, 90, 91, 92, 93, 94] [.pointer (some ⟨b3, 0 + 1, none⟩), .int .i64 b, .slice (some ⟨g6, 0, none⟩) ((List.replicate (n.cnt).toNat (0 : Int)).length) ((List.replicate (n.cnt).toNat (0 : Int)).length), .int .i64 node, elP (.slice (some ⟨g6, 0, none⟩) ((List.replicate (n.cnt).toNat (0 : Int)).length) ((List.replicate (n.cnt).toNat (0 : Int)).length)) ((node).toNat * 1), .int .i64 (vs.getD ((node).toNat) 0), .int .i64 (i : Int), .int .i64 ((vs.getD (node).toNat 0) * 2 ^ i), .int .i64 (b + ((vs.getD (node).toNat 0) * 2 ^ i)), .pointer (some ⟨b3, 0 + 1, none⟩)] (by kernel_rfl) rfl ?_ ?_
  ·
   refine ⟨?_, ?_, ?_, ?_, ?_, ?_, ?_, ?_, ?_, ?_, trivial⟩
   · exact .inl ⟨rfl, zaj (zat (k0 := 1) rfl (by kernel_rfl) rfl) rfl⟩
   · exact .inl ⟨rfl, zaj (zbd rfl (by kernel_rfl) rfl (zaw 1 rfl rfl)) rfl⟩
   · exact .inl ⟨rfl, zaj (zap rfl) rfl⟩
   · exact .inl ⟨rfl, zaj (zap rfl) rfl⟩
   · exact .inl ⟨rfl, zaj (zal (s := 1) rfl Try.underlying26 (by kernel_rfl) rfl rfl (zas 0 rfl) (by omega) (by omega)) rfl⟩
   · exact .inl ⟨rfl, zaj (zam (u := .int .i64 (vs.getD ((node).toNat) 0)) rfl (by kernel_rfl) rfl (zas 0 rfl) (zbg (show _ < vs.length by omega))) rfl⟩
   · exact .inl ⟨rfl, zaj (zap rfl) rfl⟩
   · exact .inl ⟨rfl, zaj (zfd (k := .i64) (kk := .i64) (r := (vs.getD (node).toNat 0) * 2 ^ i) rfl rfl rfl rfl (by omega) (shl_bitE hvb (by omega))) rfl⟩
   · exact .inl ⟨rfl, zaj (zbj rfl rfl rfl (by rcases hvb with e9 | e9 <;> rw [e9] <;> constructor <;> omega)) rfl⟩
   exact .inl ⟨rfl, zaj (zat (k0 := 1) rfl (by kernel_rfl) rfl) rfl⟩
  refine zac [94, 93, 35, 27, 18, 10, 9, 8, 7, 6, 3, 2, 1, 0] rfl ?_
  simp only [List.drop_succ_cons, List.drop_zero]
  refine zem (i := 1) (cs' := #[.int .i64 (cut.length : Int), .int .i64 (b + ((vs.getD (node).toNat 0) * 2 ^ i))]) rfl rfl rfl (by kernel_rfl) rfl rfl rfl rfl rfl rfl rfl ?_
  refine zac [35, 27, 18, 10, 9, 8, 7, 6, 3, 2, 1, 0] rfl (zae (zai (zaa (zab (zad 1 rfl ?_)))))
  refine hl_v rfl rfl rfl (zbj rfl rfl rfl (by constructor <;> omega)) (zad 1 rfl (zac [35, 27, 18, 10, 9, 8, 7, 6, 3, 2, 1, 0] rfl (zae ?_)))
  exact zcu (i + 1) (b + ((vs.getD (node).toNat 0) * 2 ^ i)) ⟨by omega, (bits_next ⟨hb0, hb1⟩ hvb).1, (bits_next ⟨hb0, hb1⟩ hvb).2⟩ (by omega) (zan [18, 8, 7, 6, 3, 2, 1, 0] rfl) ((.cons _ (.cons_cons _ (.cons_cons _ (.cons_cons _ .slnil)))))
 refine zac [27, 18, 8, 7, 6, 3, 2, 1, 0] rfl (zae (zaa (zaq rfl ?_)))
 refine zbp ?_
 refine zah (zah ?_)
 refine zav ?_
 refine zaa (zaf (zab (hl_v rfl rfl rfl (zbc (cs := [.int .i64 (cut.length : Int), .int .i64 b]) rfl (by kernel_rfl) (by kernel_rfl) rfl rfl (zay 0 rfl 0 rfl)) ?_)))
 refine zcn (cs' := #[.int .i64 (cut.length : Int), .int .i64 b]) (i := 1) (off := 0) (us := [.int .i64 (cut.length : Int), .int .i64 b]) rfl rfl rfl (by kernel_rfl) rfl rfl rfl (zar rfl (zar rfl zby)) rfl rfl rfl ?_
 refine zac [27, 18, 8, 7, 6, 3, 2, 1, 0] rfl (zae (zaa ?_))
 refine zbl ?_
 exact zde (rs := [.cell 6 75]) (vs := [.agg #[.int .i64 (cut.length : Int), .int .i64 b]]) (post := []) rfl ⟨⟨b2, 0, [.int .i64 (cut.length : Int), .int .i64 b], rfl, rfl, by kernel_rfl, by kernel_rfl, zay 1 rfl 0 rfl⟩, trivial⟩ rfl ((.cons _ (.cons _ (.cons _ .slnil)))) ⟨b, rfl, rfl, bits_all (by omega) (by omega) ⟨hb0, hb1⟩⟩
/-- nodes translated -/
def ndL (to xs : List Int) : List Int := xs.map fun x => to.getD x.toNat 0
theorem ndL_len (to xs : List Int) : (ndL to xs).length = xs.length := by simp [ndL]
theorem ndL_at {to xs : List Int} {j : Nat} (h : j < xs.length) : (ndL to xs).getD j 0 = to.getD (xs.getD j 0).toNat 0 := by
  unfold ndL; rw [List.getD_eq_getElem?_getD, List.getElem?_map, List.getElem?_eq_getElem h, List.getD_eq_getElem?_getD (l := xs), List.getElem?_eq_getElem h]; rfl
/-- root literals translated -/
def rtN (to no : List Int) (l : Int) : Int := if l % 2 = 0 then to.getD (l / 2).toNat 0 else no.getD (l / 2).toNat 0
def rtL (to no ls : List Int) : List Int := ls.map (rtN to no)
theorem rtL_len (to no xs : List Int) : (rtL to no xs).length = xs.length := by simp [rtL]
theorem rtN_even {to no : List Int} {l : Int} (h : l % 2 = 0) : rtN to no l = to.getD (l / 2).toNat 0 := if_pos h
theorem rtN_odd {to no : List Int} {l : Int} (h : ¬ l % 2 = 0) : rtN to no l = no.getD (l / 2).toNat 0 := if_neg h
/-- marks -/
abbrev On (bs : List Bl) (k : Int) : Prop := (bs.getD k.toNat bl0).b = true
theorem on_set {bs : List Bl} {k : Int} {j : Nat} (h : On bs k) : On (bs.set j ⟨true⟩) k := by
  unfold On at *
  by_cases e : j = k.toNat
  · subst e
    by_cases hl : k.toNat < bs.length
    · rw [zdq hl]
    · rw [List.set_eq_of_length_le (by omega)]; exact h
  · rw [List.getD_eq_getElem?_getD, List.getElem?_set_ne e, ← List.getD_eq_getElem?_getD]; exact h
theorem on_new {bs : List Bl} {k : Int} {j : Nat} (hj : j = k.toNat) (h : j < bs.length) : On (bs.set j ⟨true⟩) k := by
  subst hj; unfold On; rw [zdq h]
theorem on_old {bs : List Bl} {k : Int} {j : Nat} (hj : j ≠ k.toNat) (h : On (bs.set j ⟨true⟩) k) : On bs k := by
  unfold On at *
  rwa [List.getD_eq_getElem?_getD, List.getElem?_set_ne hj, ← List.getD_eq_getElem?_getD] at h
/-- a root is marked -/
def RtU (pos neg : List Bl) (l : Int) : Prop := (l % 2 = 0 → On pos (l / 2)) ∧ (¬ l % 2 = 0 → On neg (l / 2))
theorem RtU.pos {pos neg : List Bl} {l : Int} (h : RtU pos neg l) (j : Nat) : RtU (pos.set j ⟨true⟩) neg l := ⟨fun e => on_set (h.1 e), h.2⟩
theorem RtU.neg {pos neg : List Bl} {l : Int} (h : RtU pos neg l) (j : Nat) : RtU pos (neg.set j ⟨true⟩) l := ⟨h.1, fun e => on_set (h.2 e)⟩
def RtsU (pos neg : List Bl) (R : List Int) (k : Nat) : Prop := ∀ j, j < k → RtU pos neg (R.getD j 0)
theorem RtsU.even {pos neg : List Bl} {R : List Int} {k : Nat} (h : RtsU pos neg R k) {j : Nat} (hj : j = (R.getD k 0 / 2).toNat) (hl : j < pos.length) (he : R.getD k 0 % 2 = 0) : RtsU (pos.set j ⟨true⟩) neg R (k + 1) := fun q hq => by
  by_cases e : q = k
  · subst e; exact ⟨fun _ => on_new hj hl, fun h9 => absurd he h9⟩
  · exact (h q (by omega)).pos j
theorem RtsU.odd {pos neg : List Bl} {R : List Int} {k : Nat} (h : RtsU pos neg R k) {j : Nat} (hj : j = (R.getD k 0 / 2).toNat) (hl : j < neg.length) (he : ¬ R.getD k 0 % 2 = 0) : RtsU pos (neg.set j ⟨true⟩) R (k + 1) := fun q hq => by
  by_cases e : q = k
  · subst e; exact ⟨fun h9 => absurd h9 he, fun _ => on_new hj hl⟩
  · exact (h q (by omega)).neg j
theorem RtsU.set {pos neg : List Bl} {R : List Int} {k : Nat} (h : RtsU pos neg R k) (j : Nat) : RtsU (pos.set j ⟨true⟩) neg R k := fun q hq => (h q hq).pos j
/-- the cut of a node that is used is used -/
def UseP (f : Int) (rs : List CRow) (pos neg : List Bl) (q : Nat) : Prop := (On pos (f + q) ∨ On neg (f + q)) → ∀ k, k < (rs.getD q crow0).xs.length → On pos ((rs.getD q crow0).xs.getD k 0)
theorem UseP.set {f : Int} {rs : List CRow} {pos neg : List Bl} {q : Nat} (h : UseP f rs pos neg q) {j : Nat} (hj : j ≠ (f + q).toNat) : UseP f rs (pos.set j ⟨true⟩) neg q := fun h9 k hk => on_set (h (h9.imp (on_old hj) id) k hk)
/-- the numbers given to the nodes -/
def TosOk (pos : List Bl) (f : Int) (L : Nat) (tos : List Int) : Prop := ∀ j, j < tos.length → ((j : Int) < f ∨ On pos j) → 0 ≤ tos.getD j 0 ∧ tos.getD j 0 < f + L
theorem TosOk.nil (pos : List Bl) (f : Int) : TosOk pos f 0 [] := fun j hj => absurd hj (by simp)
theorem TosOk.app {pos : List Bl} {f x : Int} {L L' : Nat} {tos : List Int} (h : TosOk pos f L tos) (hl : L ≤ L') (hx : ((tos.length : Int) < f ∨ On pos tos.length) → 0 ≤ x ∧ x < f + L') : TosOk pos f L' (tos ++ [x]) := fun j hj hp => by
  rw [List.length_append, List.length_singleton] at hj
  by_cases e : j < tos.length
  · rw [zeb e]; have := h j e hp; omega
  · have e2 : j = tos.length := by omega
    subst e2
    rw [zek (Nat.le_refl _), Nat.sub_self]; exact hx hp
theorem TosOk.up {pos : List Bl} {f : Int} {L L' : Nat} {tos : List Int} (h : TosOk pos f L tos) (hl : L ≤ L') : TosOk pos f L' tos := fun j hj hp => by have := h j hj hp; omega
def NosOk (neg : List Bl) (f : Int) (L k : Nat) (nos : List Int) : Prop := ∀ j, j < k → On neg j → 0 ≤ nos.getD j 0 ∧ nos.getD j 0 < f + L
theorem NosOk.skip {neg : List Bl} {f : Int} {L k : Nat} {nos : List Int} (h : NosOk neg f L k nos) (hn : (neg.getD k bl0).b = false) : NosOk neg f L (k + 1) nos := fun j hj ho => by
  by_cases e : j = k
  · subst e; unfold On at ho; rw [Int.toNat_natCast, hn] at ho; cases ho
  · exact h j (by omega) ho
theorem NosOk.put {neg : List Bl} {f x : Int} {L L' k : Nat} {nos : List Int} (h : NosOk neg f L k nos) (hk : k < nos.length) (hl : L ≤ L') (hx : 0 ≤ x ∧ x < f + L') : NosOk neg f L' (k + 1) (nos.set k x) := fun j hj ho => by
  by_cases e : j = k
  · subst e; rw [zdq hk]; exact hx
  · rw [List.getD_eq_getElem?_getD, List.getElem?_set_ne (by omega), ← List.getD_eq_getElem?_getD]
    have := h j (by omega) ho; omega
def LutsOk (f : Int) (ls : List Lt) : Prop := ∀ i, i < ls.length → LutP (f + i) (ls.getD i lt0)
theorem LutsOk.nil (f : Int) : LutsOk f [] := fun i hi => absurd hi (by simp)
theorem LutsOk.app {f : Int} {ls : List Lt} {x : Lt} (h : LutsOk f ls) (hx : LutP (f + ls.length) x) : LutsOk f (ls ++ [x]) := fun j hj => by
  rw [List.length_append, List.length_singleton] at hj
  by_cases e : j < ls.length
  · rw [zeb e]; exact h j e
  · have e2 : j = ls.length := by omega
    subst e2
    rw [zek (Nat.le_refl _), Nat.sub_self]; exact hx
theorem tabP_of {t : Tab} (h : TabOk t) {n : Int} (hn : t.N = n) : TabP n t.B := by subst hn; exact h
theorem LutP.one {f k : Int} {v : Value} (h0 : 0 ≤ k) (h1 : k < f) : LutP f (Lt.mk v [k] 1) := ⟨⟨by simp, fun j hj => by
  have : j = 0 := by simp at hj; omega
  subst this; exact ⟨h0, h1⟩⟩, by show TabP 1 1; unfold TabP; decide⟩
theorem LutP.none {f : Int} {v : Value} : LutP f (Lt.mk v [] 1) := ⟨⟨by simp, fun j hj => absurd hj (by simp)⟩, by show TabP 0 1; unfold TabP; decide⟩
theorem below_nd {pos : List Bl} {f : Int} {L : Nat} {tos xs : List Int} (h : TosOk pos f L tos) (hx : ∀ k, k < xs.length → 0 ≤ xs.getD k 0 ∧ xs.getD k 0 < tos.length) (ho : ∀ k, k < xs.length → On pos (xs.getD k 0)) : BelowP (ndL tos xs) (f + L) := fun j hj => by
  rw [ndL_len] at hj
  rw [ndL_at hj]
  have h1 := hx j hj
  have h2 := ho j hj
  exact h _ (by omega) (.inr (by unfold On at *; rwa [Int.toNat_natCast]))
theorem ndL_app {tos xs : List Int} {x : Int} (hx : ∀ k, k < xs.length → 0 ≤ xs.getD k 0 ∧ xs.getD k 0 < tos.length) : ndL (tos ++ [x]) xs = ndL tos xs := by
  unfold ndL
  refine List.map_congr_left fun y hy => ?_
  obtain ⟨i, hi, rfl⟩ := List.mem_iff_getElem.1 hy
  have := hx i hi
  rw [List.getD_eq_getElem?_getD, List.getElem?_eq_getElem hi] at this
  exact zeb (by simp only [Option.getD_some] at this; omega)
theorem lutP_mk {t : Tab} {f : Int} {v : Value} {xs : List Int} (ht : TabOk t) (hn : t.N = xs.length) (h4 : xs.length ≤ 4) (hb : BelowP xs f) : LutP f (Lt.mk v xs t.B) := ⟨⟨h4, hb⟩, tabP_of ht hn⟩
theorem below_rt {pos neg : List Bl} {f c : Int} {L : Nat} {tos nos ls : List Int} (h : TosOk pos f L tos) (h2 : NosOk neg f L nos.length nos) (hl : (tos.length : Int) = c) (hl2 : (nos.length : Int) = c) (hx : ∀ l ∈ ls, LtOk l c ∧ RtU pos neg l) : BelowP (rtL tos nos ls) (f + L) := fun j hj => by
  rw [rtL_len] at hj
  have h9 := hx _ (zcf (d := (0 : Int)) hj)
  have e : (rtL tos nos ls).getD j 0 = rtN tos nos (ls.getD j 0) := by
    unfold rtL; rw [List.getD_eq_getElem?_getD, List.getElem?_map, List.getElem?_eq_getElem hj, List.getD_eq_getElem?_getD (l := ls), List.getElem?_eq_getElem hj]; rfl
  rw [e]
  obtain ⟨h91, h92⟩ := h9
  unfold LtOk at h91
  by_cases he : ls.getD j 0 % 2 = 0
  · rw [rtN_even he]
    have := h92.1 he
    exact h _ (by omega) (.inr (by unfold On at *; rwa [Int.toNat_natCast]))
  · rw [rtN_odd he]
    have := h92.2 he
    exact h2 _ (by omega) (by unfold On at *; rwa [Int.toNat_natCast])
theorem RtsU.all {pos neg : List Bl} {R : List Int} (h : RtsU pos neg R R.length) : ∀ l ∈ R, RtU pos neg l := fun l hl => by
  obtain ⟨i, hi, rfl⟩ := List.mem_iff_getElem.1 hl
  have := h i hi
  rwa [List.getD_eq_getElem?_getD, List.getElem?_eq_getElem hi] at this
theorem rts_os {n : Nt} {l : Int} (h : l ∈ n.os) : l ∈ rtsL n n.ss.length := by unfold rtsL; exact List.mem_append.2 (.inl h)
theorem rts_sq {n : Nt} {s : Sq} (hs : s ∈ n.ss) {l : Int} (h : l ∈ s.xs) : l ∈ rtsL n n.ss.length := by
  unfold rtsL; rw [List.take_length]; exact List.mem_append.2 (.inr (List.mem_flatMap.2 ⟨s, hs, h⟩))
def RdsLuts (w : World) (ls : List Lt) : Prop := ∀ r ∈ ls, RdsW w r.iv 1 r.xs.length (r.xs.map (Value.int .i64))
theorem RdsLuts.nil (w : World) : RdsLuts w [] := fun r hr => by cases hr
theorem RdsLuts.app {w : World} {ls : List Lt} {r : Lt} (h : RdsLuts w ls) (hr : RdsW w r.iv 1 r.xs.length (r.xs.map (Value.int .i64))) : RdsLuts w (ls ++ [r]) := fun q hq => by
  rcases List.mem_append.1 hq with hq | hq
  · exact h q hq
  · rw [List.mem_singleton] at hq; subst hq; exact hr
/-- valid elements -/
def SqsN (c : Int) (ss : List Sq) : Prop := ∀ k, k < ss.length → SqOk (ss.getD k sq0) ∧ BelowP (ss.getD k sq0).xs c
theorem SqsN.nil (c : Int) : SqsN c [] := fun i hi => absurd hi (by simp)
theorem SqsN.app {c : Int} {ss : List Sq} {x : Sq} (h : SqsN c ss) (h1 : SqOk x) (h2 : BelowP x.xs c) : SqsN c (ss ++ [x]) := fun j hj => by
  rw [List.length_append, List.length_singleton] at hj
  by_cases e : j < ss.length
  · rw [zeb e]; exact h j e
  · have e2 : j = ss.length := by omega
    subst e2
    rw [zek (Nat.le_refl _), Nat.sub_self]; exact ⟨h1, h2⟩
theorem sqOk_len {s : Sq} (h : SqOk s) {xs : List Int} (hl : xs.length = s.xs.length) (v : Value) : SqOk (Sq.mk s.kd s.it v xs) := ⟨by rw [show (Sq.mk s.kd s.it v xs).xs.length = s.xs.length from hl]; exact h.kind⟩
def ln00 : Ln := Ln.mk 0 (.slice none 0 0) (.slice none 0 0) (.slice none 0 0) [] [] []
theorem ln00_ok : LnOk ln00 := ⟨⟨by decide, by decide, by decide, by decide⟩, fun j hj => absurd hj (by simp [ln00]), fun j hj => absurd hj (by simp [ln00]), fun j hj => absurd hj (by simp [ln00])⟩
theorem ln_mk {n : Nt} {sv lv ov : Value} {ss : List Sq} {ls : List Lt} {os : List Int} (hn : NtOk n) (hs : ss.length = n.ss.length) (hl : ls.length ≤ 400) (ho : os.length ≤ 16) (h1 : BelowP os (n.fst + ls.length)) (h2 : SqsN (n.fst + ls.length) ss) (h3 : LutsOk n.fst ls) : LnOk (Ln.mk n.ins sv lv ov ss ls os) := by
  have e1 : (Ln.mk n.ins sv lv ov ss ls os).cnt = n.fst + ls.length := by show 1 + n.ins + (ss.length : Int) + ls.length = 1 + n.ins + (n.ss.length : Int) + ls.length; rw [hs]
  have e2 : (Ln.mk n.ins sv lv ov ss ls os).fst = n.fst := by show 1 + n.ins + (ss.length : Int) = 1 + n.ins + (n.ss.length : Int); rw [hs]
  exact ⟨⟨⟨hn.i0, hn.i1⟩, by rw [hs]; exact hn.s1, hl, ho⟩, by rw [e1]; exact h1, fun k hk => by rw [e1]; exact h2 k hk, fun i hi => by rw [e2]; exact h3 i hi⟩
set_option maxHeartbeats 4000000 in
theorem built_lutT (x0 : Value) (x1 : Int) (h0 : x0.oneCell' = true) : Try.prog.built 72 [(0, x0), (1, .int .i64 x1)] = some #[x0, .int .i64 x1] := by
  (cases x0 <;> first | (exact absurd h0 Bool.false_ne_true) | kernel_rfl)
set_option maxHeartbeats 4000000 in
set_option maxRecDepth 100000 in
theorem l20Nodes_ret (to xs : List Int) (u v : Value) (w : World) (hu : RdsW w u 1 to.length (to.map (Value.int .i64))) (hv : RdsW w v 1 xs.length (xs.map (Value.int .i64))) (hx : ∀ k, k < xs.length → 0 ≤ xs.getD k 0 ∧ xs.getD k 0 < to.length) (hl : xs.length ≤ 1000) :
   Calls Try.prog 81 #[u, v] w (Ret w (fun v' post => post = [rowE 3 1 v' ((ndL to xs)).length (((ndL to xs)).map (Value.int .i64))])) := by
 have hsu := sml hu
 refine zbq (N := 25) (args := [u, v]) Try.func81 rfl rfl ?_
 refine zbt _ [1, 0] rfl (zaf (zab (zad 1 rfl (zac [4, 1, 0] rfl (zae ?_)))))
 refine zaa (zaf (zab ?_))
 refine zbr rfl rfl rfl (zcr (s := 1) rfl Try.underlying26 (by kernel_rfl)) ?_
 intro g1
 refine zad 1 rfl (zac [5, 4, 1, 0] rfl (zae (zaa (zaf (zaf ?_)))))
 refine zab (zad 1 rfl (zac [6, 5, 4, 1, 0] rfl (zae (zaa (zax ?_)))))
 refine zcy (α := Nat) (β := Value) (γ := List Int) (fun i gu zs => [rowE 3 1 gu zs.length (zs.map (Value.int .i64))]) (fun i gu zs => [(0, u), (1, v), (4, .slice none 0 0), (5, gu), (6, .int .i64 (i : Int))]) (fun i gu zs => i ≤ xs.length ∧ zs = ndL to (xs.take i)) (fun i gu zs => xs.length - i) 0 _ [] ⟨by omega, rfl⟩ (zan [6, 5, 4, 1, 0] rfl) ((.cons_cons _ .slnil)) ?_
 intro i gu zs hi2
 obtain ⟨hi, hz⟩ := hi2
 have hzl : zs.length = i := by rw [hz]; unfold ndL; rw [List.length_map, List.length_take]; omega
 refine zaf (zaf (zab (zad 2 rfl (hl_v rfl rfl rfl (zbo rfl Try.underlying26 rfl (zak hv)) ?_))))
 refine zbw rfl rfl rfl rfl rfl rfl (fun h3 => ?_) (fun h3 => ?_)
 ·
  refine zac [11, 6, 5, 4, 1, 0] rfl (zae (zaa (zbb rfl (zaz (zaa ?_)))))
  refine zaf (zax (zab ?_))
  have hxi := hx i (by omega)
  refine hl_v rfl rfl rfl (zap rfl) (zad 3 rfl (hl_v rfl rfl rfl (zal (s := 1) rfl Try.underlying26 (by kernel_rfl) rfl rfl (zak hv) (by omega) (by omega)) (hl_v rfl rfl rfl (zam (u := .int .i64 (xs.getD i 0)) rfl (by kernel_rfl) rfl (zak hv) (zbg (show _ < xs.length by omega))) (hl_v rfl rfl rfl (zal (s := 1) rfl Try.underlying26 (by kernel_rfl) rfl rfl (zak hu) (by omega) (by omega)) (hl_v rfl rfl rfl (zam (u := .int .i64 (to.getD ((xs.getD i 0).toNat) 0)) rfl (by kernel_rfl) rfl (zak hu) (zbg (show _ < to.length by omega))) ?_)))))
  refine zbr rfl rfl rfl (zbe (z := .int .i64 0) (s := 1) (cs := ([to.getD ((xs.getD i 0).toNat) 0].map (Value.int .i64))) rfl Try.underlying26 (by kernel_rfl) (by decide) rfl (by kernel_rfl) rfl) ?_
  intro g4
  refine zco (i := 1) (z := .int .i64 0) (bytes := 8) rfl rfl rfl rfl Try.underlying26 (by kernel_rfl) (by kernel_rfl) rfl rfl rfl (zas 0 rfl) (zcd _) (by first | omega | (simp; done) | (simp; omega)) (zcb zs ([to.getD ((xs.getD i 0).toNat) 0])) (zcv zs ([to.getD ((xs.getD i 0).toNat) 0])) (fun _ => rfl) ?_
  intro v5
  refine zad 1 rfl (zac [11, 6, 5, 4, 1, 0] rfl (zae (zai (zaa (zab ?_)))))
  refine zad 1 rfl (hl_v rfl rfl rfl (zbj rfl rfl rfl (by constructor <;> omega)) (zad 1 rfl (zac [11, 6, 5, 4, 1, 0] rfl (zae ?_))))
  exact zce (i + 1) v5 (zs ++ ([to.getD ((xs.getD i 0).toNat) 0])) ⟨by omega, by rw [hz]; unfold ndL; rw [zei 0 (show i < xs.length by omega), List.map_append]; rfl⟩ (by omega) (zan [6, 5, 4, 1, 0] rfl) ((.cons _ (.cons_cons _ .slnil)))
 refine zac [11, 6, 5, 4, 1, 0] rfl (zae (zaa (zaq rfl ?_)))
 refine zbp ?_
 refine zah (zah ?_)
 refine zav ?_
 refine zaa (zaf (zab (zad 2 rfl (zac [11, 6, 5, 4, 1, 0] rfl (zae ?_)))))
 refine zaa ?_
 refine zbl ?_
 exact zdn (post := [rowE 3 1 gu zs.length (zs.map (Value.int .i64))]) rfl rfl ((.cons_cons _ .slnil)) (by rw [hz, List.take_of_length_le (by omega)])
set_option maxHeartbeats 4000000 in
set_option maxRecDepth 100000 in
theorem l20Roots_ret (to no xs : List Int) (u t v : Value) (w : World) (hu : RdsW w u 1 to.length (to.map (Value.int .i64))) (ht : RdsW w t 1 no.length (no.map (Value.int .i64))) (hv : RdsW w v 1 xs.length (xs.map (Value.int .i64))) (hx : ∀ k, k < xs.length → 0 ≤ xs.getD k 0 ∧ xs.getD k 0 < 2 * to.length) (hl : xs.length ≤ 1000) (hto : to.length ≤ 1000 ∧ no.length = to.length) :
   Calls Try.prog 83 #[u, t, v] w (Ret w (fun v' post => post = [rowE 3 1 v' ((rtL to no xs)).length (((rtL to no xs)).map (Value.int .i64))])) := by
 refine zbq (N := 45) (args := [u, t, v]) Try.func83 rfl rfl ?_
 refine zbt _ [2, 1, 0] rfl (zaf (zab (zad 1 rfl (zac [6, 2, 1, 0] rfl (zae ?_)))))
 refine zaa (zaf (zab ?_))
 refine zbr rfl rfl rfl (zcr (s := 1) rfl Try.underlying26 (by kernel_rfl)) ?_
 intro g1
 refine zad 1 rfl (zac [7, 6, 2, 1, 0] rfl (zae (zaa (zaf (zaf ?_)))))
 refine zab (zad 1 rfl (zac [8, 7, 6, 2, 1, 0] rfl (zae (zaa (zax ?_)))))
 refine zcy (α := Nat) (β := Value) (γ := List Int) (fun i gu zs => [rowE 3 1 gu zs.length (zs.map (Value.int .i64))]) (fun i gu zs => [(0, u), (1, t), (2, v), (6, .slice none 0 0), (7, gu), (8, .int .i64 (i : Int))]) (fun i gu zs => i ≤ xs.length ∧ zs = rtL to no (xs.take i)) (fun i gu zs => xs.length - i) 0 _ [] ⟨by omega, rfl⟩ (zan [8, 7, 6, 2, 1, 0] rfl) ((.cons_cons _ .slnil)) ?_
 intro i gu zs hi2
 obtain ⟨hi, hz⟩ := hi2
 have hzl : zs.length = i := by rw [hz]; unfold rtL; rw [List.length_map, List.length_take]; omega
 refine zaf (zaf (zab (zad 2 rfl (hl_v rfl rfl rfl (zbo rfl Try.underlying26 rfl (zak hv)) ?_))))
 refine zbw rfl rfl rfl rfl rfl rfl (fun h3 => ?_) (fun h3 => ?_)
 ·
  refine zac [13, 8, 7, 6, 2, 1, 0] rfl (zae (zaa (zbb rfl (zaz (zaa ?_)))))
  refine zaf (zax (zaf (zab ?_)))
  have hxi := hx i (by omega)
  refine hl_v rfl rfl rfl (zap rfl) (zad 1 rfl (hl_v rfl rfl rfl (zal (s := 1) rfl Try.underlying26 (by kernel_rfl) rfl rfl (zak hv) (by omega) (by omega)) (hl_v rfl rfl rfl (zam (u := .int .i64 (xs.getD i 0)) rfl (by kernel_rfl) rfl (zak hv) (zbg (show _ < xs.length by omega))) (hl_v rfl rfl rfl (rv_rem rfl rfl rfl (by constructor <;> omega)) ?_))))
  refine zdi rfl rfl rfl rfl rfl rfl (fun h4 => ?_) (fun h4 => ?_)
  ·
   refine zac [21, 13, 8, 7, 6, 2, 1, 0] rfl (zae (zaa (zbb rfl (zab (zad 4 rfl ?_)))))
   refine hl_v rfl rfl rfl (zal (s := 1) rfl Try.underlying26 (by kernel_rfl) rfl rfl (zak hv) (by omega) (by omega)) (hl_v rfl rfl rfl (zam (u := .int .i64 (xs.getD i 0)) rfl (by kernel_rfl) rfl (zak hv) (zbg (show _ < xs.length by omega))) ?_)
   refine hl_v rfl rfl rfl (zee rfl rfl rfl (by refine ⟨?_, ?_, ?_⟩ <;> omega)) ?_
   refine hl_v rfl rfl rfl (zal (s := 1) rfl Try.underlying26 (by kernel_rfl) rfl rfl (zak hu) (by omega) (by omega)) (hl_v rfl rfl rfl (zam (u := .int .i64 (to.getD (((xs.getD i 0) / 2).toNat) 0)) rfl (by kernel_rfl) rfl (zak hu) (zbg (show _ < to.length by omega))) ?_)
   refine zbr rfl rfl rfl (zbe (z := .int .i64 0) (s := 1) (cs := ([to.getD (((xs.getD i 0) / 2).toNat) 0].map (Value.int .i64))) rfl Try.underlying26 (by kernel_rfl) (by decide) rfl (by kernel_rfl) rfl) ?_
   intro g5
   refine zco (i := 1) (z := .int .i64 0) (bytes := 8) rfl rfl rfl rfl Try.underlying26 (by kernel_rfl) (by kernel_rfl) rfl rfl rfl (zas 0 rfl) (zcd _) (by first | omega | (simp; done) | (simp; omega)) (zcb zs ([to.getD (((xs.getD i 0) / 2).toNat) 0])) (zcv zs ([to.getD (((xs.getD i 0) / 2).toNat) 0])) (fun _ => rfl) ?_
   intro v6
   refine zad 1 rfl (zac [21, 13, 8, 7, 6, 2, 1, 0] rfl (zae (zai (zaa (zab ?_)))))
   refine zad 1 rfl (hl_v rfl rfl rfl (zbj rfl rfl rfl (by constructor <;> omega)) (zad 1 rfl (zac [21, 13, 8, 7, 6, 2, 1, 0] rfl (zae ?_))))
   exact zce (i + 1) v6 (zs ++ ([to.getD (((xs.getD i 0) / 2).toNat) 0])) ⟨by omega, by rw [hz]; unfold rtL; rw [zei 0 (show i < xs.length by omega), List.map_append]; first | (rw [← rtN_even (to := to) (no := no) (by assumption)]; rfl) | (rw [← rtN_odd (to := to) (no := no) (by assumption)]; rfl)⟩ (by omega) (zan [8, 7, 6, 2, 1, 0] rfl) ((.cons _ (.cons_cons _ .slnil)))
  refine zac [21, 13, 8, 7, 6, 2, 1, 0] rfl (zae (zaa (zaq rfl (zab (zad 4 rfl ?_)))))
  refine hl_v rfl rfl rfl (zal (s := 1) rfl Try.underlying26 (by kernel_rfl) rfl rfl (zak hv) (by omega) (by omega)) (hl_v rfl rfl rfl (zam (u := .int .i64 (xs.getD i 0)) rfl (by kernel_rfl) rfl (zak hv) (zbg (show _ < xs.length by omega))) ?_)
  refine hl_v rfl rfl rfl (zee rfl rfl rfl (by refine ⟨?_, ?_, ?_⟩ <;> omega)) ?_
  refine hl_v rfl rfl rfl (zal (s := 1) rfl Try.underlying26 (by kernel_rfl) rfl rfl (zak ht) (by omega) (by omega)) (hl_v rfl rfl rfl (zam (u := .int .i64 (no.getD (((xs.getD i 0) / 2).toNat) 0)) rfl (by kernel_rfl) rfl (zak ht) (zbg (show _ < no.length by omega))) ?_)
  refine zbr rfl rfl rfl (zbe (z := .int .i64 0) (s := 1) (cs := ([no.getD (((xs.getD i 0) / 2).toNat) 0].map (Value.int .i64))) rfl Try.underlying26 (by kernel_rfl) (by decide) rfl (by kernel_rfl) rfl) ?_
  intro g7
  refine zco (i := 1) (z := .int .i64 0) (bytes := 8) rfl rfl rfl rfl Try.underlying26 (by kernel_rfl) (by kernel_rfl) rfl rfl rfl (zas 0 rfl) (zcd _) (by first | omega | (simp; done) | (simp; omega)) (zcb zs ([no.getD (((xs.getD i 0) / 2).toNat) 0])) (zcv zs ([no.getD (((xs.getD i 0) / 2).toNat) 0])) (fun _ => rfl) ?_
  intro v8
  refine zad 1 rfl (zac [21, 13, 8, 7, 6, 2, 1, 0] rfl (zae (zai (zaa (zab ?_)))))
  refine zad 1 rfl (hl_v rfl rfl rfl (zbj rfl rfl rfl (by constructor <;> omega)) (zad 1 rfl (zac [21, 13, 8, 7, 6, 2, 1, 0] rfl (zae ?_))))
  exact zce (i + 1) v8 (zs ++ ([no.getD (((xs.getD i 0) / 2).toNat) 0])) ⟨by omega, by rw [hz]; unfold rtL; rw [zei 0 (show i < xs.length by omega), List.map_append]; first | (rw [← rtN_even (to := to) (no := no) (by assumption)]; rfl) | (rw [← rtN_odd (to := to) (no := no) (by assumption)]; rfl)⟩ (by omega) (zan [8, 7, 6, 2, 1, 0] rfl) ((.cons _ (.cons_cons _ .slnil)))
 refine zac [13, 8, 7, 6, 2, 1, 0] rfl (zae (zaa (zaq rfl ?_)))
 refine zbp ?_
 refine zah (zah ?_)
 refine zav ?_
 refine zaa (zaf (zab (zad 2 rfl (zac [13, 8, 7, 6, 2, 1, 0] rfl (zae ?_)))))
 refine zaa ?_
 refine zbl ?_
 exact zdn (post := [rowE 3 1 gu zs.length (zs.map (Value.int .i64))]) rfl rfl ((.cons_cons _ .slnil)) (by rw [hz, List.take_of_length_le (by omega)])
set_option maxHeartbeats 4000000 in
set_option maxRecDepth 100000 in
theorem ToLuts_ret (n : Nt) (rs : List CRow) (v : Value) (w : World) (hr : RdsNt w n) (hn : NtOk n) (hv : RdsCl w v rs) (h400 : ∀ r ∈ rs, r.xs.length ≤ 400) (hg100 : n.gs.length ≤ 100) :
   Calls Try.prog 59 #[.agg #[.int .i64 n.ins, n.sv, n.av, n.ov], v] w (Ret w (fun u_ p_ => ∃ (ps : List HP) (m : Ln) (b : Bool), u_ = .tuple #[m.agg, .bool b] ∧ p_ = [bigE ps] ∧ (∀ w, (bigE ps).holds w → RdsLn w m) ∧ (m.sv.oneCell' = true ∧ m.lv.oneCell' = true ∧ m.ov.oneCell' = true) ∧ LnOk m)) := by
 have hi0 := hn.i0
 have hi1 := hn.i1
 have hs1 := hn.s1
 have ha1 := hn.a1
 have ho1 := hn.o1
 have hcnt : n.cnt = 1 + n.ins + n.ss.length + n.gs.length := rfl
 have hfst : n.fst = 1 + n.ins + n.ss.length := rfl
 have hrt := rts_len hn n.ss.length (Nat.le_refl _)
 refine zbq (N := 259) (args := [.agg #[.int .i64 n.ins, n.sv, n.av, n.ov], v]) Try.func59 rfl rfl ?_
 refine zbt _ [1, 0] rfl (zaf (zab ?_))
 refine zci rfl rfl rfl (zdd rfl rfl) ?_
 intro b1
 refine zci rfl rfl rfl (zcj (z := .agg #[.int .i64 0, .slice none 0 0, .slice none 0 0, .slice none 0 0]) rfl (by kernel_rfl)) ?_
 intro b2
 refine zad 1 rfl (zac [5, 4, 2, 1, 0] rfl (zae (zaa (zaf (zaf ?_)))))
 refine zab (hl_v rfl rfl rfl (zbc (cs := [.int .i64 n.ins, n.sv, n.av, n.ov]) rfl (by kernel_rfl) (by kernel_rfl) rfl rfl (zay 1 rfl 0 rfl)) (zad 1 rfl ?_))
 refine zbm rfl rfl rfl (zba (by kernel_rfl) rfl (fun w hm => zbk (MappingOk_ans n rs _ w (hr.below hm.bel) hn (hv.below hm.bel) h400))) ?_
 refine zck (fun h3 => ?_) (fun h3 => ?_)
 ·
  have hmp := of_pBe h3
  have hmpl := hmp.len
  refine zad 1 rfl (zac [27, 5, 4, 2, 1, 0] rfl (zae (zaa (zaq rfl (zaz ?_)))))
  refine zaa (zaf (zab (hl_v rfl rfl rfl (zbc (cs := [.int .i64 n.ins, n.sv, n.av, n.ov]) rfl (by kernel_rfl) (by kernel_rfl) rfl rfl (zay 1 rfl 0 rfl)) ?_)))
  refine zbm rfl rfl rfl (zba (by kernel_rfl) rfl (fun w hm => zbk (zbs n w (hr.below hm.bel) hn))) ?_
  refine zad 1 rfl (zac [27, 6, 5, 4, 2, 1, 0] rfl (zae (zaa (zaf (zab ?_)))))
  refine hl_v rfl rfl rfl (zbc (cs := [.int .i64 n.ins, n.sv, n.av, n.ov]) rfl (by kernel_rfl) (by kernel_rfl) rfl rfl (zay 1 rfl 0 rfl)) ?_
  refine zbm rfl rfl rfl (zba (by kernel_rfl) rfl (fun w hm => zbk (zbv n w (hr.below hm.bel) hn))) ?_
  refine zad 1 rfl (zac [27, 7, 6, 5, 4, 2, 1, 0] rfl (zae (zaa (zaf (zab ?_)))))
  refine zad 1 rfl ?_
  refine zbr rfl rfl rfl (zeu (z := .bool false) (s := 1) (bytes := 1) (n := (List.replicate (n.cnt).toNat bl0).length) (cs := ((List.replicate (n.cnt).toNat bl0).flatMap blC)) rfl Try.underlying80 (by kernel_rfl) (by decide) rfl rfl (by first | (rw [List.length_replicate]; done) | (rw [List.length_replicate]; omega)) (by first | (rw [List.length_replicate]; done) | (rw [List.length_replicate]; omega)) (by rw [List.length_replicate]; omega) (zfe blC 1 (fun _ => rfl) bl0 _ rfl (n.cnt).toNat)) ?_
  intro g4
  refine zad 1 rfl (zac [27, 8, 7, 6, 5, 4, 2, 1, 0] rfl (zae (zaa (zaf (zab ?_)))))
  refine zad 1 rfl ?_
  refine zbr rfl rfl rfl (zeu (z := .bool false) (s := 1) (bytes := 1) (n := (List.replicate (n.cnt).toNat bl0).length) (cs := ((List.replicate (n.cnt).toNat bl0).flatMap blC)) rfl Try.underlying80 (by kernel_rfl) (by decide) rfl rfl (by first | (rw [List.length_replicate]; done) | (rw [List.length_replicate]; omega)) (by first | (rw [List.length_replicate]; done) | (rw [List.length_replicate]; omega)) (by rw [List.length_replicate]; omega) (zfe blC 1 (fun _ => rfl) bl0 _ rfl (n.cnt).toNat)) ?_
  intro g5
  refine zad 1 rfl (zac [27, 9, 8, 7, 6, 5, 4, 2, 1, 0] rfl (zae (zaa (zaf (zab ?_)))))
  refine hl_v rfl rfl rfl (zbc (cs := [.int .i64 n.ins, n.sv, n.av, n.ov]) rfl (by kernel_rfl) (by kernel_rfl) rfl rfl (zay 3 rfl 0 rfl)) ?_
  refine hl_q rfl rfl rfl (zba (by kernel_rfl) rfl (fun w hm => l08Roots_ret n w (hr.below hm.bel) hn)) ?_
  intro v6 p7 hR8
  subst hR8
  refine zad 1 rfl (zac [27, 10, 9, 8, 7, 6, 5, 4, 2, 1, 0] rfl (zae (zaa (zaf (zaf ?_)))))
  refine zab (zad 1 rfl (zac [27, 11, 10, 9, 8, 7, 6, 5, 4, 2, 1, 0] rfl (zae (zaa (zax ?_)))))
  refine zcy (α := Nat) (β := List Bl) (γ := List Bl) (fun i ps ng => [rowE 3 1 v6 ((rtsL n n.ss.length).length) ((rtsL n n.ss.length).map (Value.int .i64)), rowE 4 1 (.slice (some ⟨g5, 0, none⟩) ((List.replicate (n.cnt).toNat bl0).length) ((List.replicate (n.cnt).toNat bl0).length)) ng.length (ng.flatMap blC), rowE 4 1 (.slice (some ⟨g4, 0, none⟩) ((List.replicate (n.cnt).toNat bl0).length) ((List.replicate (n.cnt).toNat bl0).length)) ps.length (ps.flatMap blC), boxE b2 #[.int .i64 0, .slice none 0 0, .slice none 0 0, .slice none 0 0] 28, boxE b1 #[.int .i64 n.ins, n.sv, n.av, n.ov] 101]) (fun i ps ng => [(0, .agg #[.int .i64 n.ins, n.sv, n.av, n.ov]), (1, v), (2, .pointer (some ⟨b1, 0, none⟩)), (4, .pointer (some ⟨b2, 0, none⟩)), (5, .bool false), (6, .int .i64 n.cnt), (7, .int .i64 n.fst), (8, .slice (some ⟨g4, 0, none⟩) ((List.replicate (n.cnt).toNat bl0).length) ((List.replicate (n.cnt).toNat bl0).length)), (9, .slice (some ⟨g5, 0, none⟩) ((List.replicate (n.cnt).toNat bl0).length) ((List.replicate (n.cnt).toNat bl0).length)), (10, v6), (11, .int .i64 (i : Int)), (27, .bool false)]) (fun i ps ng => i ≤ (rtsL n n.ss.length).length ∧ ps.length = n.cnt.toNat ∧ ng.length = n.cnt.toNat ∧ RtsU ps ng (rtsL n n.ss.length) i) (fun i ps ng => (rtsL n n.ss.length).length - i) 0 _ _ ⟨Nat.zero_le _, by rw [List.length_replicate], by rw [List.length_replicate], fun j hj => absurd hj (Nat.not_lt_zero _)⟩ (zan [27, 11, 10, 9, 8, 7, 6, 5, 4, 2, 1, 0] rfl) ((.cons_cons _ (.cons_cons _ (.cons_cons _ (.cons_cons _ (.cons_cons _ .slnil)))))) ?_
  intro i ps ng hi9
  obtain ⟨hi, hpl, hnl, hru⟩ := hi9
  refine zaf (zaf (zab (zad 2 rfl (hl_v rfl rfl rfl (zbo rfl Try.underlying26 rfl (zas 0 rfl)) ?_))))
  refine zbw rfl rfl rfl rfl rfl rfl (fun h10 => ?_) (fun h10 => ?_)
  ·
   refine zac [42, 27, 11, 10, 9, 8, 7, 6, 5, 4, 2, 1, 0] rfl (zae (zaa (zbb rfl (zaz (zaa ?_)))))
   refine zaf (zax (zaf (zab ?_)))
   have hlk := rts_ok hn (i := i) (by omega)
   unfold LtOk at hlk
   refine hl_v rfl rfl rfl (zap rfl) (zad 1 rfl (hl_v rfl rfl rfl (zal (s := 1) rfl Try.underlying26 (by kernel_rfl) rfl rfl (zas 0 rfl) (by omega) (by omega)) (hl_v rfl rfl rfl (zam (u := .int .i64 ((rtsL n n.ss.length).getD i 0)) rfl (by kernel_rfl) rfl (zas 0 rfl) (zbg (show _ < (rtsL n n.ss.length).length by omega))) (hl_v rfl rfl rfl (rv_rem rfl rfl rfl (by constructor <;> omega)) ?_))))
   refine zdi rfl rfl rfl rfl rfl rfl (fun h11 => ?_) (fun h11 => ?_)
   ·
    refine zac [50, 42, 27, 11, 10, 9, 8, 7, 6, 5, 4, 2, 1, 0] rfl (zae (zaa (zbb rfl (zab (zad 3 rfl ?_)))))
    refine hl_v rfl rfl rfl (zal (s := 1) rfl Try.underlying26 (by kernel_rfl) rfl rfl (zas 0 rfl) (by omega) (by omega)) (hl_v rfl rfl rfl (zam (u := .int .i64 ((rtsL n n.ss.length).getD i 0)) rfl (by kernel_rfl) rfl (zas 0 rfl) (zbg (show _ < (rtsL n n.ss.length).length by omega))) ?_)
    refine hl_v rfl rfl rfl (zee rfl rfl rfl (by refine ⟨?_, ?_, ?_⟩ <;> omega)) ?_
    refine hl_v rfl rfl rfl (zal (s := 1) rfl Try.underlying80 (by kernel_rfl) rfl rfl (zas 2 rfl) (by omega) (by omega)) ?_
    refine zdp (i := 2) (n' := (ps.set ((((rtsL n n.ss.length).getD i 0) / 2).toNat) { ps.getD ((((rtsL n n.ss.length).getD i 0) / 2).toNat) bl0 with b := true }).length) rfl rfl rfl (by kernel_rfl) rfl rfl rfl rfl (by first | omega | (simp only [List.length_set]; omega)) List.length_set.symm (zdm blC (fun r => .bool r.b) (fun _ => rfl) _ ({ ps.getD ((((rtsL n n.ss.length).getD i 0) / 2).toNat) bl0 with b := true }) rfl) rfl ?_
    refine zac [50, 42, 27, 11, 10, 9, 8, 7, 6, 5, 4, 2, 1, 0] rfl (zae (zai (zaa (zab (zad 1 rfl ?_)))))
    refine hl_v rfl rfl rfl (zbj rfl rfl rfl (by constructor <;> omega)) (zad 1 rfl (zac [50, 42, 27, 11, 10, 9, 8, 7, 6, 5, 4, 2, 1, 0] rfl (zae ?_)))
    exact zce (i + 1) (ps.set ((((rtsL n n.ss.length).getD i 0) / 2).toNat) { ps.getD ((((rtsL n n.ss.length).getD i 0) / 2).toNat) bl0 with b := true }) ng ⟨by omega, by rw [List.length_set]; exact hpl, hnl, hru.even rfl (by omega) (by assumption)⟩ (by omega) (zan [27, 11, 10, 9, 8, 7, 6, 5, 4, 2, 1, 0] rfl) ((.cons_cons _ (.cons_cons _ (.cons_cons _ (.cons_cons _ (.cons_cons _ .slnil))))))
   refine zac [50, 42, 27, 11, 10, 9, 8, 7, 6, 5, 4, 2, 1, 0] rfl (zae (zaa (zaq rfl (zab (zad 3 rfl ?_)))))
   refine hl_v rfl rfl rfl (zal (s := 1) rfl Try.underlying26 (by kernel_rfl) rfl rfl (zas 0 rfl) (by omega) (by omega)) (hl_v rfl rfl rfl (zam (u := .int .i64 ((rtsL n n.ss.length).getD i 0)) rfl (by kernel_rfl) rfl (zas 0 rfl) (zbg (show _ < (rtsL n n.ss.length).length by omega))) ?_)
   refine hl_v rfl rfl rfl (zee rfl rfl rfl (by refine ⟨?_, ?_, ?_⟩ <;> omega)) ?_
   refine hl_v rfl rfl rfl (zal (s := 1) rfl Try.underlying80 (by kernel_rfl) rfl rfl (zas 1 rfl) (by omega) (by omega)) ?_
   refine zdp (i := 1) (n' := (ng.set ((((rtsL n n.ss.length).getD i 0) / 2).toNat) { ng.getD ((((rtsL n n.ss.length).getD i 0) / 2).toNat) bl0 with b := true }).length) rfl rfl rfl (by kernel_rfl) rfl rfl rfl rfl (by first | omega | (simp only [List.length_set]; omega)) List.length_set.symm (zdm blC (fun r => .bool r.b) (fun _ => rfl) _ ({ ng.getD ((((rtsL n n.ss.length).getD i 0) / 2).toNat) bl0 with b := true }) rfl) rfl ?_
   refine zac [50, 42, 27, 11, 10, 9, 8, 7, 6, 5, 4, 2, 1, 0] rfl (zae (zai (zaa (zab (zad 1 rfl ?_)))))
   refine hl_v rfl rfl rfl (zbj rfl rfl rfl (by constructor <;> omega)) (zad 1 rfl (zac [50, 42, 27, 11, 10, 9, 8, 7, 6, 5, 4, 2, 1, 0] rfl (zae ?_)))
   exact zce (i + 1) ps (ng.set ((((rtsL n n.ss.length).getD i 0) / 2).toNat) { ng.getD ((((rtsL n n.ss.length).getD i 0) / 2).toNat) bl0 with b := true }) ⟨by omega, hpl, by rw [List.length_set]; exact hnl, hru.odd rfl (by omega) (by assumption)⟩ (by omega) (zan [27, 11, 10, 9, 8, 7, 6, 5, 4, 2, 1, 0] rfl) ((.cons_cons _ (.cons_cons _ (.cons_cons _ (.cons_cons _ (.cons_cons _ .slnil))))))
  refine zac [42, 27, 11, 10, 9, 8, 7, 6, 5, 4, 2, 1, 0] rfl (zae (zaa (zaq rfl ?_)))
  refine zbp ?_
  refine zah (zah ?_)
  refine zav ?_
  refine zaa (zaf (zaf (zab (zad 1 rfl (hl_v rfl rfl rfl (zbo rfl Try.underlying41 rfl (zak hv.row)) ?_)))))
  refine hl_v rfl rfl rfl (zdb rfl rfl rfl (by constructor <;> omega)) (zad 1 rfl (zac [42, 27, 12, 11, 10, 9, 8, 7, 6, 5, 4, 2, 1, 0] rfl (zae (zaa (zax ?_)))))
  refine zdt (α := Int) (β := List Bl) (fun c9 p2 => [rowE 3 1 v6 ((rtsL n n.ss.length).length) ((rtsL n n.ss.length).map (Value.int .i64)), rowE 4 1 (.slice (some ⟨g5, 0, none⟩) ((List.replicate (n.cnt).toNat bl0).length) ((List.replicate (n.cnt).toNat bl0).length)) ng.length (ng.flatMap blC), rowE 4 1 (.slice (some ⟨g4, 0, none⟩) ((List.replicate (n.cnt).toNat bl0).length) ((List.replicate (n.cnt).toNat bl0).length)) p2.length (p2.flatMap blC), boxE b2 #[.int .i64 0, .slice none 0 0, .slice none 0 0, .slice none 0 0] 28, boxE b1 #[.int .i64 n.ins, n.sv, n.av, n.ov] 101]) (fun c9 p2 => [(0, .agg #[.int .i64 n.ins, n.sv, n.av, n.ov]), (1, v), (2, .pointer (some ⟨b1, 0, none⟩)), (4, .pointer (some ⟨b2, 0, none⟩)), (5, .bool false), (6, .int .i64 n.cnt), (7, .int .i64 n.fst), (8, .slice (some ⟨g4, 0, none⟩) ((List.replicate (n.cnt).toNat bl0).length) ((List.replicate (n.cnt).toNat bl0).length)), (9, .slice (some ⟨g5, 0, none⟩) ((List.replicate (n.cnt).toNat bl0).length) ((List.replicate (n.cnt).toNat bl0).length)), (10, v6), (12, .int .i64 c9), (27, .bool false), (42, .bool false)]) (fun c9 p2 => -1 ≤ c9 ∧ c9 < (rs.length : Int) ∧ p2.length = n.cnt.toNat ∧ RtsU p2 ng (rtsL n n.ss.length) (rtsL n n.ss.length).length ∧ ∀ q : Nat, c9 < q → q < rs.length → UseP n.fst rs p2 ng q) (fun c9 p2 => (c9 + 1).toNat) _ _ ⟨by omega, by omega, hpl, (by rw [show i = (rtsL n n.ss.length).length by omega] at hru; exact hru), fun q h1 h2 => absurd h1 (by omega)⟩ (zan [42, 27, 12, 10, 9, 8, 7, 6, 5, 4, 2, 1, 0] rfl) ((.cons_cons _ (.cons_cons _ (.cons_cons _ (.cons_cons _ (.cons_cons _ .slnil)))))) ?_
  intro c9 p2 hi12
  obtain ⟨hc0, hc1, hpl2, hru2, hus2⟩ := hi12
  refine zaf (zaf (zab (zad 1 rfl ?_)))
  refine zey rfl rfl rfl rfl rfl rfl (fun h13 => ?_) (fun h13 => ?_)
  ·
   refine zac [69, 42, 27, 12, 10, 9, 8, 7, 6, 5, 4, 2, 1, 0] rfl (zae (zaa (zbb rfl (zaz (zaa ?_)))))
   refine zaf (zax (zaf (zab (zad 1 rfl (zac [69, 42, 27, 13, 12, 10, 9, 8, 7, 6, 5, 4, 2, 1, 0] rfl ?_)))))
   refine zae (zaa (zax ?_))
   refine zdt (α := Nat) (β := List Bl) (fun k9 p3 => [rowE 3 1 v6 ((rtsL n n.ss.length).length) ((rtsL n n.ss.length).map (Value.int .i64)), rowE 4 1 (.slice (some ⟨g5, 0, none⟩) ((List.replicate (n.cnt).toNat bl0).length) ((List.replicate (n.cnt).toNat bl0).length)) ng.length (ng.flatMap blC), rowE 4 1 (.slice (some ⟨g4, 0, none⟩) ((List.replicate (n.cnt).toNat bl0).length) ((List.replicate (n.cnt).toNat bl0).length)) p3.length (p3.flatMap blC), boxE b2 #[.int .i64 0, .slice none 0 0, .slice none 0 0, .slice none 0 0] 28, boxE b1 #[.int .i64 n.ins, n.sv, n.av, n.ov] 101]) (fun k9 p3 => [(0, .agg #[.int .i64 n.ins, n.sv, n.av, n.ov]), (1, v), (2, .pointer (some ⟨b1, 0, none⟩)), (4, .pointer (some ⟨b2, 0, none⟩)), (5, .bool false), (6, .int .i64 n.cnt), (7, .int .i64 n.fst), (8, .slice (some ⟨g4, 0, none⟩) ((List.replicate (n.cnt).toNat bl0).length) ((List.replicate (n.cnt).toNat bl0).length)), (9, .slice (some ⟨g5, 0, none⟩) ((List.replicate (n.cnt).toNat bl0).length) ((List.replicate (n.cnt).toNat bl0).length)), (10, v6), (12, .int .i64 c9), (13, .int .i64 (k9 : Int)), (27, .bool false), (42, .bool false), (69, .bool true)]) (fun k9 p3 => k9 ≤ (rs.getD ((c9).toNat) crow0).xs.length ∧ p3.length = n.cnt.toNat ∧ RtsU p3 ng (rtsL n n.ss.length) (rtsL n n.ss.length).length ∧ (∀ q : Nat, c9 < q → q < rs.length → UseP n.fst rs p3 ng q) ∧ ∀ j, j < k9 → On p3 ((rs.getD ((c9).toNat) crow0).xs.getD j 0)) (fun k9 p3 => (rs.getD ((c9).toNat) crow0).xs.length - k9) 0 _ ⟨Nat.zero_le _, hpl2, hru2, hus2, fun j hj => absurd hj (Nat.not_lt_zero _)⟩ (zan [69, 42, 27, 13, 12, 10, 9, 8, 7, 6, 5, 4, 2, 1, 0] rfl) ((.cons_cons _ (.cons_cons _ (.cons_cons _ (.cons_cons _ (.cons_cons _ .slnil)))))) ?_
   intro k9 p3 hi14
   obtain ⟨hk9, hpl3, hru3, hus3, hon⟩ := hi14
   have hx4 := h400 _ (zcp (es := rs) (i := c9.toNat) (d := crow0) (by omega))
   refine zaf (zaf (zab (zad 3 rfl (hl_v rfl rfl rfl (zal (s := 1) rfl Try.underlying41 (by kernel_rfl) rfl rfl (zak hv.row) (by omega) (by omega)) ?_))))
   refine hl_v rfl rfl rfl (zam (u := (rs.getD ((c9).toNat) crow0).v) rfl (by kernel_rfl) rfl (zak hv.row) (zbz crowC (fun r => r.v) (fun _ => rfl) rs crow0 (show (c9).toNat < _ by omega))) ?_
   refine hl_v rfl rfl rfl (zbo rfl Try.underlying26 rfl (zak (hv.at (k := ((c9).toNat)) (by omega)))) ?_
   refine zbw rfl rfl rfl rfl rfl rfl (fun h15 => ?_) (fun h15 => ?_)
   ·
    refine zad 4 rfl (hl_v rfl rfl rfl (zbj rfl rfl rfl (by constructor <;> omega)) (hl_v rfl rfl rfl (zal (s := 1) rfl Try.underlying80 (by kernel_rfl) rfl rfl (zas 2 rfl) (by omega) (by omega)) ?_))
    refine hl_v rfl rfl rfl (zam (u := .bool ((p3.getD ((n.fst + c9).toNat) bl0).b)) rfl (by kernel_rfl) rfl (zas 2 rfl) (zbz blC (fun r => .bool r.b) (fun _ => rfl) p3 bl0 (show (n.fst + c9).toNat < _ by omega))) ?_
    refine zck (fun h16 => ?_) (fun h16 => ?_)
    ·
     refine zad 4 rfl (zbi rfl rfl rfl (zbi rfl rfl rfl (zbi rfl rfl rfl (zad 2 rfl (zac [94, 69, 42, 27, 13, 12, 10, 9, 8, 7, 6, 5, 4, 2, 1, 0] rfl ?_)))))
     refine zae (zaa (zbb rfl (zaz (zaa (zaf ?_)))))
     refine zax (zab ?_)
     have hbk := hmp.below hn (i := c9.toNat) (by omega) (k := k9) (by omega)
     refine hl_v rfl rfl rfl (zap rfl) (zad 2 rfl (hl_v rfl rfl rfl (zal (s := 1) rfl Try.underlying41 (by kernel_rfl) rfl rfl (zak hv.row) (by omega) (by omega)) ?_))
     refine hl_v rfl rfl rfl (zam (u := (rs.getD ((c9).toNat) crow0).v) rfl (by kernel_rfl) rfl (zak hv.row) (zbz crowC (fun r => r.v) (fun _ => rfl) rs crow0 (show (c9).toNat < _ by omega))) ?_
     refine zad 1 rfl (hl_v rfl rfl rfl (zal (s := 1) rfl Try.underlying26 (by kernel_rfl) rfl rfl (zak (hv.at (k := ((c9).toNat)) (by omega))) (by omega) (by omega)) (hl_v rfl rfl rfl (zam (u := .int .i64 (((rs.getD ((c9).toNat) crow0).xs).getD k9 0)) rfl (by kernel_rfl) rfl (zak (hv.at (k := ((c9).toNat)) (by omega))) (zbg (show _ < ((rs.getD ((c9).toNat) crow0).xs).length by omega))) (hl_v rfl rfl rfl (zal (s := 1) rfl Try.underlying80 (by kernel_rfl) rfl rfl (zas 2 rfl) (by omega) (by omega)) ?_)))
     refine zdp (i := 2) (n' := (p3.set ((((rs.getD ((c9).toNat) crow0).xs).getD k9 0).toNat) { p3.getD ((((rs.getD ((c9).toNat) crow0).xs).getD k9 0).toNat) bl0 with b := true }).length) rfl rfl rfl (by kernel_rfl) rfl rfl rfl rfl (by first | omega | (simp only [List.length_set]; omega)) List.length_set.symm (zdm blC (fun r => .bool r.b) (fun _ => rfl) _ ({ p3.getD ((((rs.getD ((c9).toNat) crow0).xs).getD k9 0).toNat) bl0 with b := true }) rfl) rfl ?_
     refine zac [94, 69, 42, 27, 13, 12, 10, 9, 8, 7, 6, 5, 4, 2, 1, 0] rfl (zae (zai (zaa (zab (zad 1 rfl ?_)))))
     refine hl_v rfl rfl rfl (zbj rfl rfl rfl (by constructor <;> omega)) (zad 1 rfl (zac [94, 69, 42, 27, 13, 12, 10, 9, 8, 7, 6, 5, 4, 2, 1, 0] rfl (zae ?_)))
     exact zcu (k9 + 1) (p3.set ((((rs.getD ((c9).toNat) crow0).xs).getD k9 0).toNat) { p3.getD ((((rs.getD ((c9).toNat) crow0).xs).getD k9 0).toNat) bl0 with b := true }) ⟨by omega, by rw [List.length_set]; exact hpl3, hru3.set _, fun q h1 h2 => (hus3 q h1 h2).set (by omega), fun j hj => by by_cases e : j = k9; (subst e; exact on_new rfl (by omega)); exact on_set (hon j (by omega))⟩ (by omega) (zan [69, 42, 27, 13, 12, 10, 9, 8, 7, 6, 5, 4, 2, 1, 0] rfl) ((.cons_cons _ (.cons_cons _ (.cons_cons _ (.cons_cons _ (.cons_cons _ .slnil))))))
    refine zad 4 rfl (hl_v rfl rfl rfl (zbj rfl rfl rfl (by constructor <;> omega)) (hl_v rfl rfl rfl (zal (s := 1) rfl Try.underlying80 (by kernel_rfl) rfl rfl (zas 1 rfl) (by omega) (by omega)) ?_))
    refine hl_v rfl rfl rfl (zam (u := .bool ((ng.getD ((n.fst + c9).toNat) bl0).b)) rfl (by kernel_rfl) rfl (zas 1 rfl) (zbz blC (fun r => .bool r.b) (fun _ => rfl) ng bl0 (show (n.fst + c9).toNat < _ by omega))) ?_
    refine zck (fun h17 => ?_) (fun h17 => ?_)
    ·
     refine zad 2 rfl (zac [94, 69, 42, 27, 13, 12, 10, 9, 8, 7, 6, 5, 4, 2, 1, 0] rfl (zae (zaa (zbb rfl (zaz ?_)))))
     refine zaa (zaf (zax (zab ?_)))
     have hbk := hmp.below hn (i := c9.toNat) (by omega) (k := k9) (by omega)
     refine hl_v rfl rfl rfl (zap rfl) (zad 2 rfl (hl_v rfl rfl rfl (zal (s := 1) rfl Try.underlying41 (by kernel_rfl) rfl rfl (zak hv.row) (by omega) (by omega)) ?_))
     refine hl_v rfl rfl rfl (zam (u := (rs.getD ((c9).toNat) crow0).v) rfl (by kernel_rfl) rfl (zak hv.row) (zbz crowC (fun r => r.v) (fun _ => rfl) rs crow0 (show (c9).toNat < _ by omega))) ?_
     refine zad 1 rfl (hl_v rfl rfl rfl (zal (s := 1) rfl Try.underlying26 (by kernel_rfl) rfl rfl (zak (hv.at (k := ((c9).toNat)) (by omega))) (by omega) (by omega)) (hl_v rfl rfl rfl (zam (u := .int .i64 (((rs.getD ((c9).toNat) crow0).xs).getD k9 0)) rfl (by kernel_rfl) rfl (zak (hv.at (k := ((c9).toNat)) (by omega))) (zbg (show _ < ((rs.getD ((c9).toNat) crow0).xs).length by omega))) (hl_v rfl rfl rfl (zal (s := 1) rfl Try.underlying80 (by kernel_rfl) rfl rfl (zas 2 rfl) (by omega) (by omega)) ?_)))
     refine zdp (i := 2) (n' := (p3.set ((((rs.getD ((c9).toNat) crow0).xs).getD k9 0).toNat) { p3.getD ((((rs.getD ((c9).toNat) crow0).xs).getD k9 0).toNat) bl0 with b := true }).length) rfl rfl rfl (by kernel_rfl) rfl rfl rfl rfl (by first | omega | (simp only [List.length_set]; omega)) List.length_set.symm (zdm blC (fun r => .bool r.b) (fun _ => rfl) _ ({ p3.getD ((((rs.getD ((c9).toNat) crow0).xs).getD k9 0).toNat) bl0 with b := true }) rfl) rfl ?_
     refine zac [94, 69, 42, 27, 13, 12, 10, 9, 8, 7, 6, 5, 4, 2, 1, 0] rfl (zae (zai (zaa (zab (zad 1 rfl ?_)))))
     refine hl_v rfl rfl rfl (zbj rfl rfl rfl (by constructor <;> omega)) (zad 1 rfl (zac [94, 69, 42, 27, 13, 12, 10, 9, 8, 7, 6, 5, 4, 2, 1, 0] rfl (zae ?_)))
     exact zcu (k9 + 1) (p3.set ((((rs.getD ((c9).toNat) crow0).xs).getD k9 0).toNat) { p3.getD ((((rs.getD ((c9).toNat) crow0).xs).getD k9 0).toNat) bl0 with b := true }) ⟨by omega, by rw [List.length_set]; exact hpl3, hru3.set _, fun q h1 h2 => (hus3 q h1 h2).set (by omega), fun j hj => by by_cases e : j = k9; (subst e; exact on_new rfl (by omega)); exact on_set (hon j (by omega))⟩ (by omega) (zan [69, 42, 27, 13, 12, 10, 9, 8, 7, 6, 5, 4, 2, 1, 0] rfl) ((.cons_cons _ (.cons_cons _ (.cons_cons _ (.cons_cons _ (.cons_cons _ .slnil))))))
    refine zad 2 rfl (zac [94, 69, 42, 27, 13, 12, 10, 9, 8, 7, 6, 5, 4, 2, 1, 0] rfl (zae (zaa (zaq rfl ?_))))
    refine zbp ?_
    refine zah (zah ?_)
    refine zav ?_
    refine zai (zaa (zab (zad 1 rfl (hl_v rfl rfl rfl (zdb rfl rfl rfl (by constructor <;> omega)) (zad 1 rfl ?_)))))
    refine zac [94, 69, 42, 27, 13, 12, 10, 9, 8, 7, 6, 5, 4, 2, 1, 0] rfl (zae ?_)
    exact zcu (c9 - 1) p3 ⟨by omega, by omega, hpl3, hru3, fun q h1 h2 => by by_cases e : q = c9.toNat; (subst e; intro h9; first | (exact fun k hk => hon k (by omega)) | (exfalso; revert h9; intro h9; exact absurd h9 (by intro h9; rw [show (Int.toNat c9 : Int) = c9 by omega] at h9; unfold On at h9; rcases h9 with h9 | h9; (rw [show (p3.getD (n.fst + c9).toNat bl0).b = false by assumption] at h9; cases h9); (rw [show (ng.getD (n.fst + c9).toNat bl0).b = false by assumption] at h9; cases h9)))); exact hus3 q (by omega) h2⟩ (by omega) (zan [42, 27, 12, 10, 9, 8, 7, 6, 5, 4, 2, 1, 0] rfl) ((.cons_cons _ (.cons_cons _ (.cons_cons _ (.cons_cons _ (.cons_cons _ .slnil))))))
   refine zad 4 rfl (zbi rfl rfl rfl (zbi rfl rfl rfl (zbi rfl rfl rfl (zad 4 rfl (zbi rfl rfl rfl ?_)))))
   refine zbi rfl rfl rfl (zbi rfl rfl rfl (zad 2 rfl (zac [94, 69, 42, 27, 13, 12, 10, 9, 8, 7, 6, 5, 4, 2, 1, 0] rfl (zae (zaa ?_)))))
   refine zaq rfl ?_
   refine zbp ?_
   refine zah (zah ?_)
   refine zav ?_
   refine zai (zaa (zab (zad 1 rfl (hl_v rfl rfl rfl (zdb rfl rfl rfl (by constructor <;> omega)) (zad 1 rfl ?_)))))
   refine zac [94, 69, 42, 27, 13, 12, 10, 9, 8, 7, 6, 5, 4, 2, 1, 0] rfl (zae ?_)
   exact zcu (c9 - 1) p3 ⟨by omega, by omega, hpl3, hru3, fun q h1 h2 => by by_cases e : q = c9.toNat; (subst e; intro h9; first | (exact fun k hk => hon k (by omega)) | (exfalso; revert h9; intro h9; exact absurd h9 (by intro h9; rw [show (Int.toNat c9 : Int) = c9 by omega] at h9; unfold On at h9; rcases h9 with h9 | h9; (rw [show (p3.getD (n.fst + c9).toNat bl0).b = false by assumption] at h9; cases h9); (rw [show (ng.getD (n.fst + c9).toNat bl0).b = false by assumption] at h9; cases h9)))); exact hus3 q (by omega) h2⟩ (by omega) (zan [42, 27, 12, 10, 9, 8, 7, 6, 5, 4, 2, 1, 0] rfl) ((.cons_cons _ (.cons_cons _ (.cons_cons _ (.cons_cons _ (.cons_cons _ .slnil))))))
  refine zac [69, 42, 27, 12, 10, 9, 8, 7, 6, 5, 4, 2, 1, 0] rfl (zae (zaa (zaq rfl ?_)))
  refine zbp ?_
  refine zah (zah ?_)
  refine zav ?_
  refine zaa (zaf (zab (hl_v rfl rfl rfl (zat (k0 := 0) rfl (by kernel_rfl) rfl) (hl_v rfl rfl rfl (zbd rfl (by kernel_rfl) rfl (zaw 4 rfl rfl)) (hl_v rfl rfl rfl (zdu (cs := #[.int .i64 n.ins, .slice none 0 0, .slice none 0 0, .slice none 0 0]) rfl rfl (by kernel_rfl)) ?_)))))
  refine zci rfl rfl rfl (zcj (z := .agg #[.int .i64 0, .slice none 0 0, .slice none 0 0, .slice none 0 0]) rfl (by kernel_rfl)) ?_
  intro b18
  refine zcn (cs' := #[.int .i64 n.ins, .slice none 0 0, .slice none 0 0, .slice none 0 0]) (i := 0) (off := 0) (us := [.int .i64 n.ins, .slice none 0 0, .slice none 0 0, .slice none 0 0]) rfl rfl rfl (by kernel_rfl) rfl rfl rfl (zar rfl (zar rfl (zar rfl (zar rfl zby)))) rfl rfl rfl ?_
  refine zac [69, 42, 27, 14, 12, 10, 9, 8, 7, 6, 5, 4, 2, 1, 0] rfl (zae (zaa (zaf (zab ?_))))
  refine zbr rfl rfl rfl (zcr (s := 1) rfl Try.underlying26 (by kernel_rfl)) ?_
  intro g19
  refine zad 1 rfl (zac [69, 42, 27, 15, 14, 12, 10, 9, 8, 7, 6, 5, 4, 2, 1, 0] rfl (zae (zaa (zaf (zab ?_)))))
  refine zad 1 rfl ?_
  refine zbr rfl rfl rfl (zeu (z := .int .i64 0) (s := 1) (bytes := 8) (n := (List.replicate (n.cnt).toNat (0 : Int)).length) (cs := ((List.replicate (n.cnt).toNat (0 : Int)).map (Value.int .i64))) rfl Try.underlying26 (by kernel_rfl) (by decide) rfl rfl (by first | (rw [List.length_replicate]; done) | (rw [List.length_replicate]; omega)) (by first | (rw [List.length_replicate]; done) | (rw [List.length_replicate]; omega)) (by rw [List.length_replicate]; omega) (zfr _)) ?_
  intro g20
  refine zad 1 rfl (zac [69, 42, 27, 16, 15, 14, 12, 10, 9, 8, 7, 6, 5, 4, 2, 1, 0] rfl (zae (zaa (zaf (zaf ?_)))))
  refine zab (zad 1 rfl (zac [69, 42, 27, 17, 16, 15, 14, 12, 10, 9, 8, 7, 6, 5, 4, 2, 1, 0] rfl (zae (zaa (zax ?_)))))
  refine zcy (α := Nat) (β := Value) (γ := List Int) (fun k1 u1 to1 => [rowE 3 1 (.slice (some ⟨g20, 0, none⟩) ((List.replicate (n.cnt).toNat (0 : Int)).length) ((List.replicate (n.cnt).toNat (0 : Int)).length)) ((List.replicate (n.cnt).toNat (0 : Int)).length) ((List.replicate (n.cnt).toNat (0 : Int)).map (Value.int .i64)), rowE 3 1 u1 to1.length (to1.map (Value.int .i64)), boxE b18 #[.int .i64 n.ins, .slice none 0 0, .slice none 0 0, .slice none 0 0] 28, rowE 3 1 v6 ((rtsL n n.ss.length).length) ((rtsL n n.ss.length).map (Value.int .i64)), rowE 4 1 (.slice (some ⟨g5, 0, none⟩) ((List.replicate (n.cnt).toNat bl0).length) ((List.replicate (n.cnt).toNat bl0).length)) ng.length (ng.flatMap blC), rowE 4 1 (.slice (some ⟨g4, 0, none⟩) ((List.replicate (n.cnt).toNat bl0).length) ((List.replicate (n.cnt).toNat bl0).length)) p2.length (p2.flatMap blC), boxE b2 #[.int .i64 0, .slice none 0 0, .slice none 0 0, .slice none 0 0] 28, boxE b1 #[.int .i64 n.ins, n.sv, n.av, n.ov] 101]) (fun k1 u1 to1 => [(0, .agg #[.int .i64 n.ins, n.sv, n.av, n.ov]), (1, v), (2, .pointer (some ⟨b1, 0, none⟩)), (4, .pointer (some ⟨b2, 0, none⟩)), (5, .bool false), (6, .int .i64 n.cnt), (7, .int .i64 n.fst), (8, .slice (some ⟨g4, 0, none⟩) ((List.replicate (n.cnt).toNat bl0).length) ((List.replicate (n.cnt).toNat bl0).length)), (9, .slice (some ⟨g5, 0, none⟩) ((List.replicate (n.cnt).toNat bl0).length) ((List.replicate (n.cnt).toNat bl0).length)), (10, v6), (14, .pointer (some ⟨b18, 0, none⟩)), (15, u1), (16, .slice (some ⟨g20, 0, none⟩) ((List.replicate (n.cnt).toNat (0 : Int)).length) ((List.replicate (n.cnt).toNat (0 : Int)).length)), (17, .int .i64 (k1 : Int)), (27, .bool false), (42, .bool false), (69, .bool false)]) (fun k1 u1 to1 => (k1 : Int) ≤ n.fst ∧ to1.length = k1 ∧ TosOk p2 n.fst 0 to1) (fun k1 u1 to1 => n.fst.toNat - k1) 0 _ [] ⟨by omega, rfl, TosOk.nil _ _⟩ (zan [69, 42, 27, 17, 16, 15, 14, 10, 9, 8, 7, 6, 5, 4, 2, 1, 0] rfl) ((.cons_cons _ (.cons_cons _ (.cons_cons _ (.cons_cons _ (.cons_cons _ (.cons_cons _ (.cons_cons _ (.cons_cons _ .slnil))))))))) ?_
  intro k1 u1 to1 hi21
  obtain ⟨hk1, htl1, hto1⟩ := hi21
  refine zaf (zaf (zab (zad 2 rfl ?_)))
  refine zbw rfl rfl rfl rfl rfl rfl (fun h22 => ?_) (fun h22 => ?_)
  ·
   refine zac [114, 69, 42, 27, 17, 16, 15, 14, 10, 9, 8, 7, 6, 5, 4, 2, 1, 0] rfl (zae (zaa (zbb rfl (zaz (zaa ?_)))))
   refine zaf (zax (zab (zad 2 rfl ?_)))
   refine zbr rfl rfl rfl (zbe (z := .int .i64 0) (s := 1) (cs := ([(k1 : Int)].map (Value.int .i64))) rfl Try.underlying26 (by kernel_rfl) (by decide) rfl (by kernel_rfl) rfl) ?_
   intro g23
   refine zco (i := 2) (z := .int .i64 0) (bytes := 8) rfl rfl rfl rfl Try.underlying26 (by kernel_rfl) (by kernel_rfl) rfl rfl rfl (zas 0 rfl) (zcd _) (by first | omega | (simp; done) | (simp; omega)) (zcb to1 ([(k1 : Int)])) (zcv to1 ([(k1 : Int)])) (fun _ => rfl) ?_
   intro v24
   refine zad 1 rfl (zac [114, 69, 42, 27, 17, 16, 15, 14, 10, 9, 8, 7, 6, 5, 4, 2, 1, 0] rfl (zae (zai (zaa (zab ?_)))))
   refine zad 1 rfl (hl_v rfl rfl rfl (zbj rfl rfl rfl (by constructor <;> omega)) (zad 1 rfl (zac [114, 69, 42, 27, 17, 16, 15, 14, 10, 9, 8, 7, 6, 5, 4, 2, 1, 0] rfl (zae ?_))))
   exact zce (k1 + 1) v24 (to1 ++ ([(k1 : Int)])) ⟨by omega, by rw [List.length_append, List.length_singleton]; omega, hto1.app (Nat.le_refl _) (fun _ => by omega)⟩ (by omega) (zan [69, 42, 27, 17, 16, 15, 14, 10, 9, 8, 7, 6, 5, 4, 2, 1, 0] rfl) ((.cons _ (.cons_cons _ (.cons_cons _ (.cons_cons _ (.cons_cons _ (.cons_cons _ (.cons_cons _ (.cons_cons _ (.cons_cons _ .slnil))))))))))
  refine zac [114, 69, 42, 27, 17, 16, 15, 14, 10, 9, 8, 7, 6, 5, 4, 2, 1, 0] rfl (zae (zaa (zaq rfl ?_)))
  refine zbp ?_
  refine zah (zah ?_)
  refine zav ?_
  refine zaa (zaf (zaf (zab (zad 1 rfl (zac [114, 69, 42, 27, 18, 17, 16, 15, 14, 10, 9, 8, 7, 6, 5, 4, 2, 1, 0] rfl ?_)))))
  refine zae (zaa (zax ?_))
  refine zea [rowE 72 2 (.slice none 0 0) (([] : List Lt).length) (([] : List Lt).flatMap ltC), rowE 3 1 (.slice (some ⟨g20, 0, none⟩) ((List.replicate (n.cnt).toNat (0 : Int)).length) ((List.replicate (n.cnt).toNat (0 : Int)).length)) ((List.replicate (n.cnt).toNat (0 : Int)).length) ((List.replicate (n.cnt).toNat (0 : Int)).map (Value.int .i64)), rowE 3 1 u1 to1.length (to1.map (Value.int .i64)), boxE b18 #[.int .i64 n.ins, .slice none 0 0, .slice none 0 0, .slice none 0 0] 28, rowE 3 1 v6 ((rtsL n n.ss.length).length) ((rtsL n n.ss.length).map (Value.int .i64)), rowE 4 1 (.slice (some ⟨g5, 0, none⟩) ((List.replicate (n.cnt).toNat bl0).length) ((List.replicate (n.cnt).toNat bl0).length)) ng.length (ng.flatMap blC), rowE 4 1 (.slice (some ⟨g4, 0, none⟩) ((List.replicate (n.cnt).toNat bl0).length) ((List.replicate (n.cnt).toNat bl0).length)) p2.length (p2.flatMap blC), boxE b2 #[.int .i64 0, .slice none 0 0, .slice none 0 0, .slice none 0 0] 28, boxE b1 #[.int .i64 n.ins, n.sv, n.av, n.ov] 101] (fun w hm => hm.nilRow 72 2) ?_
  refine zea [rowE 35 3 (.slice none 0 0) (([] : List Sq).length) (([] : List Sq).flatMap sqC), rowE 72 2 (.slice none 0 0) (([] : List Lt).length) (([] : List Lt).flatMap ltC), rowE 3 1 (.slice (some ⟨g20, 0, none⟩) ((List.replicate (n.cnt).toNat (0 : Int)).length) ((List.replicate (n.cnt).toNat (0 : Int)).length)) ((List.replicate (n.cnt).toNat (0 : Int)).length) ((List.replicate (n.cnt).toNat (0 : Int)).map (Value.int .i64)), rowE 3 1 u1 to1.length (to1.map (Value.int .i64)), boxE b18 #[.int .i64 n.ins, .slice none 0 0, .slice none 0 0, .slice none 0 0] 28, rowE 3 1 v6 ((rtsL n n.ss.length).length) ((rtsL n n.ss.length).map (Value.int .i64)), rowE 4 1 (.slice (some ⟨g5, 0, none⟩) ((List.replicate (n.cnt).toNat bl0).length) ((List.replicate (n.cnt).toNat bl0).length)) ng.length (ng.flatMap blC), rowE 4 1 (.slice (some ⟨g4, 0, none⟩) ((List.replicate (n.cnt).toNat bl0).length) ((List.replicate (n.cnt).toNat bl0).length)) p2.length (p2.flatMap blC), boxE b2 #[.int .i64 0, .slice none 0 0, .slice none 0 0, .slice none 0 0] 28, boxE b1 #[.int .i64 n.ins, n.sv, n.av, n.ov] 101] (fun w hm => hm.nilRow 35 3) ?_
  refine zea _ zfk ?_
  refine zdl (α := Nat) (β := List Int) (γ := List Lt) (δ := (Value × Value) × List HP) (fun j2 to2 ls zt9 => [bigE zt9.2, rowE 35 3 (.slice none 0 0) (([] : List Sq).length) (([] : List Sq).flatMap sqC), rowE 72 2 zt9.1.2 ls.length (ls.flatMap ltC), rowE 3 1 (.slice (some ⟨g20, 0, none⟩) ((List.replicate (n.cnt).toNat (0 : Int)).length) ((List.replicate (n.cnt).toNat (0 : Int)).length)) ((List.replicate (n.cnt).toNat (0 : Int)).length) ((List.replicate (n.cnt).toNat (0 : Int)).map (Value.int .i64)), rowE 3 1 zt9.1.1 to2.length (to2.map (Value.int .i64)), boxE b18 #[.int .i64 n.ins, .slice none 0 0, zt9.1.2, .slice none 0 0] 28, rowE 4 1 (.slice (some ⟨g5, 0, none⟩) ((List.replicate (n.cnt).toNat bl0).length) ((List.replicate (n.cnt).toNat bl0).length)) ng.length (ng.flatMap blC), rowE 4 1 (.slice (some ⟨g4, 0, none⟩) ((List.replicate (n.cnt).toNat bl0).length) ((List.replicate (n.cnt).toNat bl0).length)) p2.length (p2.flatMap blC), boxE b2 #[.int .i64 0, .slice none 0 0, .slice none 0 0, .slice none 0 0] 28, boxE b1 #[.int .i64 n.ins, n.sv, n.av, n.ov] 101]) (fun j2 to2 ls zt9 => [(0, .agg #[.int .i64 n.ins, n.sv, n.av, n.ov]), (1, v), (2, .pointer (some ⟨b1, 0, none⟩)), (4, .pointer (some ⟨b2, 0, none⟩)), (5, .bool false), (6, .int .i64 n.cnt), (7, .int .i64 n.fst), (8, .slice (some ⟨g4, 0, none⟩) ((List.replicate (n.cnt).toNat bl0).length) ((List.replicate (n.cnt).toNat bl0).length)), (9, .slice (some ⟨g5, 0, none⟩) ((List.replicate (n.cnt).toNat bl0).length) ((List.replicate (n.cnt).toNat bl0).length)), (10, v6), (14, .pointer (some ⟨b18, 0, none⟩)), (15, zt9.1.1), (16, .slice (some ⟨g20, 0, none⟩) ((List.replicate (n.cnt).toNat (0 : Int)).length) ((List.replicate (n.cnt).toNat (0 : Int)).length)), (18, .int .i64 (j2 : Int)), (27, .bool false), (42, .bool false), (69, .bool false), (114, .bool false)]) (fun j2 to2 ls zt9 => j2 ≤ rs.length ∧ (to2.length : Int) = n.fst + (j2 : Int) ∧ ls.length ≤ j2 ∧ LutsOk n.fst ls ∧ TosOk p2 n.fst ls.length to2 ∧ ∀ w, (bigE zt9.2).holds w → RdsLuts w ls) (fun j2 to2 ls zt9 => rs.length - j2) 0 _ [] ((_, _), []) ⟨Nat.zero_le _, by omega, Nat.le_refl _, LutsOk.nil _, hto1, fun w _ => RdsLuts.nil w⟩ (zan [114, 69, 42, 27, 18, 16, 15, 14, 10, 9, 8, 7, 6, 5, 4, 2, 1, 0] rfl) ((.cons_cons _ (.cons_cons _ (.cons_cons _ (.cons_cons _ (.cons_cons _ (.cons_cons _ (.cons _ (.cons_cons _ (.cons_cons _ (.cons_cons _ (.cons_cons _ .slnil)))))))))))) ?_
  intro j2 to2 ls zt9 hi25
  obtain ⟨hj2, htl2, hll, hlo, hto2, hbs⟩ := hi25
  refine zaf (zaf (zab (zad 2 rfl (hl_v rfl rfl rfl (zbo rfl Try.underlying41 rfl (zak hv.row)) ?_))))
  refine zbw rfl rfl rfl rfl rfl rfl (fun h26 => ?_) (fun h26 => ?_)
  ·
   refine zac [124, 114, 69, 42, 27, 18, 16, 15, 14, 10, 9, 8, 7, 6, 5, 4, 2, 1, 0] rfl (zae (zaa (zbb rfl (zaz (zaa ?_)))))
   refine zaf (zax (zaf (zab (zad 2 rfl (hl_v rfl rfl rfl (zat (k0 := 2) rfl (by kernel_rfl) rfl) ?_)))))
   refine hl_v rfl rfl rfl (zbd rfl (by kernel_rfl) rfl (zaw 5 rfl rfl)) (hl_v rfl rfl rfl (zbo rfl Try.underlying25 rfl (zas 2 rfl)) (hl_v rfl rfl rfl (zbj rfl rfl rfl (by constructor <;> omega)) ?_))
   refine zbr rfl rfl rfl (zbe (z := .int .i64 0) (s := 1) (cs := ([n.fst + (ls.length : Int)].map (Value.int .i64))) rfl Try.underlying26 (by kernel_rfl) (by decide) rfl (by kernel_rfl) rfl) ?_
   intro g27
   refine zco (i := 5) (z := .int .i64 0) (bytes := 8) rfl rfl rfl rfl Try.underlying26 (by kernel_rfl) (by kernel_rfl) rfl rfl rfl (zas 0 rfl) (zcd _) (by first | omega | (simp; done) | (simp; omega)) (zcb to2 ([n.fst + (ls.length : Int)])) (zcv to2 ([n.fst + (ls.length : Int)])) (fun _ => rfl) ?_
   intro v28
   refine zad 1 rfl (zac [124, 114, 69, 42, 27, 18, 16, 15, 14, 10, 9, 8, 7, 6, 5, 4, 2, 1, 0] rfl (zae (zaa (zaf (zab ?_)))))
   have hcp := (hmp.cut j2 (by omega)).1
   have hcl4 := hcp.len
   have hbl9 : ∀ k, k < (rs.getD j2 crow0).xs.length → 0 ≤ (rs.getD j2 crow0).xs.getD k 0 ∧ (rs.getD j2 crow0).xs.getD k 0 < to2.length := fun k hk => by have := hmp.below hn (i := j2) (by omega) hk; omega
   refine hl_v rfl rfl rfl (zap rfl) (zad 2 rfl (hl_v rfl rfl rfl (zbj rfl rfl rfl (by constructor <;> omega)) (hl_v rfl rfl rfl (zal (s := 1) rfl Try.underlying80 (by kernel_rfl) rfl rfl (zas 8 rfl) (by omega) (by omega)) ?_)))
   refine hl_v rfl rfl rfl (zam (u := .bool ((p2.getD ((n.fst + (j2 : Int)).toNat) bl0).b)) rfl (by kernel_rfl) rfl (zas 8 rfl) (zbz blC (fun r => .bool r.b) (fun _ => rfl) p2 bl0 (show (n.fst + (j2 : Int)).toNat < _ by omega))) ?_
   refine zck (fun h29 => ?_) (fun h29 => ?_)
   ·
    refine zac [140, 124, 114, 69, 42, 27, 18, 16, 15, 14, 10, 9, 8, 7, 6, 5, 4, 2, 1, 0] rfl (zae (zaa (zbb rfl (zaf ?_))))
    have huse := hus2 j2 (by omega) (by omega) (.inl (by assumption))
    refine zdj (by kernel_rfl) 10 [0, 1, 2, 3, 4, 5, 6, 7, 8, 9] (List.take 10 _) (List.drop 10 _) [[], [], [], [1, 2], [], [], [4, 5], [6], [0, 3, 7], []] [141, 142, 143, 144, 145, 146, 147, 148, 149, 19] (fun i_ vs_ v_ p_ => match i_ with | 0 => v_ = .agg #[.int .i64 n.ins, n.sv, n.av, n.ov] ∧ p_ = [] | 1 => v_ = .int .i64 n.fst ∧ p_ = [] | 2 => v_ = .int .i64 (j2 : Int) ∧ p_ = [] | 3 => v_ = .int .i64 (n.fst + (j2 : Int)) ∧ p_ = [] | 4 => v_ = v ∧ p_ = [] | 5 => v_ = .int .i64 (j2 : Int) ∧ p_ = [] | 6 => v_ = elP v (((j2 : Int)).toNat * 1) ∧ p_ = [] | 7 => v_ = (rs.getD j2 crow0).v ∧ p_ = [] | 8 => (fun u_ p_ => ∃ b : Int, u_ = .agg #[.int .i64 (((rs.getD j2 crow0).xs).length : Int), .int .i64 b] ∧ p_ = [] ∧ TabOk (Tab.mk (((rs.getD j2 crow0).xs).length : Int) b)) v_ p_ | 9 => IsBox #[.int .i64 0, .int .i64 0] 75 v_ p_ | _ => True) (List.take_append_drop 10 _).symm (by kernel_rfl) (by kernel_rfl) rfl rfl ?_ ?_
    ·
     refine ⟨?_, ?_, ?_, ?_, ?_, ?_, ?_, ?_, ?_, ?_, trivial⟩
     ·
      intro vf pf hR
      refine Or.inl ⟨rfl, ?_⟩
      refine zau (sk 2 rfl (zag _)) (List.sublist_append_right _ _) ?_
      exact rq_v (zbc (cs := [.int .i64 n.ins, n.sv, n.av, n.ov]) rfl (by kernel_rfl) (by kernel_rfl) rfl rfl (zay 10 rfl 0 rfl))
     ·
      intro vf pf hR
      refine Or.inl ⟨rfl, ?_⟩
      refine zbh (sk 7 rfl (zag _)) ?_
      exact rq_v (zap rfl)
     ·
      intro vf pf hR
      refine Or.inl ⟨rfl, ?_⟩
      refine zbh (sk 18 rfl (zag _)) ?_
      exact rq_v (zap rfl)
     ·
      intro vf pf hR
      have e1 : (vf 1) = .int .i64 n.fst ∧ (pf 1) = [] := hR 1 (by decide)
      have e2 : (vf 2) = .int .i64 (j2 : Int) ∧ (pf 2) = [] := hR 2 (by decide)
      refine Or.inl ⟨rfl, ?_⟩
      refine zbh (sk 142 (congrArg some e1.1) (sk 143 (congrArg some e2.1) (zag _))) ?_
      exact rq_v (zbj rfl rfl rfl (by constructor <;> omega))
     ·
      intro vf pf hR
      refine Or.inl ⟨rfl, ?_⟩
      refine zbh (sk 1 rfl (zag _)) ?_
      exact rq_v (zap rfl)
     ·
      intro vf pf hR
      refine Or.inl ⟨rfl, ?_⟩
      refine zbh (sk 18 rfl (zag _)) ?_
      exact rq_v (zap rfl)
     ·
      intro vf pf hR
      have e4 : (vf 4) = v ∧ (pf 4) = [] := hR 4 (by decide)
      have e5 : (vf 5) = .int .i64 (j2 : Int) ∧ (pf 5) = [] := hR 5 (by decide)
      refine Or.inl ⟨rfl, ?_⟩
      refine zau (sk 145 (congrArg some e4.1) (sk 146 (congrArg some e5.1) (zag _))) (List.sublist_append_right _ _) ?_
      exact rq_v (zal (s := 1) rfl Try.underlying41 (by kernel_rfl) rfl rfl (zak hv.row) (by omega) (by omega))
     ·
      intro vf pf hR
      have e6 : (vf 6) = elP v (((j2 : Int)).toNat * 1) ∧ (pf 6) = [] := hR 6 (by decide)
      refine Or.inl ⟨rfl, ?_⟩
      refine zau (sk 147 (congrArg some e6.1) (zag _)) (List.sublist_append_right _ _) ?_
      exact rq_v (zam (u := (rs.getD j2 crow0).v) rfl (by kernel_rfl) rfl (zak hv.row) (zbz crowC (fun r => r.v) (fun _ => rfl) rs crow0 (show j2 < _ by omega)))
     ·
      intro vf pf hR
      have e0 : (vf 0) = .agg #[.int .i64 n.ins, n.sv, n.av, n.ov] ∧ (pf 0) = [] := hR 0 (by decide)
      have e3 : (vf 3) = .int .i64 (n.fst + (j2 : Int)) ∧ (pf 3) = [] := hR 3 (by decide)
      have e7 : (vf 7) = (rs.getD j2 crow0).v ∧ (pf 7) = [] := hR 7 (by decide)
      refine Or.inl ⟨rfl, ?_⟩
      refine zau (sk 141 (congrArg some e0.1) (sk 144 (congrArg some e3.1) (sk 148 (congrArg some e7.1) (zag _)))) (List.sublist_append_right _ _) ?_
      exact zba (by kernel_rfl) rfl (fun w hm => CutTableE_ret n (n.fst + (j2 : Int)) ((rs.getD j2 crow0).xs) _ w (hr.below hm.bel) hn ((zak (hv.at (k := j2) (by omega))) w hm) (by omega) hcp)
     intro vf pf hR
     refine Or.inl ⟨rfl, ?_⟩
     refine zau (zag _) (List.sublist_append_right _ _) ?_
     exact zcj (z := .agg #[.int .i64 0, .int .i64 0]) rfl (by kernel_rfl)
    intro vf pf hR
    have e8 : (fun u_ p_ => ∃ b : Int, u_ = .agg #[.int .i64 (((rs.getD j2 crow0).xs).length : Int), .int .i64 b] ∧ p_ = [] ∧ TabOk (Tab.mk (((rs.getD j2 crow0).xs).length : Int) b)) (vf 8) (pf 8) := hR 8 (by decide)
    obtain ⟨v30, vE8⟩ : ∃ x, vf 8 = x := ⟨_, rfl⟩
    obtain ⟨p31, pE8⟩ : ∃ x, pf 8 = x := ⟨_, rfl⟩
    have hR32 := e8
    rw [vE8, pE8] at hR32
    obtain ⟨bq, rfl, rfl, hbq⟩ := hR32
    have e9 : IsBox #[.int .i64 0, .int .i64 0] 75 (vf 9) (pf 9) := hR 9 (by decide)
    obtain ⟨b33, vE9, pE9⟩ := e9
    have q0 : (vf 0) = .agg #[.int .i64 n.ins, n.sv, n.av, n.ov] ∧ (pf 0) = [] := hR 0 (by decide)
    have q1 : (vf 1) = .int .i64 n.fst ∧ (pf 1) = [] := hR 1 (by decide)
    have q2 : (vf 2) = .int .i64 (j2 : Int) ∧ (pf 2) = [] := hR 2 (by decide)
    have q3 : (vf 3) = .int .i64 (n.fst + (j2 : Int)) ∧ (pf 3) = [] := hR 3 (by decide)
    have q4 : (vf 4) = v ∧ (pf 4) = [] := hR 4 (by decide)
    have q5 : (vf 5) = .int .i64 (j2 : Int) ∧ (pf 5) = [] := hR 5 (by decide)
    have q6 : (vf 6) = elP v (((j2 : Int)).toNat * 1) ∧ (pf 6) = [] := hR 6 (by decide)
    have q7 : (vf 7) = (rs.getD j2 crow0).v ∧ (pf 7) = [] := hR 7 (by decide)
    refine zcs (sk 0 rfl (sk 1 rfl (sk 2 rfl (sk 4 rfl (sk 5 rfl (sk 6 rfl (sk 7 rfl (sk 8 rfl (sk 9 rfl (sk 10 rfl (sk 14 rfl (sk 15 rfl (sk 16 rfl (sk 18 rfl (sk 19 (congrArg some vE9) (sk 27 rfl (sk 42 rfl (sk 69 rfl (sk 114 rfl (sk 124 rfl (sk 140 rfl (sk 149 (congrArg some vE8) (zag _))))))))))))))))))))))) (by simp only [pE8, vE8, pE9, vE9, q0.2, q1.2, q2.2, q3.2, q4.2, q5.2, q6.2, q7.2, fS] <;> rfl) ?_
    simp only [List.drop_succ_cons, List.drop_zero]
    refine zcn (cs' := #[.int .i64 (((rs.getD j2 crow0).xs).length : Int), .int .i64 bq]) (i := 0) (off := 0) (us := [.int .i64 (((rs.getD j2 crow0).xs).length : Int), .int .i64 bq]) rfl rfl rfl (by kernel_rfl) rfl rfl rfl (zar rfl (zar rfl zby)) rfl rfl rfl ?_
    refine zac [140, 124, 114, 69, 42, 27, 19, 18, 16, 15, 14, 10, 9, 8, 7, 6, 5, 4, 2, 1, 0] rfl (zae (zaa ?_))
    refine zdj (by kernel_rfl) 12 [0, 1, 2, 3, 4, 5, 6, 7, 8, 9, 10, 11] (List.take 12 _) (List.drop 12 _) [[], [0], [], [], [], [3, 4], [5], [2, 6], [], [8], [7, 9], [7, 10]] [150, 151, 152, 153, 154, 155, 156, 157, 158, 159, 160, 161] (fun i_ vs_ v_ p_ => match i_ with | 0 => v_ = .pointer (some ⟨b18, 0 + 2, none⟩) ∧ p_ = [] | 1 => v_ = zt9.1.2 ∧ p_ = [] | 2 => v_ = v28 ∧ p_ = [] | 3 => v_ = v ∧ p_ = [] | 4 => v_ = .int .i64 (j2 : Int) ∧ p_ = [] | 5 => v_ = elP v (((j2 : Int)).toNat * 1) ∧ p_ = [] | 6 => v_ = (rs.getD j2 crow0).v ∧ p_ = [] | 7 => (fun v' post => post = [rowE 3 1 v' ((ndL (to2 ++ ([n.fst + (ls.length : Int)])) ((rs.getD j2 crow0).xs))).length (((ndL (to2 ++ ([n.fst + (ls.length : Int)])) ((rs.getD j2 crow0).xs))).map (Value.int .i64))]) v_ p_ | 8 => v_ = .pointer (some ⟨b33, 0 + 1, none⟩) ∧ p_ = [] | 9 => v_ = .int .i64 bq ∧ p_ = [] | 10 => v_ = .agg #[(List.getD vs_ 0 undef), .int .i64 bq] ∧ p_ = [] | 11 => IsRow_o 72 2 1 ([(List.getD vs_ 0 undef), .int .i64 bq]) v_ p_ | _ => True) (List.take_append_drop 12 _).symm (by kernel_rfl) (by kernel_rfl) rfl rfl ?_ ?_
    ·
     refine ⟨?_, ?_, ?_, ?_, ?_, ?_, ?_, ?_, ?_, ?_, ?_, ?_, trivial⟩
     ·
      intro vf pf hR
      refine Or.inl ⟨rfl, ?_⟩
      refine zbh (sk 14 rfl (zag _)) ?_
      exact rq_v (zat (k0 := 2) rfl (by kernel_rfl) rfl)
     ·
      intro vf pf hR
      have e0 : (vf 0) = .pointer (some ⟨b18, 0 + 2, none⟩) ∧ (pf 0) = [] := hR 0 (by decide)
      refine Or.inl ⟨rfl, ?_⟩
      refine zau (sk 150 (congrArg some e0.1) (zag _)) (List.sublist_append_right _ _) ?_
      exact rq_v (zbd rfl (by kernel_rfl) rfl (zaw 7 rfl rfl))
     ·
      intro vf pf hR
      refine Or.inl ⟨rfl, ?_⟩
      refine zbh (sk 15 rfl (zag _)) ?_
      exact rq_v (zap rfl)
     ·
      intro vf pf hR
      refine Or.inl ⟨rfl, ?_⟩
      refine zbh (sk 1 rfl (zag _)) ?_
      exact rq_v (zap rfl)
     ·
      intro vf pf hR
      refine Or.inl ⟨rfl, ?_⟩
      refine zbh (sk 18 rfl (zag _)) ?_
      exact rq_v (zap rfl)
     ·
      intro vf pf hR
      have e3 : (vf 3) = v ∧ (pf 3) = [] := hR 3 (by decide)
      have e4 : (vf 4) = .int .i64 (j2 : Int) ∧ (pf 4) = [] := hR 4 (by decide)
      refine Or.inl ⟨rfl, ?_⟩
      refine zau (sk 153 (congrArg some e3.1) (sk 154 (congrArg some e4.1) (zag _))) (List.sublist_append_right _ _) ?_
      exact rq_v (zal (s := 1) rfl Try.underlying41 (by kernel_rfl) rfl rfl (zak hv.row) (by omega) (by omega))
     ·
      intro vf pf hR
      have e5 : (vf 5) = elP v (((j2 : Int)).toNat * 1) ∧ (pf 5) = [] := hR 5 (by decide)
      refine Or.inl ⟨rfl, ?_⟩
      refine zau (sk 155 (congrArg some e5.1) (zag _)) (List.sublist_append_right _ _) ?_
      exact rq_v (zam (u := (rs.getD j2 crow0).v) rfl (by kernel_rfl) rfl (zak hv.row) (zbz crowC (fun r => r.v) (fun _ => rfl) rs crow0 (show j2 < _ by omega)))
     ·
      intro vf pf hR
      have e2 : (vf 2) = v28 ∧ (pf 2) = [] := hR 2 (by decide)
      have e6 : (vf 6) = (rs.getD j2 crow0).v ∧ (pf 6) = [] := hR 6 (by decide)
      refine Or.inl ⟨rfl, ?_⟩
      refine zau (sk 152 (congrArg some e2.1) (sk 156 (congrArg some e6.1) (zag _))) (List.sublist_append_right _ _) ?_
      exact zba (by kernel_rfl) rfl (fun w hm => l20Nodes_ret (to2 ++ ([n.fst + (ls.length : Int)])) ((rs.getD j2 crow0).xs) _ _ w ((zas 6 rfl) w hm) ((zak (hv.at (k := j2) (by omega))) w hm) (fun k hk => by have := hbl9 k hk; rw [List.length_append]; omega) (by omega))
     ·
      intro vf pf hR
      refine Or.inl ⟨rfl, ?_⟩
      refine zbh (sk 19 rfl (zag _)) ?_
      exact rq_v (zat (k0 := 1) rfl (by kernel_rfl) rfl)
     ·
      intro vf pf hR
      have e8 : (vf 8) = .pointer (some ⟨b33, 0 + 1, none⟩) ∧ (pf 8) = [] := hR 8 (by decide)
      refine Or.inl ⟨rfl, ?_⟩
      refine zau (sk 158 (congrArg some e8.1) (zag _)) (List.sublist_append_right _ _) ?_
      exact rq_v (zbd rfl (by kernel_rfl) rfl (zaw 0 rfl rfl))
     ·
      intro vf pf hR
      have e7 : (fun v' post => post = [rowE 3 1 v' ((ndL (to2 ++ ([n.fst + (ls.length : Int)])) ((rs.getD j2 crow0).xs))).length (((ndL (to2 ++ ([n.fst + (ls.length : Int)])) ((rs.getD j2 crow0).xs))).map (Value.int .i64))]) (vf 7) (pf 7) := hR 7 (by decide)
      obtain ⟨v34, vE7⟩ : ∃ x, vf 7 = x := ⟨_, rfl⟩
      obtain ⟨p35, pE7⟩ : ∃ x, pf 7 = x := ⟨_, rfl⟩
      have hR36 := e7
      rw [vE7, pE7] at hR36
      subst hR36
      have e9 : (vf 9) = .int .i64 bq ∧ (pf 9) = [] := hR 9 (by decide)
      refine Or.inl ⟨rfl, ?_⟩
      refine zcg (sk 157 (congrArg some vE7) (sk 159 (congrArg some e9.1) (zag _))) (by simp only [pE7, vE7, e9.2, fS] <;> rfl) ?_
      exact zcw (rq_v (zfc (cs := #[v34, .int .i64 bq]) rfl rfl (fun w hm => built_lutT v34 bq ((zas 0 rfl w hm).one)))) (fun _ _ h => ⟨h.1.trans (by show _ = (.agg #[(vf 7), .int .i64 bq] : Value); first | (rw [vE7]; done) | (rw [vE7]; rfl)), h.2⟩)
     intro vf pf hR
     have e7 : (fun v' post => post = [rowE 3 1 v' ((ndL (to2 ++ ([n.fst + (ls.length : Int)])) ((rs.getD j2 crow0).xs))).length (((ndL (to2 ++ ([n.fst + (ls.length : Int)])) ((rs.getD j2 crow0).xs))).map (Value.int .i64))]) (vf 7) (pf 7) := hR 7 (by decide)
     obtain ⟨v34, vE7⟩ : ∃ x, vf 7 = x := ⟨_, rfl⟩
     obtain ⟨p35, pE7⟩ : ∃ x, pf 7 = x := ⟨_, rfl⟩
     have hR36 := e7
     rw [vE7, pE7] at hR36
     subst hR36
     have e10 : (vf 10) = .agg #[(vf 7), .int .i64 bq] ∧ (pf 10) = [] := hR 10 (by decide)
     rw [vE7] at e10
     refine Or.inl ⟨rfl, ?_⟩
     refine zcg (sk 160 (congrArg some e10.1) (zag _)) (by simp only [pE7, vE7, e10.2, fS] <;> rfl) ?_
     exact zcw (zbe (z := .agg #[.slice none 0 0, .int .i64 0]) (s := 2) (cs := [v34, .int .i64 bq]) rfl Try.underlying25 (by kernel_rfl) (by decide) rfl (by kernel_rfl) rfl) (fun v_ p_ h => by show IsRow_o 72 2 1 ([(vf 7), .int .i64 bq]) v_ p_; rw [vE7]; exact h)
    intro vf pf hR
    have e1 : (vf 1) = zt9.1.2 ∧ (pf 1) = [] := hR 1 (by decide)
    have e7 : (fun v' post => post = [rowE 3 1 v' ((ndL (to2 ++ ([n.fst + (ls.length : Int)])) ((rs.getD j2 crow0).xs))).length (((ndL (to2 ++ ([n.fst + (ls.length : Int)])) ((rs.getD j2 crow0).xs))).map (Value.int .i64))]) (vf 7) (pf 7) := hR 7 (by decide)
    obtain ⟨v34, vE7⟩ : ∃ x, vf 7 = x := ⟨_, rfl⟩
    obtain ⟨p35, pE7⟩ : ∃ x, pf 7 = x := ⟨_, rfl⟩
    have hR36 := e7
    rw [vE7, pE7] at hR36
    subst hR36
    have e11 : IsRow_o 72 2 1 ([(vf 7), .int .i64 bq]) (vf 11) (pf 11) := hR 11 (by decide)
    rw [vE7] at e11
    obtain ⟨g37, vE11, pE11⟩ := e11
    have q0 : (vf 0) = .pointer (some ⟨b18, 0 + 2, none⟩) ∧ (pf 0) = [] := hR 0 (by decide)
    have q1 : (vf 1) = zt9.1.2 ∧ (pf 1) = [] := hR 1 (by decide)
    have q2 : (vf 2) = v28 ∧ (pf 2) = [] := hR 2 (by decide)
    have q3 : (vf 3) = v ∧ (pf 3) = [] := hR 3 (by decide)
    have q4 : (vf 4) = .int .i64 (j2 : Int) ∧ (pf 4) = [] := hR 4 (by decide)
    have q5 : (vf 5) = elP v (((j2 : Int)).toNat * 1) ∧ (pf 5) = [] := hR 5 (by decide)
    have q6 : (vf 6) = (rs.getD j2 crow0).v ∧ (pf 6) = [] := hR 6 (by decide)
    have q8 : (vf 8) = .pointer (some ⟨b33, 0 + 1, none⟩) ∧ (pf 8) = [] := hR 8 (by decide)
    have q9 : (vf 9) = .int .i64 bq ∧ (pf 9) = [] := hR 9 (by decide)
    have q10 : (vf 10) = .agg #[(vf 7), .int .i64 bq] ∧ (pf 10) = [] := hR 10 (by decide)
    refine zcs (sk 0 rfl (sk 1 rfl (sk 2 rfl (sk 4 rfl (sk 5 rfl (sk 6 rfl (sk 7 rfl (sk 8 rfl (sk 9 rfl (sk 10 rfl (sk 14 rfl (sk 15 rfl (sk 16 rfl (sk 18 rfl (sk 19 rfl (sk 27 rfl (sk 42 rfl (sk 69 rfl (sk 114 rfl (sk 124 rfl (sk 140 rfl (sk 151 (congrArg some e1.1) (sk 161 (congrArg some vE11) (zag _)))))))))))))))))))))))) (by simp only [pE7, vE7, pE11, vE11, q0.2, q1.2, q2.2, q3.2, q4.2, q5.2, q6.2, q8.2, q9.2, q10.2, fS] <;> rfl) ?_
    simp only [List.drop_succ_cons, List.drop_zero]
    refine zda (i := 0) rfl (fun ho38 => ?_)
    refine zco (i := 6) (z := .agg #[.slice none 0 0, .int .i64 0]) (bytes := 32) rfl rfl rfl rfl Try.underlying25 (by kernel_rfl) (by kernel_rfl) rfl rfl rfl (zas 1 rfl) (zar ho38 (zar rfl zby)) (by first | omega | (simp only [List.length_append, List.length_cons, List.length_nil]; omega)) (zcb ls [(Lt.mk v34 (ndL (to2 ++ ([n.fst + (ls.length : Int)])) ((rs.getD j2 crow0).xs)) bq)]) (zdc ltC ls (Lt.mk v34 (ndL (to2 ++ ([n.fst + (ls.length : Int)])) ((rs.getD j2 crow0).xs)) bq) _ rfl) (fun _ => rfl) ?_
    intro v39
    refine hl_v rfl rfl rfl (zat (k0 := 2) rfl (by kernel_rfl) rfl) ?_
    refine zda (i := 6) rfl (fun ho40 => ?_)
    refine zem (i := 9) (cs' := #[.int .i64 n.ins, .slice none 0 0, v39, .slice none 0 0]) rfl rfl rfl (by kernel_rfl) rfl rfl ho40 rfl rfl rfl rfl ?_
    refine zac [140, 124, 114, 69, 42, 27, 19, 18, 16, 15, 14, 10, 9, 8, 7, 6, 5, 4, 2, 1, 0] rfl (zae (zai (zaa (zab (zad 1 rfl ?_)))))
    refine hl_v rfl rfl rfl (zbj rfl rfl rfl (by constructor <;> omega)) (zad 1 rfl (zac [140, 124, 114, 69, 42, 27, 19, 18, 16, 15, 14, 10, 9, 8, 7, 6, 5, 4, 2, 1, 0] rfl (zae ?_)))
    refine zbu 14 [13, 12, 11, 10, 9, 8, 7, 6, 5, 0, 4] rfl rfl (by decide) ?_
    refine zcz 2 rfl ?_
    exact zbx (j2 + 1) (to2 ++ ([n.fst + (ls.length : Int)])) (ls ++ [(Lt.mk v34 (ndL (to2 ++ ([n.fst + (ls.length : Int)])) ((rs.getD j2 crow0).xs)) bq)]) ((v28, v39), [bigE zt9.2, rowE 3 1 v34 ((ndL (to2 ++ ([n.fst + (ls.length : Int)])) ((rs.getD j2 crow0).xs)).length) ((ndL (to2 ++ ([n.fst + (ls.length : Int)])) ((rs.getD j2 crow0).xs)).map (Value.int .i64))]) ⟨by omega, by rw [List.length_append, List.length_singleton]; omega, by rw [List.length_append, List.length_singleton]; omega, hlo.app (lutP_mk hbq (by show (_ : Int) = _; rw [ndL_len]) (by rw [ndL_len]; exact hcp.len) (by rw [ndL_app hbl9]; exact below_nd hto2 hbl9 huse)), (by rw [List.length_append, List.length_singleton]; exact hto2.app (Nat.le_succ _) (fun _ => by omega)), fun w hw => (hbs w (zbn hw List.mem_cons_self)).app (zcc (zbn hw (List.mem_cons_of_mem _ List.mem_cons_self)))⟩ (by omega) (zan [114, 69, 42, 27, 18, 16, 15, 14, 10, 9, 8, 7, 6, 5, 4, 2, 1, 0] rfl) ((.cons_cons _ (.cons_cons _ (.cons_cons _ (.cons_cons _ (.cons_cons _ (.cons_cons _ (.cons_cons _ (.cons_cons _ (.cons_cons _ (.cons_cons _ .slnil)))))))))))
   refine zac [140, 124, 114, 69, 42, 27, 18, 16, 15, 14, 10, 9, 8, 7, 6, 5, 4, 2, 1, 0] rfl (zae (zaa (zaq rfl (zaz (zai ?_)))))
   refine zaa (zab (zad 1 rfl (hl_v rfl rfl rfl (zbj rfl rfl rfl (by constructor <;> omega)) (zad 1 rfl (zac [140, 124, 114, 69, 42, 27, 18, 16, 15, 14, 10, 9, 8, 7, 6, 5, 4, 2, 1, 0] rfl ?_)))))
   refine zae ?_
   exact zbx (j2 + 1) (to2 ++ ([n.fst + (ls.length : Int)])) ls ((v28, zt9.1.2), zt9.2) ⟨by omega, by rw [List.length_append, List.length_singleton]; omega, by omega, hlo, hto2.app (Nat.le_refl _) (fun h9 => by rcases h9 with h9 | h9; (omega); (unfold On at h9; rw [show ((to2.length : Int)) = n.fst + (j2 : Int) by omega] at h9; rw [show (p2.getD (n.fst + (j2 : Int)).toNat bl0).b = false by assumption] at h9; cases h9)), hbs⟩ (by omega) (zan [114, 69, 42, 27, 18, 16, 15, 14, 10, 9, 8, 7, 6, 5, 4, 2, 1, 0] rfl) ((.cons _ (.cons_cons _ (.cons_cons _ (.cons_cons _ (.cons_cons _ (.cons_cons _ (.cons_cons _ (.cons_cons _ (.cons_cons _ (.cons_cons _ (.cons_cons _ .slnil))))))))))))
  refine zac [124, 114, 69, 42, 27, 18, 16, 15, 14, 10, 9, 8, 7, 6, 5, 4, 2, 1, 0] rfl (zae (zaa (zaq rfl ?_)))
  refine zbp ?_
  refine zah (zah ?_)
  refine zav ?_
  refine zaa (zaf (zaf (zab (zad 1 rfl (zac [124, 114, 69, 42, 27, 20, 18, 16, 15, 14, 10, 9, 8, 7, 6, 5, 4, 2, 1, 0] rfl ?_)))))
  refine zae (zaa (zax ?_))
  refine zdl (α := Nat) (β := List Int) (γ := List Lt) (δ := Value × List HP) (fun k3 nos ls2 yt9 => [bigE yt9.2, rowE 35 3 (.slice none 0 0) (([] : List Sq).length) (([] : List Sq).flatMap sqC), rowE 72 2 yt9.1 ls2.length (ls2.flatMap ltC), rowE 3 1 (.slice (some ⟨g20, 0, none⟩) ((List.replicate (n.cnt).toNat (0 : Int)).length) ((List.replicate (n.cnt).toNat (0 : Int)).length)) nos.length (nos.map (Value.int .i64)), rowE 3 1 zt9.1.1 to2.length (to2.map (Value.int .i64)), boxE b18 #[.int .i64 n.ins, .slice none 0 0, yt9.1, .slice none 0 0] 28, rowE 4 1 (.slice (some ⟨g5, 0, none⟩) ((List.replicate (n.cnt).toNat bl0).length) ((List.replicate (n.cnt).toNat bl0).length)) ng.length (ng.flatMap blC), rowE 4 1 (.slice (some ⟨g4, 0, none⟩) ((List.replicate (n.cnt).toNat bl0).length) ((List.replicate (n.cnt).toNat bl0).length)) p2.length (p2.flatMap blC), boxE b2 #[.int .i64 0, .slice none 0 0, .slice none 0 0, .slice none 0 0] 28, boxE b1 #[.int .i64 n.ins, n.sv, n.av, n.ov] 101]) (fun k3 nos ls2 yt9 => [(0, .agg #[.int .i64 n.ins, n.sv, n.av, n.ov]), (1, v), (2, .pointer (some ⟨b1, 0, none⟩)), (4, .pointer (some ⟨b2, 0, none⟩)), (5, .bool false), (6, .int .i64 n.cnt), (7, .int .i64 n.fst), (8, .slice (some ⟨g4, 0, none⟩) ((List.replicate (n.cnt).toNat bl0).length) ((List.replicate (n.cnt).toNat bl0).length)), (9, .slice (some ⟨g5, 0, none⟩) ((List.replicate (n.cnt).toNat bl0).length) ((List.replicate (n.cnt).toNat bl0).length)), (10, v6), (14, .pointer (some ⟨b18, 0, none⟩)), (15, zt9.1.1), (16, .slice (some ⟨g20, 0, none⟩) ((List.replicate (n.cnt).toNat (0 : Int)).length) ((List.replicate (n.cnt).toNat (0 : Int)).length)), (20, .int .i64 (k3 : Int)), (27, .bool false), (42, .bool false), (69, .bool false), (114, .bool false), (124, .bool false)]) (fun k3 nos ls2 yt9 => (k3 : Int) ≤ n.cnt ∧ nos.length = n.cnt.toNat ∧ ls2.length ≤ rs.length + k3 ∧ LutsOk n.fst ls2 ∧ TosOk p2 n.fst ls2.length to2 ∧ NosOk ng n.fst ls2.length k3 nos ∧ ∀ w, (bigE yt9.2).holds w → RdsLuts w ls2) (fun k3 nos ls2 yt9 => n.cnt.toNat - k3) 0 _ _ (_, _) ⟨by omega, by rw [List.length_replicate], by omega, hlo, hto2, fun j hj => absurd hj (Nat.not_lt_zero _), hbs⟩ (zan [124, 114, 69, 42, 27, 20, 16, 15, 14, 10, 9, 8, 7, 6, 5, 4, 2, 1, 0] rfl) ((.cons_cons _ (.cons_cons _ (.cons_cons _ (.cons_cons _ (.cons_cons _ (.cons_cons _ (.cons_cons _ (.cons_cons _ (.cons_cons _ (.cons_cons _ .slnil))))))))))) ?_
  intro k3 nos ls2 yt9 hi41
  obtain ⟨hk3, hnol, hll2, hlo2, hto3, hno, hbs2⟩ := hi41
  refine zaf (zaf (zab (zad 2 rfl ?_)))
  refine zbw rfl rfl rfl rfl rfl rfl (fun h42 => ?_) (fun h42 => ?_)
  ·
   refine zac [166, 124, 114, 69, 42, 27, 20, 16, 15, 14, 10, 9, 8, 7, 6, 5, 4, 2, 1, 0] rfl (zae (zaa (zbb rfl (zaz (zaa ?_)))))
   refine zaf (zax (zaf (zaf (zab (zad 2 rfl ?_)))))
   refine hl_v rfl rfl rfl (zal (s := 1) rfl Try.underlying80 (by kernel_rfl) rfl rfl (zas 6 rfl) (by omega) (by omega)) ?_
   refine hl_v rfl rfl rfl (zam (u := .bool ((ng.getD k3 bl0).b)) rfl (by kernel_rfl) rfl (zas 6 rfl) (zbz blC (fun r => .bool r.b) (fun _ => rfl) ng bl0 (show k3 < _ by omega))) ?_
   refine zck (fun h43 => ?_) (fun h43 => ?_)
   ·
    refine zad 1 rfl (zac [173, 166, 124, 114, 69, 42, 27, 20, 16, 15, 14, 10, 9, 8, 7, 6, 5, 4, 2, 1, 0] rfl (zae (zaa (zaq rfl (zaz ?_)))))
    refine zaa (zaf (zab (zad 3 rfl (hl_v rfl rfl rfl (zat (k0 := 2) rfl (by kernel_rfl) rfl) (hl_v rfl rfl rfl (zbd rfl (by kernel_rfl) rfl (zaw 5 rfl rfl)) ?_)))))
    refine hl_v rfl rfl rfl (zbo rfl Try.underlying25 rfl (zas 2 rfl)) (hl_v rfl rfl rfl (zbj rfl rfl rfl (by constructor <;> omega)) (hl_v rfl rfl rfl (zal (s := 1) rfl Try.underlying26 (by kernel_rfl) rfl rfl (zas 3 rfl) (by omega) (by omega)) ?_))
    refine zdp (i := 3) (n' := (nos.set k3 (n.fst + (ls2.length : Int))).length) (xs' := ((nos.set k3 (n.fst + (ls2.length : Int))).map (Value.int .i64))) rfl rfl rfl (by kernel_rfl) rfl rfl rfl rfl (by first | omega | (simp only [List.length_set]; omega)) List.length_set.symm (zep _ _ _) rfl ?_
    refine zac [173, 166, 124, 114, 69, 42, 27, 20, 16, 15, 14, 10, 9, 8, 7, 6, 5, 4, 2, 1, 0] rfl (zae (zaa (zaf (zab (hl_v rfl rfl rfl (zdu (cs := #[.slice none 0 0, .int .i64 1]) rfl rfl (by kernel_rfl)) ?_)))))
    refine zci rfl rfl rfl (zcj (z := .agg #[.slice none 0 0, .int .i64 0]) rfl (by kernel_rfl)) ?_
    intro b44
    refine zcn (cs' := #[.slice none 0 0, .int .i64 1]) (i := 0) (off := 0) (us := [.slice none 0 0, .int .i64 1]) rfl rfl rfl (by kernel_rfl) rfl rfl rfl (zar rfl (zar rfl zby)) rfl rfl rfl ?_
    refine zac [173, 166, 124, 114, 69, 42, 27, 21, 20, 16, 15, 14, 10, 9, 8, 7, 6, 5, 4, 2, 1, 0] rfl (zae (zaa (zaf (zaf (zab ?_)))))
    refine zad 2 rfl ?_
    refine zey rfl rfl rfl rfl rfl rfl (fun h45 => ?_) (fun h45 => ?_)
    ·
     refine zac [185, 173, 166, 124, 114, 69, 42, 27, 21, 20, 16, 15, 14, 10, 9, 8, 7, 6, 5, 4, 2, 1, 0] rfl (zae (zaa (zbb rfl (zaf ?_))))
     have hcp : CutP n (k3 : Int) (rs.getD (((k3 : Int) - n.fst).toNat) crow0).xs := by have h9 := (hmp.cut (((k3 : Int) - n.fst).toNat) (by omega)).1; rwa [show n.fst + ((((k3 : Int) - n.fst).toNat) : Int) = (k3 : Int) by omega] at h9
     have hcl4 := hcp.len
     have hbl9 : ∀ k, k < (rs.getD (((k3 : Int) - n.fst).toNat) crow0).xs.length → 0 ≤ (rs.getD (((k3 : Int) - n.fst).toNat) crow0).xs.getD k 0 ∧ (rs.getD (((k3 : Int) - n.fst).toNat) crow0).xs.getD k 0 < to2.length := fun k hk => by have := hmp.below hn (i := (((k3 : Int) - n.fst).toNat)) (by omega) hk; omega
     have huse := hus2 (((k3 : Int) - n.fst).toNat) (by omega) (by omega) (.inr (by rw [show n.fst + ((((k3 : Int) - n.fst).toNat) : Int) = (k3 : Int) by omega]; unfold On; rw [Int.toNat_natCast]; assumption))
     refine zdj (by kernel_rfl) 11 [0, 1, 2, 3, 4, 5, 6, 7, 8, 9, 10] (List.take 11 _) (List.drop 11 _) [[], [], [], [], [], [3, 4], [2, 5], [6], [0, 1, 7], [8], []] [186, 187, 188, 189, 190, 191, 192, 193, 194, 195, 22] (fun i_ vs_ v_ p_ => match i_ with | 0 => v_ = .agg #[.int .i64 n.ins, n.sv, n.av, n.ov] ∧ p_ = [] | 1 => v_ = .int .i64 (k3 : Int) ∧ p_ = [] | 2 => v_ = v ∧ p_ = [] | 3 => v_ = .int .i64 (k3 : Int) ∧ p_ = [] | 4 => v_ = .int .i64 n.fst ∧ p_ = [] | 5 => v_ = .int .i64 ((k3 : Int) - n.fst) ∧ p_ = [] | 6 => v_ = elP v (((k3 : Int) - n.fst).toNat * 1) ∧ p_ = [] | 7 => v_ = (rs.getD (((k3 : Int) - n.fst).toNat) crow0).v ∧ p_ = [] | 8 => (fun u_ p_ => ∃ b : Int, u_ = .agg #[.int .i64 (((rs.getD (((k3 : Int) - n.fst).toNat) crow0).xs).length : Int), .int .i64 b] ∧ p_ = [] ∧ TabOk (Tab.mk (((rs.getD (((k3 : Int) - n.fst).toNat) crow0).xs).length : Int) b)) v_ p_ | 9 => (fun u_ p_ => p_ = [] ∧ ∃ t : Tab, TabOk t ∧ t.N = (((rs.getD (((k3 : Int) - n.fst).toNat) crow0).xs).length : Int) ∧ u_ = .agg #[.int .i64 t.N, .int .i64 t.B]) v_ p_ | 10 => IsBox #[.int .i64 0, .int .i64 0] 75 v_ p_ | _ => True) (List.take_append_drop 11 _).symm (by kernel_rfl) (by kernel_rfl) rfl rfl ?_ ?_
     ·
      refine ⟨?_, ?_, ?_, ?_, ?_, ?_, ?_, ?_, ?_, ?_, ?_, trivial⟩
      ·
       intro vf pf hR
       refine Or.inl ⟨rfl, ?_⟩
       refine zau (sk 2 rfl (zag _)) (List.sublist_append_right _ _) ?_
       exact rq_v (zbc (cs := [.int .i64 n.ins, n.sv, n.av, n.ov]) rfl (by kernel_rfl) (by kernel_rfl) rfl rfl (zay 10 rfl 0 rfl))
      ·
       intro vf pf hR
       refine Or.inl ⟨rfl, ?_⟩
       refine zbh (sk 20 rfl (zag _)) ?_
       exact rq_v (zap rfl)
      ·
       intro vf pf hR
       refine Or.inl ⟨rfl, ?_⟩
       refine zbh (sk 1 rfl (zag _)) ?_
       exact rq_v (zap rfl)
      ·
       intro vf pf hR
       refine Or.inl ⟨rfl, ?_⟩
       refine zbh (sk 20 rfl (zag _)) ?_
       exact rq_v (zap rfl)
      ·
       intro vf pf hR
       refine Or.inl ⟨rfl, ?_⟩
       refine zbh (sk 7 rfl (zag _)) ?_
       exact rq_v (zap rfl)
      ·
       intro vf pf hR
       have e3 : (vf 3) = .int .i64 (k3 : Int) ∧ (pf 3) = [] := hR 3 (by decide)
       have e4 : (vf 4) = .int .i64 n.fst ∧ (pf 4) = [] := hR 4 (by decide)
       refine Or.inl ⟨rfl, ?_⟩
       refine zbh (sk 189 (congrArg some e3.1) (sk 190 (congrArg some e4.1) (zag _))) ?_
       exact rq_v (zdb rfl rfl rfl (by constructor <;> omega))
      ·
       intro vf pf hR
       have e2 : (vf 2) = v ∧ (pf 2) = [] := hR 2 (by decide)
       have e5 : (vf 5) = .int .i64 ((k3 : Int) - n.fst) ∧ (pf 5) = [] := hR 5 (by decide)
       refine Or.inl ⟨rfl, ?_⟩
       refine zau (sk 188 (congrArg some e2.1) (sk 191 (congrArg some e5.1) (zag _))) (List.sublist_append_right _ _) ?_
       exact rq_v (zal (s := 1) rfl Try.underlying41 (by kernel_rfl) rfl rfl (zak hv.row) (by omega) (by omega))
      ·
       intro vf pf hR
       have e6 : (vf 6) = elP v (((k3 : Int) - n.fst).toNat * 1) ∧ (pf 6) = [] := hR 6 (by decide)
       refine Or.inl ⟨rfl, ?_⟩
       refine zau (sk 192 (congrArg some e6.1) (zag _)) (List.sublist_append_right _ _) ?_
       exact rq_v (zam (u := (rs.getD (((k3 : Int) - n.fst).toNat) crow0).v) rfl (by kernel_rfl) rfl (zak hv.row) (zbz crowC (fun r => r.v) (fun _ => rfl) rs crow0 (show ((k3 : Int) - n.fst).toNat < _ by omega)))
      ·
       intro vf pf hR
       have e0 : (vf 0) = .agg #[.int .i64 n.ins, n.sv, n.av, n.ov] ∧ (pf 0) = [] := hR 0 (by decide)
       have e1 : (vf 1) = .int .i64 (k3 : Int) ∧ (pf 1) = [] := hR 1 (by decide)
       have e7 : (vf 7) = (rs.getD (((k3 : Int) - n.fst).toNat) crow0).v ∧ (pf 7) = [] := hR 7 (by decide)
       refine Or.inl ⟨rfl, ?_⟩
       refine zau (sk 186 (congrArg some e0.1) (sk 187 (congrArg some e1.1) (sk 193 (congrArg some e7.1) (zag _)))) (List.sublist_append_right _ _) ?_
       exact zba (by kernel_rfl) rfl (fun w hm => CutTableE_ret n (k3 : Int) ((rs.getD (((k3 : Int) - n.fst).toNat) crow0).xs) _ w (hr.below hm.bel) hn ((zak (hv.at (k := (((k3 : Int) - n.fst).toNat)) (by omega))) w hm) (by omega) hcp)
      ·
       intro vf pf hR
       have e8 : (fun u_ p_ => ∃ b : Int, u_ = .agg #[.int .i64 (((rs.getD (((k3 : Int) - n.fst).toNat) crow0).xs).length : Int), .int .i64 b] ∧ p_ = [] ∧ TabOk (Tab.mk (((rs.getD (((k3 : Int) - n.fst).toNat) crow0).xs).length : Int) b)) (vf 8) (pf 8) := hR 8 (by decide)
       obtain ⟨v46, vE8⟩ : ∃ x, vf 8 = x := ⟨_, rfl⟩
       obtain ⟨p47, pE8⟩ : ∃ x, pf 8 = x := ⟨_, rfl⟩
       have hR48 := e8
       rw [vE8, pE8] at hR48
       obtain ⟨bq, rfl, rfl, hbq⟩ := hR48
       refine Or.inl ⟨rfl, ?_⟩
       refine zau (sk 194 (congrArg some vE8) (zag _)) (List.sublist_append_right _ _) ?_
       exact zba (by kernel_rfl) rfl (fun w hm => TableNot_ret (((rs.getD (((k3 : Int) - n.fst).toNat) crow0).xs).length : Int) bq w hbq.1 hbq.2)
      intro vf pf hR
      refine Or.inl ⟨rfl, ?_⟩
      refine zau (zag _) (List.sublist_append_right _ _) ?_
      exact zcj (z := .agg #[.int .i64 0, .int .i64 0]) rfl (by kernel_rfl)
     intro vf pf hR
     have e8 : (fun u_ p_ => ∃ b : Int, u_ = .agg #[.int .i64 (((rs.getD (((k3 : Int) - n.fst).toNat) crow0).xs).length : Int), .int .i64 b] ∧ p_ = [] ∧ TabOk (Tab.mk (((rs.getD (((k3 : Int) - n.fst).toNat) crow0).xs).length : Int) b)) (vf 8) (pf 8) := hR 8 (by decide)
     obtain ⟨v46, vE8⟩ : ∃ x, vf 8 = x := ⟨_, rfl⟩
     obtain ⟨p47, pE8⟩ : ∃ x, pf 8 = x := ⟨_, rfl⟩
     have hR48 := e8
     rw [vE8, pE8] at hR48
     obtain ⟨bq, rfl, rfl, hbq⟩ := hR48
     have e9 : (fun u_ p_ => p_ = [] ∧ ∃ t : Tab, TabOk t ∧ t.N = (((rs.getD (((k3 : Int) - n.fst).toNat) crow0).xs).length : Int) ∧ u_ = .agg #[.int .i64 t.N, .int .i64 t.B]) (vf 9) (pf 9) := hR 9 (by decide)
     obtain ⟨v49, vE9⟩ : ∃ x, vf 9 = x := ⟨_, rfl⟩
     obtain ⟨p50, pE9⟩ : ∃ x, pf 9 = x := ⟨_, rfl⟩
     have hR51 := e9
     rw [vE9, pE9] at hR51
     obtain ⟨rfl, tq, htq, htn, rfl⟩ := hR51
     have e10 : IsBox #[.int .i64 0, .int .i64 0] 75 (vf 10) (pf 10) := hR 10 (by decide)
     obtain ⟨b52, vE10, pE10⟩ := e10
     have q0 : (vf 0) = .agg #[.int .i64 n.ins, n.sv, n.av, n.ov] ∧ (pf 0) = [] := hR 0 (by decide)
     have q1 : (vf 1) = .int .i64 (k3 : Int) ∧ (pf 1) = [] := hR 1 (by decide)
     have q2 : (vf 2) = v ∧ (pf 2) = [] := hR 2 (by decide)
     have q3 : (vf 3) = .int .i64 (k3 : Int) ∧ (pf 3) = [] := hR 3 (by decide)
     have q4 : (vf 4) = .int .i64 n.fst ∧ (pf 4) = [] := hR 4 (by decide)
     have q5 : (vf 5) = .int .i64 ((k3 : Int) - n.fst) ∧ (pf 5) = [] := hR 5 (by decide)
     have q6 : (vf 6) = elP v (((k3 : Int) - n.fst).toNat * 1) ∧ (pf 6) = [] := hR 6 (by decide)
     have q7 : (vf 7) = (rs.getD (((k3 : Int) - n.fst).toNat) crow0).v ∧ (pf 7) = [] := hR 7 (by decide)
     refine zcs (sk 0 rfl (sk 1 rfl (sk 2 rfl (sk 4 rfl (sk 5 rfl (sk 6 rfl (sk 7 rfl (sk 8 rfl (sk 9 rfl (sk 10 rfl (sk 14 rfl (sk 15 rfl (sk 16 rfl (sk 20 rfl (sk 21 rfl (sk 22 (congrArg some vE10) (sk 27 rfl (sk 42 rfl (sk 69 rfl (sk 114 rfl (sk 124 rfl (sk 166 rfl (sk 173 rfl (sk 185 rfl (sk 195 (congrArg some vE9) (zag _)))))))))))))))))))))))))) (by simp only [pE8, vE8, pE9, vE9, pE10, vE10, q0.2, q1.2, q2.2, q3.2, q4.2, q5.2, q6.2, q7.2, fS] <;> rfl) ?_
     simp only [List.drop_succ_cons, List.drop_zero]
     refine zcn (cs' := #[.int .i64 tq.N, .int .i64 tq.B]) (i := 0) (off := 0) (us := [.int .i64 tq.N, .int .i64 tq.B]) rfl rfl rfl (by kernel_rfl) rfl rfl rfl (zar rfl (zar rfl zby)) rfl rfl rfl ?_
     refine zac [185, 173, 166, 124, 114, 69, 42, 27, 22, 21, 20, 16, 15, 14, 10, 9, 8, 7, 6, 5, 4, 2, 1, 0] rfl (zae (zaa ?_))
     refine zdj (by kernel_rfl) 11 [0, 1, 2, 3, 4, 5, 6, 7, 8, 9, 10] (List.take 11 _) (List.drop 11 _) [[], [], [], [], [2, 3], [1, 4], [5], [0, 6], [], [8], [7, 9]] [196, 197, 198, 199, 200, 201, 202, 203, 204, 205, 206] (fun i_ vs_ v_ p_ => match i_ with | 0 => v_ = zt9.1.1 ∧ p_ = [] | 1 => v_ = v ∧ p_ = [] | 2 => v_ = .int .i64 (k3 : Int) ∧ p_ = [] | 3 => v_ = .int .i64 n.fst ∧ p_ = [] | 4 => v_ = .int .i64 ((k3 : Int) - n.fst) ∧ p_ = [] | 5 => v_ = elP v (((k3 : Int) - n.fst).toNat * 1) ∧ p_ = [] | 6 => v_ = (rs.getD (((k3 : Int) - n.fst).toNat) crow0).v ∧ p_ = [] | 7 => (fun v' post => post = [rowE 3 1 v' ((ndL to2 ((rs.getD (((k3 : Int) - n.fst).toNat) crow0).xs))).length (((ndL to2 ((rs.getD (((k3 : Int) - n.fst).toNat) crow0).xs))).map (Value.int .i64))]) v_ p_ | 8 => v_ = .pointer (some ⟨b52, 0 + 1, none⟩) ∧ p_ = [] | 9 => v_ = .int .i64 tq.B ∧ p_ = [] | 10 => v_ = .agg #[(List.getD vs_ 0 undef), .int .i64 tq.B] ∧ p_ = [] | _ => True) (List.take_append_drop 11 _).symm (by kernel_rfl) (by kernel_rfl) rfl rfl ?_ ?_
     ·
      refine ⟨?_, ?_, ?_, ?_, ?_, ?_, ?_, ?_, ?_, ?_, ?_, trivial⟩
      ·
       intro vf pf hR
       refine Or.inl ⟨rfl, ?_⟩
       refine zbh (sk 15 rfl (zag _)) ?_
       exact rq_v (zap rfl)
      ·
       intro vf pf hR
       refine Or.inl ⟨rfl, ?_⟩
       refine zbh (sk 1 rfl (zag _)) ?_
       exact rq_v (zap rfl)
      ·
       intro vf pf hR
       refine Or.inl ⟨rfl, ?_⟩
       refine zbh (sk 20 rfl (zag _)) ?_
       exact rq_v (zap rfl)
      ·
       intro vf pf hR
       refine Or.inl ⟨rfl, ?_⟩
       refine zbh (sk 7 rfl (zag _)) ?_
       exact rq_v (zap rfl)
      ·
       intro vf pf hR
       have e2 : (vf 2) = .int .i64 (k3 : Int) ∧ (pf 2) = [] := hR 2 (by decide)
       have e3 : (vf 3) = .int .i64 n.fst ∧ (pf 3) = [] := hR 3 (by decide)
       refine Or.inl ⟨rfl, ?_⟩
       refine zbh (sk 198 (congrArg some e2.1) (sk 199 (congrArg some e3.1) (zag _))) ?_
       exact rq_v (zdb rfl rfl rfl (by constructor <;> omega))
      ·
       intro vf pf hR
       have e1 : (vf 1) = v ∧ (pf 1) = [] := hR 1 (by decide)
       have e4 : (vf 4) = .int .i64 ((k3 : Int) - n.fst) ∧ (pf 4) = [] := hR 4 (by decide)
       refine Or.inl ⟨rfl, ?_⟩
       refine zau (sk 197 (congrArg some e1.1) (sk 200 (congrArg some e4.1) (zag _))) (List.sublist_append_right _ _) ?_
       exact rq_v (zal (s := 1) rfl Try.underlying41 (by kernel_rfl) rfl rfl (zak hv.row) (by omega) (by omega))
      ·
       intro vf pf hR
       have e5 : (vf 5) = elP v (((k3 : Int) - n.fst).toNat * 1) ∧ (pf 5) = [] := hR 5 (by decide)
       refine Or.inl ⟨rfl, ?_⟩
       refine zau (sk 201 (congrArg some e5.1) (zag _)) (List.sublist_append_right _ _) ?_
       exact rq_v (zam (u := (rs.getD (((k3 : Int) - n.fst).toNat) crow0).v) rfl (by kernel_rfl) rfl (zak hv.row) (zbz crowC (fun r => r.v) (fun _ => rfl) rs crow0 (show ((k3 : Int) - n.fst).toNat < _ by omega)))
      ·
       intro vf pf hR
       have e0 : (vf 0) = zt9.1.1 ∧ (pf 0) = [] := hR 0 (by decide)
       have e6 : (vf 6) = (rs.getD (((k3 : Int) - n.fst).toNat) crow0).v ∧ (pf 6) = [] := hR 6 (by decide)
       refine Or.inl ⟨rfl, ?_⟩
       refine zau (sk 196 (congrArg some e0.1) (sk 202 (congrArg some e6.1) (zag _))) (List.sublist_append_right _ _) ?_
       exact zba (by kernel_rfl) rfl (fun w hm => l20Nodes_ret to2 ((rs.getD (((k3 : Int) - n.fst).toNat) crow0).xs) _ _ w ((zas 6 rfl) w hm) ((zak (hv.at (k := (((k3 : Int) - n.fst).toNat)) (by omega))) w hm) hbl9 (by omega))
      ·
       intro vf pf hR
       refine Or.inl ⟨rfl, ?_⟩
       refine zbh (sk 22 rfl (zag _)) ?_
       exact rq_v (zat (k0 := 1) rfl (by kernel_rfl) rfl)
      ·
       intro vf pf hR
       have e8 : (vf 8) = .pointer (some ⟨b52, 0 + 1, none⟩) ∧ (pf 8) = [] := hR 8 (by decide)
       refine Or.inl ⟨rfl, ?_⟩
       refine zau (sk 204 (congrArg some e8.1) (zag _)) (List.sublist_append_right _ _) ?_
       exact rq_v (zbd rfl (by kernel_rfl) rfl (zaw 0 rfl rfl))
      intro vf pf hR
      have e7 : (fun v' post => post = [rowE 3 1 v' ((ndL to2 ((rs.getD (((k3 : Int) - n.fst).toNat) crow0).xs))).length (((ndL to2 ((rs.getD (((k3 : Int) - n.fst).toNat) crow0).xs))).map (Value.int .i64))]) (vf 7) (pf 7) := hR 7 (by decide)
      obtain ⟨v53, vE7⟩ : ∃ x, vf 7 = x := ⟨_, rfl⟩
      obtain ⟨p54, pE7⟩ : ∃ x, pf 7 = x := ⟨_, rfl⟩
      have hR55 := e7
      rw [vE7, pE7] at hR55
      subst hR55
      have e9 : (vf 9) = .int .i64 tq.B ∧ (pf 9) = [] := hR 9 (by decide)
      refine Or.inl ⟨rfl, ?_⟩
      refine zcg (sk 203 (congrArg some vE7) (sk 205 (congrArg some e9.1) (zag _))) (by simp only [pE7, vE7, e9.2, fS] <;> rfl) ?_
      exact zcw (rq_v (zfc (cs := #[v53, .int .i64 tq.B]) rfl rfl (fun w hm => built_lutT v53 tq.B ((zas 0 rfl w hm).one)))) (fun _ _ h => ⟨h.1.trans (by show _ = (.agg #[(vf 7), .int .i64 tq.B] : Value); first | (rw [vE7]; done) | (rw [vE7]; rfl)), h.2⟩)
     intro vf pf hR
     have e7 : (fun v' post => post = [rowE 3 1 v' ((ndL to2 ((rs.getD (((k3 : Int) - n.fst).toNat) crow0).xs))).length (((ndL to2 ((rs.getD (((k3 : Int) - n.fst).toNat) crow0).xs))).map (Value.int .i64))]) (vf 7) (pf 7) := hR 7 (by decide)
     obtain ⟨v53, vE7⟩ : ∃ x, vf 7 = x := ⟨_, rfl⟩
     obtain ⟨p54, pE7⟩ : ∃ x, pf 7 = x := ⟨_, rfl⟩
     have hR55 := e7
     rw [vE7, pE7] at hR55
     subst hR55
     have e10 : (vf 10) = .agg #[(vf 7), .int .i64 tq.B] ∧ (pf 10) = [] := hR 10 (by decide)
     rw [vE7] at e10
     have q0 : (vf 0) = zt9.1.1 ∧ (pf 0) = [] := hR 0 (by decide)
     have q1 : (vf 1) = v ∧ (pf 1) = [] := hR 1 (by decide)
     have q2 : (vf 2) = .int .i64 (k3 : Int) ∧ (pf 2) = [] := hR 2 (by decide)
     have q3 : (vf 3) = .int .i64 n.fst ∧ (pf 3) = [] := hR 3 (by decide)
     have q4 : (vf 4) = .int .i64 ((k3 : Int) - n.fst) ∧ (pf 4) = [] := hR 4 (by decide)
     have q5 : (vf 5) = elP v (((k3 : Int) - n.fst).toNat * 1) ∧ (pf 5) = [] := hR 5 (by decide)
     have q6 : (vf 6) = (rs.getD (((k3 : Int) - n.fst).toNat) crow0).v ∧ (pf 6) = [] := hR 6 (by decide)
     have q8 : (vf 8) = .pointer (some ⟨b52, 0 + 1, none⟩) ∧ (pf 8) = [] := hR 8 (by decide)
     have q9 : (vf 9) = .int .i64 tq.B ∧ (pf 9) = [] := hR 9 (by decide)
     have q10 : (vf 10) = .agg #[(vf 7), .int .i64 tq.B] ∧ (pf 10) = [] := hR 10 (by decide)
     refine zcs (sk 0 rfl (sk 1 rfl (sk 2 rfl (sk 4 rfl (sk 5 rfl (sk 6 rfl (sk 7 rfl (sk 8 rfl (sk 9 rfl (sk 10 rfl (sk 14 rfl (sk 15 rfl (sk 16 rfl (sk 20 rfl (sk 21 rfl (sk 22 rfl (sk 27 rfl (sk 42 rfl (sk 69 rfl (sk 114 rfl (sk 124 rfl (sk 166 rfl (sk 173 rfl (sk 185 rfl (sk 206 (congrArg some e10.1) (zag _)))))))))))))))))))))))))) (by simp only [pE7, vE7, q0.2, q1.2, q2.2, q3.2, q4.2, q5.2, q6.2, q8.2, q9.2, q10.2, fS] <;> rfl) ?_
     simp only [List.drop_succ_cons, List.drop_zero]
     refine zda (i := 0) rfl (fun ho56 => ?_)
     refine zcn (cs' := #[v53, .int .i64 tq.B]) (i := 2) (off := 0) (us := [v53, .int .i64 tq.B]) rfl rfl rfl (by kernel_rfl) rfl rfl rfl (zar ho56 (zar rfl zby)) rfl rfl rfl ?_
     refine zac [185, 173, 166, 124, 114, 69, 42, 27, 22, 21, 20, 16, 15, 14, 10, 9, 8, 7, 6, 5, 4, 2, 1, 0] rfl (zae (zaa (zab (hl_v rfl rfl rfl (zat (k0 := 2) rfl (by kernel_rfl) rfl) (hl_v rfl rfl rfl (zbd rfl (by kernel_rfl) rfl (zaw 8 rfl rfl)) ?_)))))
     refine hl_v rfl rfl rfl (zbc (cs := [v53, .int .i64 tq.B]) rfl (by kernel_rfl) (by kernel_rfl) rfl rfl (zay 2 rfl 0 rfl)) ?_
     refine zbr rfl rfl rfl (zbe (z := .agg #[.slice none 0 0, .int .i64 0]) (s := 2) (cs := [v53, .int .i64 tq.B]) rfl Try.underlying25 (by kernel_rfl) (by decide) rfl (by kernel_rfl) rfl) ?_
     intro g57
     refine zco (i := 6) (z := .agg #[.slice none 0 0, .int .i64 0]) (bytes := 32) rfl rfl rfl rfl Try.underlying25 (by kernel_rfl) (by kernel_rfl) rfl rfl rfl (zas 0 rfl) (zar ho56 (zar rfl zby)) (by first | omega | (simp only [List.length_append, List.length_cons, List.length_nil]; omega)) (zcb ls2 [(Lt.mk v53 (ndL to2 ((rs.getD (((k3 : Int) - n.fst).toNat) crow0).xs)) tq.B)]) (zdc ltC ls2 (Lt.mk v53 (ndL to2 ((rs.getD (((k3 : Int) - n.fst).toNat) crow0).xs)) tq.B) _ rfl) (fun _ => rfl) ?_
     intro v58
     refine hl_v rfl rfl rfl (zat (k0 := 2) rfl (by kernel_rfl) rfl) ?_
     refine zda (i := 6) rfl (fun ho59 => ?_)
     refine zem (i := 9) (cs' := #[.int .i64 n.ins, .slice none 0 0, v58, .slice none 0 0]) rfl rfl rfl (by kernel_rfl) rfl rfl ho59 rfl rfl rfl rfl ?_
     refine zac [185, 173, 166, 124, 114, 69, 42, 27, 22, 21, 20, 16, 15, 14, 10, 9, 8, 7, 6, 5, 4, 2, 1, 0] rfl (zae (zai (zaa (zab (zad 1 rfl ?_)))))
     refine hl_v rfl rfl rfl (zbj rfl rfl rfl (by constructor <;> omega)) (zad 1 rfl (zac [185, 173, 166, 124, 114, 69, 42, 27, 22, 21, 20, 16, 15, 14, 10, 9, 8, 7, 6, 5, 4, 2, 1, 0] rfl (zae ?_)))
     refine zbu 14 [13, 12, 11, 10, 9, 8, 7, 6, 5, 1, 4] rfl rfl (by decide) ?_
     refine zcz 2 rfl ?_
     exact zbx (k3 + 1) (nos.set k3 (n.fst + (ls2.length : Int))) (ls2 ++ [(Lt.mk v53 (ndL to2 ((rs.getD (((k3 : Int) - n.fst).toNat) crow0).xs)) tq.B)]) (v58, [bigE yt9.2, rowE 3 1 v53 ((ndL to2 ((rs.getD (((k3 : Int) - n.fst).toNat) crow0).xs)).length) ((ndL to2 ((rs.getD (((k3 : Int) - n.fst).toNat) crow0).xs)).map (Value.int .i64))]) ⟨by omega, by rw [List.length_set]; exact hnol, by rw [List.length_append, List.length_singleton]; omega, hlo2.app (lutP_mk htq (by rw [htn, ndL_len]) (by rw [ndL_len]; exact hcp.len) (below_nd hto3 hbl9 huse)), (by rw [List.length_append, List.length_singleton]; exact hto3.up (Nat.le_succ _)), (by rw [List.length_append, List.length_singleton]; exact hno.put (by omega) (Nat.le_succ _) ⟨by omega, by omega⟩), fun w hw => (hbs2 w (zbn hw List.mem_cons_self)).app (zcc (zbn hw (List.mem_cons_of_mem _ List.mem_cons_self)))⟩ (by omega) (zan [124, 114, 69, 42, 27, 20, 16, 15, 14, 10, 9, 8, 7, 6, 5, 4, 2, 1, 0] rfl) ((.cons_cons _ (.cons_cons _ (.cons_cons _ (.cons_cons _ (.cons_cons _ (.cons_cons _ (.cons_cons _ (.cons_cons _ (.cons_cons _ (.cons_cons _ .slnil)))))))))))
    refine zac [185, 173, 166, 124, 114, 69, 42, 27, 21, 20, 16, 15, 14, 10, 9, 8, 7, 6, 5, 4, 2, 1, 0] rfl (zae (zaa (zaq rfl (zaf (zab ?_)))))
    refine zad 1 rfl ?_
    refine zfg rfl rfl rfl rfl rfl rfl (fun h60 => ?_) (fun h60 => ?_)
    ·
     refine zac [208, 185, 173, 166, 124, 114, 69, 42, 27, 21, 20, 16, 15, 14, 10, 9, 8, 7, 6, 5, 4, 2, 1, 0] rfl (zae (zaa (zbb rfl (zab (zad 1 rfl ?_)))))
     refine zbr rfl rfl rfl (zbe (z := .int .i64 0) (s := 1) (cs := ([(k3 : Int)].map (Value.int .i64))) rfl Try.underlying26 (by kernel_rfl) (by decide) rfl (by kernel_rfl) rfl) ?_
     intro g61
     refine hl_v rfl rfl rfl (zat (k0 := 0) rfl (by kernel_rfl) rfl) ?_
     refine zem (i := 1) (cs' := #[.slice (some ⟨g61, 0, none⟩) 1 1, .int .i64 1]) rfl rfl rfl (by kernel_rfl) rfl rfl rfl rfl rfl rfl rfl ?_
     refine zac [208, 185, 173, 166, 124, 114, 69, 42, 27, 21, 20, 16, 15, 14, 10, 9, 8, 7, 6, 5, 4, 2, 1, 0] rfl (zae (zaa (zab (hl_v rfl rfl rfl (zat (k0 := 2) rfl (by kernel_rfl) rfl) (hl_v rfl rfl rfl (zbd rfl (by kernel_rfl) rfl (zaw 7 rfl rfl)) ?_)))))
     refine hl_v rfl rfl rfl (zbc (cs := [.slice (some ⟨g61, 0, none⟩) 1 1, .int .i64 1]) rfl (by kernel_rfl) (by kernel_rfl) rfl rfl (zay 1 rfl 0 rfl)) ?_
     refine zbr rfl rfl rfl (zbe (z := .agg #[.slice none 0 0, .int .i64 0]) (s := 2) (cs := [.slice (some ⟨g61, 0, none⟩) 1 1, .int .i64 1]) rfl Try.underlying25 (by kernel_rfl) (by decide) rfl (by kernel_rfl) rfl) ?_
     intro g62
     refine zco (i := 5) (z := .agg #[.slice none 0 0, .int .i64 0]) (bytes := 32) rfl rfl rfl rfl Try.underlying25 (by kernel_rfl) (by kernel_rfl) rfl rfl rfl (zas 0 rfl) (by simp [Value.oneCell']) (by first | omega | (simp only [List.length_append, List.length_cons, List.length_nil]; omega)) (zcb ls2 [(Lt.mk (.slice (some ⟨g61, 0, none⟩) 1 1) ([(k3 : Int)]) 1)]) (zdc ltC ls2 (Lt.mk (.slice (some ⟨g61, 0, none⟩) 1 1) ([(k3 : Int)]) 1) _ rfl) (fun _ => rfl) ?_
     intro v63
     refine hl_v rfl rfl rfl (zat (k0 := 2) rfl (by kernel_rfl) rfl) ?_
     refine zda (i := 5) rfl (fun ho64 => ?_)
     refine zem (i := 8) (cs' := #[.int .i64 n.ins, .slice none 0 0, v63, .slice none 0 0]) rfl rfl rfl (by kernel_rfl) rfl rfl ho64 rfl rfl rfl rfl ?_
     refine zac [208, 185, 173, 166, 124, 114, 69, 42, 27, 21, 20, 16, 15, 14, 10, 9, 8, 7, 6, 5, 4, 2, 1, 0] rfl (zae (zai (zaa (zab (zad 1 rfl ?_)))))
     refine hl_v rfl rfl rfl (zbj rfl rfl rfl (by constructor <;> omega)) (zad 1 rfl (zac [208, 185, 173, 166, 124, 114, 69, 42, 27, 21, 20, 16, 15, 14, 10, 9, 8, 7, 6, 5, 4, 2, 1, 0] rfl (zae ?_)))
     refine zbu 13 [12, 11, 10, 9, 8, 7, 6, 5, 4, 1, 3] rfl rfl (by decide) ?_
     refine zcz 2 rfl ?_
     exact zbx (k3 + 1) (nos.set k3 (n.fst + (ls2.length : Int))) (ls2 ++ [(Lt.mk (.slice (some ⟨g61, 0, none⟩) 1 1) ([(k3 : Int)]) 1)]) (v63, [bigE yt9.2, rowE 3 1 (.slice (some ⟨g61, 0, none⟩) 1 1) 1 ([(k3 : Int)].map (Value.int .i64))]) ⟨by omega, by rw [List.length_set]; exact hnol, by rw [List.length_append, List.length_singleton]; omega, hlo2.app (LutP.one (by omega) (by omega)), (by rw [List.length_append, List.length_singleton]; exact hto3.up (Nat.le_succ _)), (by rw [List.length_append, List.length_singleton]; exact hno.put (by omega) (Nat.le_succ _) ⟨by omega, by omega⟩), fun w hw => (hbs2 w (zbn hw List.mem_cons_self)).app (zcc (zbn hw (List.mem_cons_of_mem _ List.mem_cons_self)))⟩ (by omega) (zan [124, 114, 69, 42, 27, 20, 16, 15, 14, 10, 9, 8, 7, 6, 5, 4, 2, 1, 0] rfl) ((.cons_cons _ (.cons_cons _ (.cons_cons _ (.cons_cons _ (.cons_cons _ (.cons_cons _ (.cons_cons _ (.cons_cons _ (.cons_cons _ (.cons_cons _ .slnil)))))))))))
    refine zac [208, 185, 173, 166, 124, 114, 69, 42, 27, 21, 20, 16, 15, 14, 10, 9, 8, 7, 6, 5, 4, 2, 1, 0] rfl (zae (zaa (zaq rfl (zaz (zaa ?_)))))
    refine zab (hl_v rfl rfl rfl (zat (k0 := 2) rfl (by kernel_rfl) rfl) (hl_v rfl rfl rfl (zbd rfl (by kernel_rfl) rfl (zaw 6 rfl rfl)) (hl_v rfl rfl rfl (zbc (cs := [.slice none 0 0, .int .i64 1]) rfl (by kernel_rfl) (by kernel_rfl) rfl rfl (zay 0 rfl 0 rfl)) ?_)))
    refine zbr rfl rfl rfl (zbe (z := .agg #[.slice none 0 0, .int .i64 0]) (s := 2) (cs := [.slice none 0 0, .int .i64 1]) rfl Try.underlying25 (by kernel_rfl) (by decide) rfl (by kernel_rfl) rfl) ?_
    intro g65
    refine zco (i := 4) (z := .agg #[.slice none 0 0, .int .i64 0]) (bytes := 32) rfl rfl rfl rfl Try.underlying25 (by kernel_rfl) (by kernel_rfl) rfl rfl rfl (zas 0 rfl) (by simp [Value.oneCell']) (by first | omega | (simp only [List.length_append, List.length_cons, List.length_nil]; omega)) (zcb ls2 [(Lt.mk (.slice none 0 0) ([]) 1)]) (zdc ltC ls2 (Lt.mk (.slice none 0 0) ([]) 1) _ rfl) (fun _ => rfl) ?_
    intro v66
    refine hl_v rfl rfl rfl (zat (k0 := 2) rfl (by kernel_rfl) rfl) ?_
    refine zda (i := 4) rfl (fun ho67 => ?_)
    refine zem (i := 7) (cs' := #[.int .i64 n.ins, .slice none 0 0, v66, .slice none 0 0]) rfl rfl rfl (by kernel_rfl) rfl rfl ho67 rfl rfl rfl rfl ?_
    refine zac [208, 185, 173, 166, 124, 114, 69, 42, 27, 21, 20, 16, 15, 14, 10, 9, 8, 7, 6, 5, 4, 2, 1, 0] rfl (zae (zai (zaa (zab (zad 1 rfl ?_)))))
    refine hl_v rfl rfl rfl (zbj rfl rfl rfl (by constructor <;> omega)) (zad 1 rfl (zac [208, 185, 173, 166, 124, 114, 69, 42, 27, 21, 20, 16, 15, 14, 10, 9, 8, 7, 6, 5, 4, 2, 1, 0] rfl (zae ?_)))
    refine zbu 12 [11, 10, 9, 8, 7, 6, 5, 4, 3, 2] rfl rfl (by decide) ?_
    refine zcz 1 rfl ?_
    exact zbx (k3 + 1) (nos.set k3 (n.fst + (ls2.length : Int))) (ls2 ++ [(Lt.mk (.slice none 0 0) ([]) 1)]) (v66, [bigE yt9.2]) ⟨by omega, by rw [List.length_set]; exact hnol, by rw [List.length_append, List.length_singleton]; omega, hlo2.app (LutP.none), (by rw [List.length_append, List.length_singleton]; exact hto3.up (Nat.le_succ _)), (by rw [List.length_append, List.length_singleton]; exact hno.put (by omega) (Nat.le_succ _) ⟨by omega, by omega⟩), fun w hw => (hbs2 w (zbn hw List.mem_cons_self)).app (rd_nil (w0 := w) (l := []) w (Mem.refl w))⟩ (by omega) (zan [124, 114, 69, 42, 27, 20, 16, 15, 14, 10, 9, 8, 7, 6, 5, 4, 2, 1, 0] rfl) ((.cons_cons _ (.cons_cons _ (.cons_cons _ (.cons_cons _ (.cons_cons _ (.cons_cons _ (.cons_cons _ (.cons_cons _ (.cons_cons _ (.cons_cons _ .slnil)))))))))))
   refine zad 1 rfl (zac [173, 166, 124, 114, 69, 42, 27, 20, 16, 15, 14, 10, 9, 8, 7, 6, 5, 4, 2, 1, 0] rfl (zae (zaa (zbb rfl ?_))))
   refine zbp ?_
   refine zah ?_
   refine zav ?_
   refine zaa (zab (zad 1 rfl (hl_v rfl rfl rfl (zbj rfl rfl rfl (by constructor <;> omega)) (zad 1 rfl (zac [173, 166, 124, 114, 69, 42, 27, 20, 16, 15, 14, 10, 9, 8, 7, 6, 5, 4, 2, 1, 0] rfl ?_)))))
   refine zae ?_
   exact zbx (k3 + 1) nos ls2 (yt9.1, yt9.2) ⟨by omega, hnol, by omega, hlo2, hto3, hno.skip (by assumption), hbs2⟩ (by omega) (zan [124, 114, 69, 42, 27, 20, 16, 15, 14, 10, 9, 8, 7, 6, 5, 4, 2, 1, 0] rfl) ((.cons_cons _ (.cons_cons _ (.cons_cons _ (.cons_cons _ (.cons_cons _ (.cons_cons _ (.cons_cons _ (.cons_cons _ (.cons_cons _ (.cons_cons _ .slnil)))))))))))
  refine zac [166, 124, 114, 69, 42, 27, 20, 16, 15, 14, 10, 9, 8, 7, 6, 5, 4, 2, 1, 0] rfl (zae (zaa (zaq rfl ?_)))
  refine zbp ?_
  refine zah (zah ?_)
  refine zav ?_
  refine zaa (zaf (zaf (zab (zad 1 rfl (zac [166, 124, 114, 69, 42, 27, 23, 20, 16, 15, 14, 10, 9, 8, 7, 6, 5, 4, 2, 1, 0] rfl ?_)))))
  refine zae (zaa (zax ?_))
  refine zdl (α := Nat) (β := Value) (γ := List Sq) (δ := List HP) (fun j4 u5 ss bs3 => [bigE bs3, rowE 35 3 u5 ss.length (ss.flatMap sqC), rowE 72 2 yt9.1 ls2.length (ls2.flatMap ltC), rowE 3 1 (.slice (some ⟨g20, 0, none⟩) ((List.replicate (n.cnt).toNat (0 : Int)).length) ((List.replicate (n.cnt).toNat (0 : Int)).length)) nos.length (nos.map (Value.int .i64)), rowE 3 1 zt9.1.1 to2.length (to2.map (Value.int .i64)), boxE b18 #[.int .i64 n.ins, u5, yt9.1, .slice none 0 0] 28, rowE 4 1 (.slice (some ⟨g5, 0, none⟩) ((List.replicate (n.cnt).toNat bl0).length) ((List.replicate (n.cnt).toNat bl0).length)) ng.length (ng.flatMap blC), rowE 4 1 (.slice (some ⟨g4, 0, none⟩) ((List.replicate (n.cnt).toNat bl0).length) ((List.replicate (n.cnt).toNat bl0).length)) p2.length (p2.flatMap blC), boxE b2 #[.int .i64 0, .slice none 0 0, .slice none 0 0, .slice none 0 0] 28, boxE b1 #[.int .i64 n.ins, n.sv, n.av, n.ov] 101]) (fun j4 u5 ss bs3 => [(0, .agg #[.int .i64 n.ins, n.sv, n.av, n.ov]), (1, v), (2, .pointer (some ⟨b1, 0, none⟩)), (4, .pointer (some ⟨b2, 0, none⟩)), (5, .bool false), (6, .int .i64 n.cnt), (7, .int .i64 n.fst), (8, .slice (some ⟨g4, 0, none⟩) ((List.replicate (n.cnt).toNat bl0).length) ((List.replicate (n.cnt).toNat bl0).length)), (9, .slice (some ⟨g5, 0, none⟩) ((List.replicate (n.cnt).toNat bl0).length) ((List.replicate (n.cnt).toNat bl0).length)), (10, v6), (14, .pointer (some ⟨b18, 0, none⟩)), (15, zt9.1.1), (16, .slice (some ⟨g20, 0, none⟩) ((List.replicate (n.cnt).toNat (0 : Int)).length) ((List.replicate (n.cnt).toNat (0 : Int)).length)), (23, .int .i64 (j4 : Int)), (27, .bool false), (42, .bool false), (69, .bool false), (114, .bool false), (124, .bool false), (166, .bool false)]) (fun j4 u5 ss bs3 => j4 ≤ n.ss.length ∧ ss.length = j4 ∧ SqsN (n.fst + (ls2.length : Int)) ss ∧ ∀ w, (bigE bs3).holds w → RdsLuts w ls2 ∧ RdsSqs w ss) (fun j4 u5 ss bs3 => n.ss.length - j4) 0 _ [] _ ⟨Nat.zero_le _, rfl, SqsN.nil _, fun w hw => ⟨hbs2 w hw, RdsSqs.nil w⟩⟩ (zan [166, 124, 114, 69, 42, 27, 23, 16, 15, 14, 10, 9, 8, 7, 6, 5, 4, 2, 1, 0] rfl) ((.cons_cons _ (.cons_cons _ (.cons_cons _ (.cons_cons _ (.cons_cons _ (.cons_cons _ (.cons_cons _ (.cons_cons _ (.cons_cons _ (.cons_cons _ .slnil))))))))))) ?_
  intro j4 u5 ss bs3 hi68
  obtain ⟨hj4, hsl4, hsn, hbs3⟩ := hi68
  have hnoF : NosOk ng n.fst ls2.length nos.length nos := by rw [show nos.length = k3 by omega]; exact hno
  refine zaf (zaf (zab (zad 1 rfl (hl_v rfl rfl rfl (zat (k0 := 1) rfl (by kernel_rfl) rfl) (hl_v rfl rfl rfl (zbd rfl (by kernel_rfl) rfl (zaw 9 rfl rfl)) ?_)))))
  refine hl_v rfl rfl rfl (zbo rfl Try.underlying24 rfl (zak hr.sq)) ?_
  refine zbw rfl rfl rfl rfl rfl rfl (fun h69 => ?_) (fun h69 => ?_)
  ·
   refine zac [222, 166, 124, 114, 69, 42, 27, 23, 16, 15, 14, 10, 9, 8, 7, 6, 5, 4, 2, 1, 0] rfl (zae (zaa (zbb rfl (zaz (zaa ?_)))))
   refine zaf (zax ?_)
   refine zdj (by kernel_rfl) 25 [0, 1, 2, 3, 4, 5, 6, 7, 8, 9, 10, 11, 12, 13, 14, 15, 16, 17, 18, 19, 20, 21, 22, 23, 24] (List.take 25 _) (List.drop 25 _) [[], [0], [], [2], [], [3, 4], [5], [6], [], [8], [], [9, 10], [11], [12], [], [], [], [16], [], [17, 18], [19], [20], [14, 15, 21], [7, 13, 22], [22, 23]] [225, 226, 227, 228, 229, 230, 231, 232, 233, 234, 235, 236, 237, 238, 239, 240, 241, 242, 243, 244, 245, 246, 247, 248, 249] (fun i_ vs_ v_ p_ => match i_ with | 0 => v_ = .pointer (some ⟨b18, 0 + 1, none⟩) ∧ p_ = [] | 1 => v_ = u5 ∧ p_ = [] | 2 => v_ = .pointer (some ⟨b1, 0 + 1, none⟩) ∧ p_ = [] | 3 => v_ = n.sv ∧ p_ = [] | 4 => v_ = .int .i64 (j4 : Int) ∧ p_ = [] | 5 => v_ = elP n.sv (((j4 : Int)).toNat * 3) ∧ p_ = [] | 6 => v_ = elP n.sv (((j4 : Int)).toNat * 3 + 0) ∧ p_ = [] | 7 => v_ = .int .i64 ((n.ss.getD j4 sq0).kd) ∧ p_ = [] | 8 => v_ = .pointer (some ⟨b1, 0 + 1, none⟩) ∧ p_ = [] | 9 => v_ = n.sv ∧ p_ = [] | 10 => v_ = .int .i64 (j4 : Int) ∧ p_ = [] | 11 => v_ = elP n.sv (((j4 : Int)).toNat * 3) ∧ p_ = [] | 12 => v_ = elP n.sv (((j4 : Int)).toNat * 3 + 1) ∧ p_ = [] | 13 => v_ = .int .i64 ((n.ss.getD j4 sq0).it) ∧ p_ = [] | 14 => v_ = zt9.1.1 ∧ p_ = [] | 15 => v_ = .slice (some ⟨g20, 0, none⟩) ((List.replicate (n.cnt).toNat (0 : Int)).length) ((List.replicate (n.cnt).toNat (0 : Int)).length) ∧ p_ = [] | 16 => v_ = .pointer (some ⟨b1, 0 + 1, none⟩) ∧ p_ = [] | 17 => v_ = n.sv ∧ p_ = [] | 18 => v_ = .int .i64 (j4 : Int) ∧ p_ = [] | 19 => v_ = elP n.sv (((j4 : Int)).toNat * 3) ∧ p_ = [] | 20 => v_ = elP n.sv (((j4 : Int)).toNat * 3 + 2) ∧ p_ = [] | 21 => v_ = (n.ss.getD j4 sq0).iv ∧ p_ = [] | 22 => (fun v' post => post = [rowE 3 1 v' ((rtL to2 nos ((n.ss.getD j4 sq0).xs))).length (((rtL to2 nos ((n.ss.getD j4 sq0).xs))).map (Value.int .i64))]) v_ p_ | 23 => v_ = .agg #[.int .i64 ((n.ss.getD j4 sq0).kd), .int .i64 ((n.ss.getD j4 sq0).it), (List.getD vs_ 2 undef)] ∧ p_ = [] | 24 => IsRow_o 35 3 1 ([.int .i64 ((n.ss.getD j4 sq0).kd), .int .i64 ((n.ss.getD j4 sq0).it), (List.getD vs_ 0 undef)]) v_ p_ | _ => True) (List.take_append_drop 25 _).symm (by kernel_rfl) (by kernel_rfl) rfl rfl ?_ ?_
   ·
    refine ⟨?_, ?_, ?_, ?_, ?_, ?_, ?_, ?_, ?_, ?_, ?_, ?_, ?_, ?_, ?_, ?_, ?_, ?_, ?_, ?_, ?_, ?_, ?_, ?_, ?_, trivial⟩
    ·
     intro vf pf hR
     refine Or.inl ⟨rfl, ?_⟩
     refine zbh (sk 14 rfl (zag _)) ?_
     exact rq_v (zat (k0 := 1) rfl (by kernel_rfl) rfl)
    ·
     intro vf pf hR
     have e0 : (vf 0) = .pointer (some ⟨b18, 0 + 1, none⟩) ∧ (pf 0) = [] := hR 0 (by decide)
     refine Or.inl ⟨rfl, ?_⟩
     refine zau (sk 225 (congrArg some e0.1) (zag _)) (List.sublist_append_right _ _) ?_
     exact rq_v (zbd rfl (by kernel_rfl) rfl (zaw 5 rfl rfl))
    ·
     intro vf pf hR
     refine Or.inl ⟨rfl, ?_⟩
     refine zbh (sk 2 rfl (zag _)) ?_
     exact rq_v (zat (k0 := 1) rfl (by kernel_rfl) rfl)
    ·
     intro vf pf hR
     have e2 : (vf 2) = .pointer (some ⟨b1, 0 + 1, none⟩) ∧ (pf 2) = [] := hR 2 (by decide)
     refine Or.inl ⟨rfl, ?_⟩
     refine zau (sk 227 (congrArg some e2.1) (zag _)) (List.sublist_append_right _ _) ?_
     exact rq_v (zbd rfl (by kernel_rfl) rfl (zaw 9 rfl rfl))
    ·
     intro vf pf hR
     refine Or.inl ⟨rfl, ?_⟩
     refine zbh (sk 23 rfl (zag _)) ?_
     exact rq_v (zap rfl)
    ·
     intro vf pf hR
     have e3 : (vf 3) = n.sv ∧ (pf 3) = [] := hR 3 (by decide)
     have e4 : (vf 4) = .int .i64 (j4 : Int) ∧ (pf 4) = [] := hR 4 (by decide)
     refine Or.inl ⟨rfl, ?_⟩
     refine zau (sk 228 (congrArg some e3.1) (sk 229 (congrArg some e4.1) (zag _))) (List.sublist_append_right _ _) ?_
     exact rq_v (zal (s := 3) rfl Try.underlying24 (by kernel_rfl) rfl rfl (zak hr.sq) (by omega) (by omega))
    ·
     intro vf pf hR
     have e5 : (vf 5) = elP n.sv (((j4 : Int)).toNat * 3) ∧ (pf 5) = [] := hR 5 (by decide)
     refine Or.inl ⟨rfl, ?_⟩
     refine zau (sk 230 (congrArg some e5.1) (zag _)) (List.sublist_append_right _ _) ?_
     exact rq_v (zcm (k0 := 0) rfl (by kernel_rfl) rfl (zak hr.sq) (by omega))
    ·
     intro vf pf hR
     have e6 : (vf 6) = elP n.sv (((j4 : Int)).toNat * 3 + 0) ∧ (pf 6) = [] := hR 6 (by decide)
     refine Or.inl ⟨rfl, ?_⟩
     refine zau (sk 231 (congrArg some e6.1) (zag _)) (List.sublist_append_right _ _) ?_
     exact rq_v (zam (u := .int .i64 ((n.ss.getD j4 sq0).kd)) rfl (by kernel_rfl) rfl (zak hr.sq) ((zdf sqC 3 (fun _ => rfl) n.ss sq0 (show j4 < _ by omega) (by decide)).trans rfl))
    ·
     intro vf pf hR
     refine Or.inl ⟨rfl, ?_⟩
     refine zbh (sk 2 rfl (zag _)) ?_
     exact rq_v (zat (k0 := 1) rfl (by kernel_rfl) rfl)
    ·
     intro vf pf hR
     have e8 : (vf 8) = .pointer (some ⟨b1, 0 + 1, none⟩) ∧ (pf 8) = [] := hR 8 (by decide)
     refine Or.inl ⟨rfl, ?_⟩
     refine zau (sk 233 (congrArg some e8.1) (zag _)) (List.sublist_append_right _ _) ?_
     exact rq_v (zbd rfl (by kernel_rfl) rfl (zaw 9 rfl rfl))
    ·
     intro vf pf hR
     refine Or.inl ⟨rfl, ?_⟩
     refine zbh (sk 23 rfl (zag _)) ?_
     exact rq_v (zap rfl)
    ·
     intro vf pf hR
     have e9 : (vf 9) = n.sv ∧ (pf 9) = [] := hR 9 (by decide)
     have e10 : (vf 10) = .int .i64 (j4 : Int) ∧ (pf 10) = [] := hR 10 (by decide)
     refine Or.inl ⟨rfl, ?_⟩
     refine zau (sk 234 (congrArg some e9.1) (sk 235 (congrArg some e10.1) (zag _))) (List.sublist_append_right _ _) ?_
     exact rq_v (zal (s := 3) rfl Try.underlying24 (by kernel_rfl) rfl rfl (zak hr.sq) (by omega) (by omega))
    ·
     intro vf pf hR
     have e11 : (vf 11) = elP n.sv (((j4 : Int)).toNat * 3) ∧ (pf 11) = [] := hR 11 (by decide)
     refine Or.inl ⟨rfl, ?_⟩
     refine zau (sk 236 (congrArg some e11.1) (zag _)) (List.sublist_append_right _ _) ?_
     exact rq_v (zcm (k0 := 1) rfl (by kernel_rfl) rfl (zak hr.sq) (by omega))
    ·
     intro vf pf hR
     have e12 : (vf 12) = elP n.sv (((j4 : Int)).toNat * 3 + 1) ∧ (pf 12) = [] := hR 12 (by decide)
     refine Or.inl ⟨rfl, ?_⟩
     refine zau (sk 237 (congrArg some e12.1) (zag _)) (List.sublist_append_right _ _) ?_
     exact rq_v (zam (u := .int .i64 ((n.ss.getD j4 sq0).it)) rfl (by kernel_rfl) rfl (zak hr.sq) ((zdf sqC 3 (fun _ => rfl) n.ss sq0 (show j4 < _ by omega) (by decide)).trans rfl))
    ·
     intro vf pf hR
     refine Or.inl ⟨rfl, ?_⟩
     refine zbh (sk 15 rfl (zag _)) ?_
     exact rq_v (zap rfl)
    ·
     intro vf pf hR
     refine Or.inl ⟨rfl, ?_⟩
     refine zbh (sk 16 rfl (zag _)) ?_
     exact rq_v (zap rfl)
    ·
     intro vf pf hR
     refine Or.inl ⟨rfl, ?_⟩
     refine zbh (sk 2 rfl (zag _)) ?_
     exact rq_v (zat (k0 := 1) rfl (by kernel_rfl) rfl)
    ·
     intro vf pf hR
     have e16 : (vf 16) = .pointer (some ⟨b1, 0 + 1, none⟩) ∧ (pf 16) = [] := hR 16 (by decide)
     refine Or.inl ⟨rfl, ?_⟩
     refine zau (sk 241 (congrArg some e16.1) (zag _)) (List.sublist_append_right _ _) ?_
     exact rq_v (zbd rfl (by kernel_rfl) rfl (zaw 9 rfl rfl))
    ·
     intro vf pf hR
     refine Or.inl ⟨rfl, ?_⟩
     refine zbh (sk 23 rfl (zag _)) ?_
     exact rq_v (zap rfl)
    ·
     intro vf pf hR
     have e17 : (vf 17) = n.sv ∧ (pf 17) = [] := hR 17 (by decide)
     have e18 : (vf 18) = .int .i64 (j4 : Int) ∧ (pf 18) = [] := hR 18 (by decide)
     refine Or.inl ⟨rfl, ?_⟩
     refine zau (sk 242 (congrArg some e17.1) (sk 243 (congrArg some e18.1) (zag _))) (List.sublist_append_right _ _) ?_
     exact rq_v (zal (s := 3) rfl Try.underlying24 (by kernel_rfl) rfl rfl (zak hr.sq) (by omega) (by omega))
    ·
     intro vf pf hR
     have e19 : (vf 19) = elP n.sv (((j4 : Int)).toNat * 3) ∧ (pf 19) = [] := hR 19 (by decide)
     refine Or.inl ⟨rfl, ?_⟩
     refine zau (sk 244 (congrArg some e19.1) (zag _)) (List.sublist_append_right _ _) ?_
     exact rq_v (zcm (k0 := 2) rfl (by kernel_rfl) rfl (zak hr.sq) (by omega))
    ·
     intro vf pf hR
     have e20 : (vf 20) = elP n.sv (((j4 : Int)).toNat * 3 + 2) ∧ (pf 20) = [] := hR 20 (by decide)
     refine Or.inl ⟨rfl, ?_⟩
     refine zau (sk 245 (congrArg some e20.1) (zag _)) (List.sublist_append_right _ _) ?_
     exact rq_v (zam (u := (n.ss.getD j4 sq0).iv) rfl (by kernel_rfl) rfl (zak hr.sq) ((zdf sqC 3 (fun _ => rfl) n.ss sq0 (show j4 < _ by omega) (by decide)).trans rfl))
    ·
     intro vf pf hR
     have e14 : (vf 14) = zt9.1.1 ∧ (pf 14) = [] := hR 14 (by decide)
     have e15 : (vf 15) = .slice (some ⟨g20, 0, none⟩) ((List.replicate (n.cnt).toNat (0 : Int)).length) ((List.replicate (n.cnt).toNat (0 : Int)).length) ∧ (pf 15) = [] := hR 15 (by decide)
     have e21 : (vf 21) = (n.ss.getD j4 sq0).iv ∧ (pf 21) = [] := hR 21 (by decide)
     refine Or.inl ⟨rfl, ?_⟩
     refine zau (sk 239 (congrArg some e14.1) (sk 240 (congrArg some e15.1) (sk 246 (congrArg some e21.1) (zag _)))) (List.sublist_append_right _ _) ?_
     exact zba (by kernel_rfl) rfl (fun w hm => l20Roots_ret to2 nos ((n.ss.getD j4 sq0).xs) _ _ _ w ((zas 4 rfl) w hm) ((zas 3 rfl) w hm) ((zak (hr.at (k := j4) (by omega))) w hm) (fun k hk => by have h9 := hn.xs _ (zcf (d := sq0) (show j4 < n.ss.length by omega)) _ (zcf (d := (0 : Int)) hk); unfold LtOk at h9; omega) (by have h8 := (hn.sq _ (zcf (d := sq0) (show j4 < n.ss.length by omega))).len; omega) (by omega))
    ·
     intro vf pf hR
     have e7 : (vf 7) = .int .i64 ((n.ss.getD j4 sq0).kd) ∧ (pf 7) = [] := hR 7 (by decide)
     have e13 : (vf 13) = .int .i64 ((n.ss.getD j4 sq0).it) ∧ (pf 13) = [] := hR 13 (by decide)
     have e22 : (fun v' post => post = [rowE 3 1 v' ((rtL to2 nos ((n.ss.getD j4 sq0).xs))).length (((rtL to2 nos ((n.ss.getD j4 sq0).xs))).map (Value.int .i64))]) (vf 22) (pf 22) := hR 22 (by decide)
     obtain ⟨v70, vE22⟩ : ∃ x, vf 22 = x := ⟨_, rfl⟩
     obtain ⟨p71, pE22⟩ : ∃ x, pf 22 = x := ⟨_, rfl⟩
     have hR72 := e22
     rw [vE22, pE22] at hR72
     subst hR72
     refine Or.inl ⟨rfl, ?_⟩
     refine zcg (sk 232 (congrArg some e7.1) (sk 238 (congrArg some e13.1) (sk 247 (congrArg some vE22) (zag _)))) (by simp only [pE22, vE22, e7.2, e13.2, fS] <;> rfl) ?_
     exact zcw (rq_v (zfc (cs := #[.int .i64 ((n.ss.getD j4 sq0).kd), .int .i64 ((n.ss.getD j4 sq0).it), v70]) rfl rfl (fun w hm => built_seqH ((n.ss.getD j4 sq0).kd) ((n.ss.getD j4 sq0).it) v70 ((zas 0 rfl w hm).one)))) (fun _ _ h => ⟨h.1.trans (by show _ = (.agg #[.int .i64 ((n.ss.getD j4 sq0).kd), .int .i64 ((n.ss.getD j4 sq0).it), (vf 22)] : Value); first | (rw [vE22]; done) | (rw [vE22]; rfl)), h.2⟩)
    intro vf pf hR
    have e22 : (fun v' post => post = [rowE 3 1 v' ((rtL to2 nos ((n.ss.getD j4 sq0).xs))).length (((rtL to2 nos ((n.ss.getD j4 sq0).xs))).map (Value.int .i64))]) (vf 22) (pf 22) := hR 22 (by decide)
    obtain ⟨v70, vE22⟩ : ∃ x, vf 22 = x := ⟨_, rfl⟩
    obtain ⟨p71, pE22⟩ : ∃ x, pf 22 = x := ⟨_, rfl⟩
    have hR72 := e22
    rw [vE22, pE22] at hR72
    subst hR72
    have e23 : (vf 23) = .agg #[.int .i64 ((n.ss.getD j4 sq0).kd), .int .i64 ((n.ss.getD j4 sq0).it), (vf 22)] ∧ (pf 23) = [] := hR 23 (by decide)
    rw [vE22] at e23
    refine Or.inl ⟨rfl, ?_⟩
    refine zcg (sk 248 (congrArg some e23.1) (zag _)) (by simp only [pE22, vE22, e23.2, fS] <;> rfl) ?_
    exact zcw (zbe (z := .agg #[.int .i64 0, .int .i64 0, .slice none 0 0]) (s := 3) (cs := [.int .i64 ((n.ss.getD j4 sq0).kd), .int .i64 ((n.ss.getD j4 sq0).it), v70]) rfl Try.underlying24 (by kernel_rfl) (by decide) rfl (by kernel_rfl) rfl) (fun v_ p_ h => by show IsRow_o 35 3 1 ([.int .i64 ((n.ss.getD j4 sq0).kd), .int .i64 ((n.ss.getD j4 sq0).it), (vf 22)]) v_ p_; rw [vE22]; exact h)
   intro vf pf hR
   have e1 : (vf 1) = u5 ∧ (pf 1) = [] := hR 1 (by decide)
   have e22 : (fun v' post => post = [rowE 3 1 v' ((rtL to2 nos ((n.ss.getD j4 sq0).xs))).length (((rtL to2 nos ((n.ss.getD j4 sq0).xs))).map (Value.int .i64))]) (vf 22) (pf 22) := hR 22 (by decide)
   obtain ⟨v70, vE22⟩ : ∃ x, vf 22 = x := ⟨_, rfl⟩
   obtain ⟨p71, pE22⟩ : ∃ x, pf 22 = x := ⟨_, rfl⟩
   have hR72 := e22
   rw [vE22, pE22] at hR72
   subst hR72
   have e24 : IsRow_o 35 3 1 ([.int .i64 ((n.ss.getD j4 sq0).kd), .int .i64 ((n.ss.getD j4 sq0).it), (vf 22)]) (vf 24) (pf 24) := hR 24 (by decide)
   rw [vE22] at e24
   obtain ⟨g73, vE24, pE24⟩ := e24
   have q0 : (vf 0) = .pointer (some ⟨b18, 0 + 1, none⟩) ∧ (pf 0) = [] := hR 0 (by decide)
   have q1 : (vf 1) = u5 ∧ (pf 1) = [] := hR 1 (by decide)
   have q2 : (vf 2) = .pointer (some ⟨b1, 0 + 1, none⟩) ∧ (pf 2) = [] := hR 2 (by decide)
   have q3 : (vf 3) = n.sv ∧ (pf 3) = [] := hR 3 (by decide)
   have q4 : (vf 4) = .int .i64 (j4 : Int) ∧ (pf 4) = [] := hR 4 (by decide)
   have q5 : (vf 5) = elP n.sv (((j4 : Int)).toNat * 3) ∧ (pf 5) = [] := hR 5 (by decide)
   have q6 : (vf 6) = elP n.sv (((j4 : Int)).toNat * 3 + 0) ∧ (pf 6) = [] := hR 6 (by decide)
   have q7 : (vf 7) = .int .i64 ((n.ss.getD j4 sq0).kd) ∧ (pf 7) = [] := hR 7 (by decide)
   have q8 : (vf 8) = .pointer (some ⟨b1, 0 + 1, none⟩) ∧ (pf 8) = [] := hR 8 (by decide)
   have q9 : (vf 9) = n.sv ∧ (pf 9) = [] := hR 9 (by decide)
   have q10 : (vf 10) = .int .i64 (j4 : Int) ∧ (pf 10) = [] := hR 10 (by decide)
   have q11 : (vf 11) = elP n.sv (((j4 : Int)).toNat * 3) ∧ (pf 11) = [] := hR 11 (by decide)
   have q12 : (vf 12) = elP n.sv (((j4 : Int)).toNat * 3 + 1) ∧ (pf 12) = [] := hR 12 (by decide)
   have q13 : (vf 13) = .int .i64 ((n.ss.getD j4 sq0).it) ∧ (pf 13) = [] := hR 13 (by decide)
   have q14 : (vf 14) = zt9.1.1 ∧ (pf 14) = [] := hR 14 (by decide)
   have q15 : (vf 15) = .slice (some ⟨g20, 0, none⟩) ((List.replicate (n.cnt).toNat (0 : Int)).length) ((List.replicate (n.cnt).toNat (0 : Int)).length) ∧ (pf 15) = [] := hR 15 (by decide)
   have q16 : (vf 16) = .pointer (some ⟨b1, 0 + 1, none⟩) ∧ (pf 16) = [] := hR 16 (by decide)
   have q17 : (vf 17) = n.sv ∧ (pf 17) = [] := hR 17 (by decide)
   have q18 : (vf 18) = .int .i64 (j4 : Int) ∧ (pf 18) = [] := hR 18 (by decide)
   have q19 : (vf 19) = elP n.sv (((j4 : Int)).toNat * 3) ∧ (pf 19) = [] := hR 19 (by decide)
   have q20 : (vf 20) = elP n.sv (((j4 : Int)).toNat * 3 + 2) ∧ (pf 20) = [] := hR 20 (by decide)
   have q21 : (vf 21) = (n.ss.getD j4 sq0).iv ∧ (pf 21) = [] := hR 21 (by decide)
   have q23 : (vf 23) = .agg #[.int .i64 ((n.ss.getD j4 sq0).kd), .int .i64 ((n.ss.getD j4 sq0).it), (vf 22)] ∧ (pf 23) = [] := hR 23 (by decide)
   refine zcs (sk 0 rfl (sk 1 rfl (sk 2 rfl (sk 4 rfl (sk 5 rfl (sk 6 rfl (sk 7 rfl (sk 8 rfl (sk 9 rfl (sk 10 rfl (sk 14 rfl (sk 15 rfl (sk 16 rfl (sk 23 rfl (sk 27 rfl (sk 42 rfl (sk 69 rfl (sk 114 rfl (sk 124 rfl (sk 166 rfl (sk 222 rfl (sk 226 (congrArg some e1.1) (sk 249 (congrArg some vE24) (zag _)))))))))))))))))))))))) (by simp only [pE22, vE22, pE24, vE24, q0.2, q1.2, q2.2, q3.2, q4.2, q5.2, q6.2, q7.2, q8.2, q9.2, q10.2, q11.2, q12.2, q13.2, q14.2, q15.2, q16.2, q17.2, q18.2, q19.2, q20.2, q21.2, q23.2, fS] <;> rfl) ?_
   simp only [List.drop_succ_cons, List.drop_zero]
   refine zda (i := 0) rfl (fun ho74 => ?_)
   refine zco (i := 3) (z := .agg #[.int .i64 0, .int .i64 0, .slice none 0 0]) (bytes := 40) rfl rfl rfl rfl Try.underlying24 (by kernel_rfl) (by kernel_rfl) rfl rfl rfl (zas 1 rfl) (zar rfl (zar rfl (zar ho74 zby))) (by first | omega | (simp only [List.length_append, List.length_cons, List.length_nil]; omega)) (zcb ss [(Sq.mk ((n.ss.getD j4 sq0).kd) ((n.ss.getD j4 sq0).it) v70 (rtL to2 nos ((n.ss.getD j4 sq0).xs)))]) (zdc sqC ss (Sq.mk ((n.ss.getD j4 sq0).kd) ((n.ss.getD j4 sq0).it) v70 (rtL to2 nos ((n.ss.getD j4 sq0).xs))) _ rfl) (fun _ => rfl) ?_
   intro v75
   refine hl_v rfl rfl rfl (zat (k0 := 1) rfl (by kernel_rfl) rfl) ?_
   refine zda (i := 3) rfl (fun ho76 => ?_)
   refine zem (i := 7) (cs' := #[.int .i64 n.ins, v75, yt9.1, .slice none 0 0]) rfl rfl rfl (by kernel_rfl) rfl rfl ho76 rfl rfl rfl rfl ?_
   refine zac [222, 166, 124, 114, 69, 42, 27, 23, 16, 15, 14, 10, 9, 8, 7, 6, 5, 4, 2, 1, 0] rfl (zae (zai (zaa (zab (zad 1 rfl ?_)))))
   refine hl_v rfl rfl rfl (zbj rfl rfl rfl (by constructor <;> omega)) (zad 1 rfl (zac [222, 166, 124, 114, 69, 42, 27, 23, 16, 15, 14, 10, 9, 8, 7, 6, 5, 4, 2, 1, 0] rfl (zae ?_)))
   refine zbu 12 [11, 10, 9, 8, 7, 6, 5, 4, 3, 0, 2] rfl rfl (by decide) ?_
   refine zcz 2 rfl ?_
   exact zbx (j4 + 1) v75 (ss ++ [(Sq.mk ((n.ss.getD j4 sq0).kd) ((n.ss.getD j4 sq0).it) v70 (rtL to2 nos ((n.ss.getD j4 sq0).xs)))]) [bigE bs3, rowE 3 1 v70 ((rtL to2 nos ((n.ss.getD j4 sq0).xs)).length) ((rtL to2 nos ((n.ss.getD j4 sq0).xs)).map (Value.int .i64))] ⟨by omega, by rw [List.length_append, List.length_singleton]; omega, hsn.app (sqOk_len (hn.sq _ (zcf (d := sq0) (by omega))) (rtL_len _ _ _) _) (below_rt hto3 hnoF (c := n.cnt) (by omega) (by omega) (fun l hl => ⟨hn.xs _ (zcf (d := sq0) (by omega)) l hl, hru2.all l (rts_sq (zcf (d := sq0) (by omega)) hl)⟩)), fun w hw => ⟨(hbs3 w (zbn hw List.mem_cons_self)).1, (hbs3 w (zbn hw List.mem_cons_self)).2.app (zcc (zbn hw (List.mem_cons_of_mem _ List.mem_cons_self)))⟩⟩ (by omega) (zan [166, 124, 114, 69, 42, 27, 23, 16, 15, 14, 10, 9, 8, 7, 6, 5, 4, 2, 1, 0] rfl) ((.cons_cons _ (.cons_cons _ (.cons_cons _ (.cons_cons _ (.cons_cons _ (.cons_cons _ (.cons_cons _ (.cons_cons _ (.cons_cons _ (.cons_cons _ .slnil)))))))))))
  refine zac [222, 166, 124, 114, 69, 42, 27, 23, 16, 15, 14, 10, 9, 8, 7, 6, 5, 4, 2, 1, 0] rfl (zae (zaa (zaq rfl ?_)))
  refine zbp ?_
  refine zah (zah ?_)
  refine zav ?_
  refine zaa (zaf (zab (zad 2 rfl (hl_v rfl rfl rfl (zat (k0 := 3) rfl (by kernel_rfl) rfl) (hl_v rfl rfl rfl (zbd rfl (by kernel_rfl) rfl (zaw 9 rfl rfl)) ?_)))))
  refine hl_q rfl rfl rfl (zba (by kernel_rfl) rfl (fun w hm => l20Roots_ret to2 nos n.os _ _ _ w ((zas 4 rfl) w hm) ((zas 3 rfl) w hm) ((zak hr.ou) w hm) (fun k hk => by have h9 := hn.ou _ (zcf (d := (0 : Int)) hk); unfold LtOk at h9; omega) (by omega) (by omega))) ?_
  intro v77 p78 hR79
  subst hR79
  refine hl_v rfl rfl rfl (zat (k0 := 3) rfl (by kernel_rfl) rfl) ?_
  refine zda (i := 0) rfl (fun ho80 => ?_)
  refine zem (i := 6) (cs' := #[.int .i64 n.ins, u5, yt9.1, v77]) rfl rfl rfl (by kernel_rfl) rfl rfl ho80 rfl rfl rfl rfl ?_
  refine zac [222, 166, 124, 114, 69, 42, 27, 23, 16, 15, 14, 10, 9, 8, 7, 6, 5, 4, 2, 1, 0] rfl (zae (zaa (zaf (zab (hl_v rfl rfl rfl (zbc (cs := [.int .i64 n.ins, u5, yt9.1, v77]) rfl (by kernel_rfl) (by kernel_rfl) rfl rfl (zay 6 rfl 0 rfl)) ?_)))))
  refine zda (i := 3) rfl (fun ho81 => ?_)
  refine zda (i := 2) rfl (fun ho82 => ?_)
  refine zcn (cs' := #[.int .i64 n.ins, u5, yt9.1, v77]) (i := 9) (off := 0) (us := [.int .i64 n.ins, u5, yt9.1, v77]) rfl rfl rfl (by kernel_rfl) rfl rfl rfl (zar rfl (zar ho82 (zar ho81 (zar ho80 zby)))) rfl rfl rfl ?_
  refine zad 1 rfl (zac [222, 166, 124, 114, 69, 42, 27, 23, 16, 15, 14, 10, 9, 8, 7, 6, 5, 4, 2, 1, 0] rfl (zae (zaa ?_)))
  refine zbl ?_
  refine zdz (fun w hm => (zas 2 rfl w hm).one) (fun ho1 => ?_)
  refine zdz (fun w hm => (zas 3 rfl w hm).one) (fun ho2 => ?_)
  refine zdz (fun w hm => (zas 0 rfl w hm).one) (fun ho3 => ?_)
  refine zbu 11 [9, 1, 0, 3, 2] rfl rfl (by decide) ?_
  refine zcz 4 rfl ?_
  exact zde (rs := [.cell 4 28, .tmp 5]) (vs := [.agg #[.int .i64 n.ins, u5, yt9.1, v77], .bool true]) (post := [bigE [rowE 35 3 u5 ss.length (ss.flatMap sqC), rowE 72 2 yt9.1 ls2.length (ls2.flatMap ltC), rowE 3 1 v77 ((rtL to2 nos n.os).length) ((rtL to2 nos n.os).map (Value.int .i64)), bigE bs3]]) rfl ⟨⟨b2, 0, [.int .i64 n.ins, u5, yt9.1, v77], rfl, rfl, by kernel_rfl, by kernel_rfl, zay 1 rfl 0 rfl⟩, rfl, trivial⟩ rfl ((.cons_cons _ (.cons _ .slnil))) ⟨_, (Ln.mk n.ins u5 yt9.1 v77 ss ls2 (rtL to2 nos n.os)), true, rfl, rfl, fun w hw => ⟨⟨zcc (zbn hw List.mem_cons_self), (hbs3 w (zbn hw (List.mem_cons_of_mem _ (List.mem_cons_of_mem _ (List.mem_cons_of_mem _ List.mem_cons_self))))).2⟩, ⟨zcc (zbn hw (List.mem_cons_of_mem _ List.mem_cons_self)), (hbs3 w (zbn hw (List.mem_cons_of_mem _ (List.mem_cons_of_mem _ (List.mem_cons_of_mem _ List.mem_cons_self))))).1⟩, zcc (zbn hw (List.mem_cons_of_mem _ (List.mem_cons_of_mem _ List.mem_cons_self)))⟩, ⟨ho1, ho2, ho3⟩, ln_mk hn (by omega) (by omega) (by rw [rtL_len]; exact hn.o1) (below_rt hto3 hnoF (c := n.cnt) (by omega) (by omega) (fun l hl => ⟨hn.ou l hl, hru2.all l (rts_os hl)⟩)) hsn hlo2⟩
 refine zad 1 rfl (zac [27, 5, 4, 2, 1, 0] rfl (zae (zaa (zbb rfl (zaf ?_)))))
 refine zab (hl_v rfl rfl rfl (zdu (cs := #[.int .i64 0, .slice none 0 0, .slice none 0 0, .slice none 0 0]) rfl rfl (by kernel_rfl)) ?_)
 refine zcn (cs' := #[.int .i64 0, .slice none 0 0, .slice none 0 0, .slice none 0 0]) (i := 0) (off := 0) (us := [.int .i64 0, .slice none 0 0, .slice none 0 0, .slice none 0 0]) rfl rfl rfl (by kernel_rfl) rfl rfl rfl (zar rfl (zar rfl (zar rfl (zar rfl zby)))) rfl rfl rfl ?_
 refine zad 1 rfl (zac [27, 5, 4, 2, 1, 0] rfl (zae (zaa ?_)))
 refine zbl ?_
 refine zao ?_
 refine zbu 2 [1, 0] rfl rfl (by decide) ?_
 refine hq_conv _ zfk ?_
 exact zde (rs := [.cell 4 28, .tmp 5]) (vs := [.agg #[.int .i64 0, .slice none 0 0, .slice none 0 0, .slice none 0 0], .bool false]) (post := [bigE ([] : List HP)]) rfl ⟨⟨b2, 0, [.int .i64 0, .slice none 0 0, .slice none 0 0, .slice none 0 0], rfl, rfl, by kernel_rfl, by kernel_rfl, zay 1 rfl 0 rfl⟩, rfl, trivial⟩ rfl ((.cons_cons _ (.cons _ (.cons _ .slnil)))) ⟨_, ln00, false, rfl, rfl, fun w hw => ⟨⟨rd_nil (w0 := w) (l := []) w (Mem.refl w), fun r hr => by cases hr⟩, ⟨rd_nil (w0 := w) (l := []) w (Mem.refl w), fun r hr => by cases hr⟩, rd_nil (w0 := w) (l := []) w (Mem.refl w)⟩, ⟨rfl, rfl, rfl⟩, ln00_ok⟩
set_option maxHeartbeats 4000000 in
set_option maxRecDepth 100000 in
theorem l18Cuts_mut (g : Nat) (a : Option Addr) (len cap : Nat) (z : List Int) (n : Nt) (w0 : World) (l : List HP) (w : World) (hm0 : Mem w0 (curE g a len cap :: l) w) (hb : BRow .u8 w0 a len cap z) (hrn : ∀ w, Mem w0 l w → RdsNt w n) (hn : NtOk n) :
   Calls Try.prog 60 #[.pointer (some ⟨g, 0, none⟩), .agg #[.int .i64 n.ins, n.sv, n.av, n.ov]] w (fun e_ w_ => ∃ v_ p_, e_ = .returned v_ ∧ (fun u_ p_ => ∃ (ps : List HP) (rs : List CRow), p_ = bigE [curE g a len cap, rowE 26 1 u_ rs.length (rs.flatMap crowC), bigE ps] ∧ (∀ w, (bigE ps).holds w → RdsAll w rs) ∧ rs.length = n.gs.length ∧ ∀ r ∈ rs, r.xs.length ≤ 400) v_ p_ ∧ Mem w0 (p_ :: l) w_) := by
 have hr := hrn w (hm0.sub (.cons _ (.refl _)))
 have hi0 := hn.i0
 have hi1 := hn.i1
 have hs1 := hn.s1
 have ha1 := hn.a1
 have ho1 := hn.o1
 have hcnt : n.cnt = 1 + n.ins + n.ss.length + n.gs.length := rfl
 have hfst : n.fst = 1 + n.ins + n.ss.length := rfl
 refine zfi (N := 37) (args := [.pointer (some ⟨g, 0, none⟩), .agg #[.int .i64 n.ins, n.sv, n.av, n.ov]]) Try.func60 rfl rfl hm0 ?_
 refine zbt _ [1, 0] rfl (zaf (zab ?_))
 refine zci rfl rfl rfl (zdd rfl rfl) ?_
 intro b1
 refine zad 1 rfl (zac [4, 3, 1, 0] rfl (zae (zaa (zaf (zab ?_)))))
 refine hl_v rfl rfl rfl (zbc (cs := [.int .i64 n.ins, n.sv, n.av, n.ov]) rfl (by kernel_rfl) (by kernel_rfl) rfl rfl (zay 0 rfl 0 rfl)) ?_
 refine hl_q rfl rfl rfl (zba (by kernel_rfl) rfl (fun w hm => DepthMapping_ret n w (hrn w (hm.sub ((.cons _ (.cons _ (.refl _)))))) hn)) ?_
 intro v2 p3 hR4
 obtain ⟨ps0, rs0, rfl, hps0, hrl0, h400⟩ := hR4
 refine zad 1 rfl (zac [5, 4, 3, 1, 0] rfl (zae (zaa (zaf (zaf ?_)))))
 refine zab (zad 1 rfl (zac [6, 5, 4, 3, 1, 0] rfl (zae (zaa (zax ?_)))))
 refine zdl (α := Nat) (β := List CRow) (γ := Value) (δ := List HP) (fun i rs ov ps => (rowE 26 1 ov rs.length (rs.flatMap crowC) :: bigE ps :: boxE b1 #[.int .i64 n.ins, n.sv, n.av, n.ov] 101 :: curE g a len cap :: l)) (fun i rs ov ps => [(0, .pointer (some ⟨g, 0, none⟩)), (1, .agg #[.int .i64 n.ins, n.sv, n.av, n.ov]), (3, .pointer (some ⟨b1, 0, none⟩)), (4, .slice none 0 0), (5, ov), (6, .int .i64 (i : Int))]) (fun i rs ov ps => i ≤ n.gs.length ∧ rs.length = n.gs.length ∧ (∀ r ∈ rs, r.xs.length ≤ 400) ∧ ∀ w, (bigE ps).holds w → RdsAll w rs) (fun i rs ov ps => n.gs.length - i) 0 _ _ _ ⟨Nat.zero_le _, hrl0, h400, hps0⟩ (zan [6, 5, 4, 3, 1, 0] rfl) ((.cons_cons _ (.cons_cons _ (.cons_cons _ (.cons_cons _ (.refl _)))))) ?_
 intro i rs ov ps hi5
 obtain ⟨hi, hrl, hr4, hps⟩ := hi5
 refine zaf (zaf (zab (zad 2 rfl (hl_v rfl rfl rfl (zbo rfl Try.underlying41 rfl (zas 0 rfl)) ?_))))
 refine zbw rfl rfl rfl rfl rfl rfl (fun h6 => ?_) (fun h6 => ?_)
 ·
  refine zac [13, 6, 5, 4, 3, 1, 0] rfl (zae (zaa (zbb rfl (zaz (zaa ?_)))))
  refine zaf (zax (zaf (zab (zad 1 rfl ?_))))
  refine zcx (R := (fun u_ p_ => (∃ b : Bool, u_ = .bool b) ∧ p_ = curE g a len cap)) 3 rfl rfl (by kernel_rfl) rfl rfl (fun l' w hm => once_mut hm hb (2) (by omega) (by omega)) ?_
  intro v7 p8 hR9
  obtain ⟨⟨xhR9, rfl⟩, rfl⟩ := hR9
  refine zdw (l' := (rowE 26 1 ov rs.length (rs.flatMap crowC) :: bigE ps :: boxE b1 #[.int .i64 n.ins, n.sv, n.av, n.ov] 101 :: curE g a len cap :: l)) rfl ?_
  refine zck (fun h10 => ?_) (fun h10 => ?_)
  ·
   refine zac [17, 13, 6, 5, 4, 3, 1, 0] rfl (zae (zaa (zbb rfl (zaf ?_))))
   refine zdj (by kernel_rfl) 6 [0, 1, 2, 3, 4, 5] (List.take 6 _) (List.drop 6 _) [[], [], [1], [], [2, 3], [0, 4]] [18, 19, 20, 21, 22, 23] (fun i_ vs_ v_ p_ => match i_ with | 0 => v_ = .agg #[.int .i64 n.ins, n.sv, n.av, n.ov] ∧ p_ = [] | 1 => v_ = .agg #[.int .i64 n.ins, n.sv, n.av, n.ov] ∧ p_ = [] | 2 => v_ = .int .i64 n.fst ∧ p_ = [] | 3 => v_ = .int .i64 (i : Int) ∧ p_ = [] | 4 => v_ = .int .i64 (n.fst + (i : Int)) ∧ p_ = [] | 5 => (fun u_ p_ => ∃ (ps : List HP) (us : List CRow), p_ = [bigE ps] ∧ (∀ w, (bigE ps).holds w → RdsCl w u_ us) ∧ GrpOk us) v_ p_ | _ => True) (List.take_append_drop 6 _).symm (by kernel_rfl) (by kernel_rfl) rfl rfl ?_ ?_
   ·
    refine ⟨?_, ?_, ?_, ?_, ?_, ?_, trivial⟩
    ·
     intro vf pf hR
     refine Or.inl ⟨rfl, ?_⟩
     refine zau (sk 3 rfl (zag _)) (List.sublist_append_right _ _) ?_
     exact rq_v (zbc (cs := [.int .i64 n.ins, n.sv, n.av, n.ov]) rfl (by kernel_rfl) (by kernel_rfl) rfl rfl (zay 2 rfl 0 rfl))
    ·
     intro vf pf hR
     refine Or.inl ⟨rfl, ?_⟩
     refine zau (sk 3 rfl (zag _)) (List.sublist_append_right _ _) ?_
     exact rq_v (zbc (cs := [.int .i64 n.ins, n.sv, n.av, n.ov]) rfl (by kernel_rfl) (by kernel_rfl) rfl rfl (zay 2 rfl 0 rfl))
    ·
     intro vf pf hR
     have e1 : (vf 1) = .agg #[.int .i64 n.ins, n.sv, n.av, n.ov] ∧ (pf 1) = [] := hR 1 (by decide)
     refine Or.inl ⟨rfl, ?_⟩
     refine zau (sk 19 (congrArg some e1.1) (zag _)) (List.sublist_append_right _ _) ?_
     exact (zba (by kernel_rfl) rfl (fun w hm => zbk (zbv n w (hrn w (hm.sub ((.cons _ (.cons _ (.cons _ (.cons _ (.refl _)))))))) hn)))
    ·
     intro vf pf hR
     refine Or.inl ⟨rfl, ?_⟩
     refine zbh (sk 6 rfl (zag _)) ?_
     exact rq_v (zap rfl)
    ·
     intro vf pf hR
     have e2 : (vf 2) = .int .i64 n.fst ∧ (pf 2) = [] := hR 2 (by decide)
     have e3 : (vf 3) = .int .i64 (i : Int) ∧ (pf 3) = [] := hR 3 (by decide)
     refine Or.inl ⟨rfl, ?_⟩
     refine zbh (sk 20 (congrArg some e2.1) (sk 21 (congrArg some e3.1) (zag _))) ?_
     exact rq_v (zbj rfl rfl rfl (by constructor <;> omega))
    intro vf pf hR
    have e0 : (vf 0) = .agg #[.int .i64 n.ins, n.sv, n.av, n.ov] ∧ (pf 0) = [] := hR 0 (by decide)
    have e4 : (vf 4) = .int .i64 (n.fst + (i : Int)) ∧ (pf 4) = [] := hR 4 (by decide)
    refine Or.inl ⟨rfl, ?_⟩
    refine zau (sk 18 (congrArg some e0.1) (sk 22 (congrArg some e4.1) (zag _))) (List.sublist_append_right _ _) ?_
    exact zba (by kernel_rfl) rfl (fun w hm => EnumE_ret n (n.fst + (i : Int)) w (hrn w (hm.sub ((.cons _ (.cons _ (.cons _ (.cons _ (.refl _)))))))) hn (by omega))
   intro vf pf hR
   have e5 : (fun u_ p_ => ∃ (ps : List HP) (us : List CRow), p_ = [bigE ps] ∧ (∀ w, (bigE ps).holds w → RdsCl w u_ us) ∧ GrpOk us) (vf 5) (pf 5) := hR 5 (by decide)
   obtain ⟨v11, vE5⟩ : ∃ x, vf 5 = x := ⟨_, rfl⟩
   obtain ⟨p12, pE5⟩ : ∃ x, pf 5 = x := ⟨_, rfl⟩
   have hR13 := e5
   rw [vE5, pE5] at hR13
   obtain ⟨es, us, rfl, hes, hgu⟩ := hR13
   have hgu1 := hgu.pos
   have hgu8 := hgu.len
   have q0 : (vf 0) = .agg #[.int .i64 n.ins, n.sv, n.av, n.ov] ∧ (pf 0) = [] := hR 0 (by decide)
   have q1 : (vf 1) = .agg #[.int .i64 n.ins, n.sv, n.av, n.ov] ∧ (pf 1) = [] := hR 1 (by decide)
   have q2 : (vf 2) = .int .i64 n.fst ∧ (pf 2) = [] := hR 2 (by decide)
   have q3 : (vf 3) = .int .i64 (i : Int) ∧ (pf 3) = [] := hR 3 (by decide)
   have q4 : (vf 4) = .int .i64 (n.fst + (i : Int)) ∧ (pf 4) = [] := hR 4 (by decide)
   refine zcs (sk 0 rfl (sk 1 rfl (sk 3 rfl (sk 4 rfl (sk 5 rfl (sk 6 rfl (sk 13 rfl (sk 17 rfl (sk 23 (congrArg some vE5) (zag _)))))))))) (by simp only [pE5, vE5, q0.2, q1.2, q2.2, q3.2, q4.2, fS] <;> rfl) ?_
   simp only [List.drop_succ_cons, List.drop_zero]
   refine zad 1 rfl (zac [17, 13, 7, 6, 5, 4, 3, 1, 0] rfl (zae (zaa (zab (zad 5 rfl ?_)))))
   refine hl_v rfl rfl rfl (zbo rfl Try.underlying41 rfl (fun w hm => (hes w (hm.holds _ (zcl (i := 0) rfl))).row)) ?_
   refine hl_v rfl rfl rfl (zdb rfl rfl rfl (by constructor <;> omega)) (hl_v rfl rfl rfl (rv_max rfl rfl rfl) ?_)
   obtain ⟨p, hp⟩ : ∃ x, (if 1 < (us.length : Int) - 1 then (us.length : Int) - 1 else 1) = x := ⟨_, rfl⟩
   rw [hp]
   have hp2 : 1 ≤ p ∧ p ≤ us.length := by rw [← hp]; split <;> omega
   refine zcx (R := (fun u_ p_ => (∃ x_ : Int, u_ = .int .i64 x_ ∧ 0 ≤ x_ ∧ x_ < p) ∧ p_ = curE g a len cap)) 4 rfl rfl (by kernel_rfl) rfl rfl (fun l' w hm => zct g a len cap z p _ _ _ hm hb (by constructor <;> omega)) ?_
   intro v14 p15 hR16
   obtain ⟨⟨xhR16, rfl, xhR160, xhR161⟩, rfl⟩ := hR16
   refine zdw (l' := (bigE es :: rowE 26 1 ov rs.length (rs.flatMap crowC) :: bigE ps :: boxE b1 #[.int .i64 n.ins, n.sv, n.av, n.ov] 101 :: curE g a len cap :: l)) rfl ?_
   refine hl_v rfl rfl rfl (zal (s := 1) rfl Try.underlying41 (by kernel_rfl) rfl rfl (fun w hm => (hes w (hm.holds _ (zcl (i := 0) rfl))).row) (by omega) (by omega)) ?_
   refine hl_v rfl rfl rfl (zam (u := (us.getD ((xhR16).toNat) crow0).v) rfl (by kernel_rfl) rfl (fun w hm => (hes w (hm.holds _ (zcl (i := 0) rfl))).row) (zbz crowC (fun r => r.v) (fun _ => rfl) us crow0 (show (xhR16).toNat < _ by omega))) ?_
   refine hl_know (fun w hm => ((hes w (hm.holds _ (zcl (i := 0) rfl))).at (k := ((xhR16).toNat)) (by omega)).one') (fun hov => ?_)
   refine hl_v rfl rfl rfl (zal (s := 1) rfl Try.underlying41 (by kernel_rfl) rfl rfl (zas 1 rfl) (by omega) (by omega)) ?_
   refine zdp (i := 1) (n' := (rs.set i (us.getD ((xhR16).toNat) crow0)).length) rfl rfl rfl (by kernel_rfl) rfl rfl hov rfl (by first | omega | (simp only [List.length_set]; omega)) List.length_set.symm (zdm crowC (fun r => r.v) (fun _ => rfl) _ (us.getD ((xhR16).toNat) crow0) rfl) rfl ?_
   refine zac [17, 13, 7, 6, 5, 4, 3, 1, 0] rfl (zae (zai (zaa (zab (zad 1 rfl ?_)))))
   refine hl_v rfl rfl rfl (zbj rfl rfl rfl (by constructor <;> omega)) (zad 1 rfl (zac [17, 13, 7, 6, 5, 4, 3, 1, 0] rfl (zae ?_)))
   refine zbu 5 [4, 3, 1, 0, 2] rfl rfl (by decide) ?_
   refine zcz 2 rfl ?_
   refine zbu 4 [3, 2, 0, 1] rfl rfl (by decide) ?_
   exact zbx (i + 1) (rs.set i (us.getD ((xhR16).toNat) crow0)) ov [bigE ps, bigE es] ⟨by omega, by rw [List.length_set]; exact hrl, (fun r hr => (List.mem_or_eq_of_mem_set hr).elim (hr4 r) (fun h => by subst h; have := hgu.four _ (zcp (es := us) (i := ((xhR16).toNat)) (d := crow0) (by omega)); omega)), fun w hw => (fun r hr => (List.mem_or_eq_of_mem_set hr).elim (hps w (zbn hw List.mem_cons_self) r) (fun h => by subst h; exact (hes w (zbn hw (List.mem_cons_of_mem _ List.mem_cons_self))).at (k := ((xhR16).toNat)) (by omega)))⟩ (by omega) (zan [6, 5, 4, 3, 1, 0] rfl) ((.cons_cons _ (.cons_cons _ (.cons_cons _ (.cons_cons _ (.refl _))))))
  refine zac [17, 13, 6, 5, 4, 3, 1, 0] rfl (zae (zaa (zaq rfl (zaz (zai ?_)))))
  refine zaa (zab (zad 1 rfl (hl_v rfl rfl rfl (zbj rfl rfl rfl (by constructor <;> omega)) (zad 1 rfl (zac [17, 13, 6, 5, 4, 3, 1, 0] rfl ?_)))))
  refine zae ?_
  exact zbx (i + 1) rs ov ps ⟨by omega, hrl, hr4, hps⟩ (by omega) (zan [6, 5, 4, 3, 1, 0] rfl) ((.cons_cons _ (.cons_cons _ (.cons_cons _ (.cons_cons _ (.refl _))))))
 refine zac [13, 6, 5, 4, 3, 1, 0] rfl (zae (zaa (zaq rfl ?_)))
 refine zbp ?_
 refine zah (zah ?_)
 refine zav ?_
 refine zaa (zaf (zab (zad 2 rfl (zac [13, 6, 5, 4, 3, 1, 0] rfl (zae ?_)))))
 refine zaa ?_
 refine zbl ?_
 refine zbu 4 [1, 0, 3] rfl rfl (by decide) ?_
 refine zcz 3 rfl ?_
 exact hq_ret (rs := [.tmp 4]) (vs := [ov]) rfl ⟨rfl, trivial⟩ rfl (fun w hm => ⟨_, bigE [curE g a len cap, rowE 26 1 ov rs.length (rs.flatMap crowC), bigE ps], rfl, ⟨_, rs, rfl, hps, hrl, hr4⟩, hm.sub ((.cons_cons _ (.refl _)))⟩)
open Go.RowKit
def tIn9 (v : Value) : Int := match v with | .tuple #[.agg #[.int _ i, _, _, _], _] => i | _ => 0
def tF9 (k : Nat) (v : Value) : Value := match v with | .tuple #[.agg xs, _] => xs.getD k undef | _ => undef
theorem BelowP.nil (m : Int) : BelowP [] m := fun j hj => absurd hj (by simp)
theorem BelowP.app {xs : List Int} {m x : Int} (h : BelowP xs m) (hx : 0 ≤ x ∧ x < m) : BelowP (xs ++ [x]) m := fun j hj => by
  rw [List.length_append, List.length_singleton] at hj
  by_cases e : j < xs.length
  · rw [zeb e]; exact h j e
  · have e2 : j = xs.length := by omega
    subst e2
    rw [zek (Nat.le_refl _), Nat.sub_self]; exact hx
end Go.Proofs.Ytakjndmlanpadaa
