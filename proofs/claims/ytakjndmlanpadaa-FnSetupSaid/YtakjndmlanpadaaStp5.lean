/- Texts of the law FnSetup, part 5: what it uses. -/
import Derived.Test.YtakjndmlanpadaaStp4
set_option linter.unusedVariables false
set_option linter.unusedSimpArgs false
set_option maxHeartbeats 4000000
set_option maxRecDepth 100000
namespace Go.Proofs.Ytakjndmlanpadaa
open Go.RowKit Go.ChangeShapes
open Go.RowKit
theorem MergeE_ret (xs ys : List Int) (u v : Value) (w : World) (hu : RdsW w u 1 xs.length (xs.map (Value.int .i64))) (hv : RdsW w v 1 ys.length (ys.map (Value.int .i64))) (hxl : xs.length ≤ 100000) (hyl : ys.length ≤ 100000) :
   Calls Try.prog 105 #[u, v] w (Ret w (fun u_ p_ => ∃ (mv : Value) (us : List Int) (mb : Bool), u_ = .tuple #[mv, .bool mb] ∧ p_ = [rowE 3 1 mv us.length (us.map (Value.int .i64))] ∧ us.length ≤ 4)) := by
 refine zbf (N := 101) (args := [u, v]) Try.func105 rfl rfl (zbc 2 rfl (srQ ?_))
 refine zdu rfl (zcq (s := 1) rfl Try.underlying26 rfl) ?_
 intro g1
 refine zbb 1 rfl (zac (zac (reQ 1 rfl ?_)))
 refine zdn rfl (zal rfl rfl (fun w hm => zas (l13Strict_ans xs _ w ((zaa hu) w hm) (by omega)))) (zbl (fun h2 => ?_) (fun h2 => ?_))
 ·
  refine zan 3 rfl (zdn rfl (zal rfl rfl (fun w hm => zas (l13Strict_ans ys _ w ((zaa hv) w hm) (by omega)))) ?_)
  refine zbl (fun h3 => ?_) (fun h3 => ?_)
  ·
   refine zbb 2 rfl (zaq rfl (zcp (zbc 1 rfl (zac ?_))))
   refine zay (zbb 1 rfl (sbQ ?_))
   refine lkQ4 (α := Nat) (β := Nat) (γ := Value) (δ := List Int) [0, 1, 4, 5, 17] rfl (fun i j gu os => [rowE 3 1 gu os.length (os.map (Value.int .i64))]) (fun i j gu os => [(6, gu), (7, .int .i64 (i : Int)), (8, .int .i64 (j : Int))]) (fun i j gu os => i ≤ xs.length ∧ j ≤ ys.length ∧ os.length ≤ 4) (fun i j gu os => xs.length - i + (ys.length - j)) 0 0 _ [] ⟨Nat.zero_le _, Nat.zero_le _, by simp⟩ (saQ rfl) (pfQ rfl) ?_
   intro i j gu os hi4
   obtain ⟨hi, hj, hol⟩ := hi4
   refine zac (zac (reQ 2 rfl (hvQ rfl (lnQ rfl rfl rfl (zaa hu)) ?_)))
   refine zbh rfl rfl rfl rfl rfl rfl (fun h5 => ?_) (fun h5 => ?_)
   ·
    refine zbb 6 rfl (zao rfl (zcp (zaw (zfl ?_))))
    refine zan 1 rfl (hvQ rfl (lnQ rfl rfl rfl (zah 0 rfl)) ?_)
    refine zcu rfl rfl rfl rfl rfl rfl (fun h6 => ?_) (fun h6 => ?_)
    ·
     refine ntQ (zao rfl (srQ ?_))
     refine zdu rfl (zcq (s := 1) rfl Try.underlying26 rfl) ?_
     intro g7
     refine zbb 2 rfl ?_
     refine zav (zap ?_)
     refine zak (zap ?_)
     refine zak (zap ?_)
     exact zdp (rs := [.tmp 4, .tmp 5]) (vs := [.slice (some ⟨g7, 0, none⟩) 0 0, .bool false]) (post := [rowE 3 1 (.slice (some ⟨g7, 0, none⟩) 0 0) 0 ([])]) rfl ⟨rfl, rfl, trivial⟩ rfl (slQ [0] rfl) ⟨_, [], false, rfl, rfl, by simp⟩
    refine ntQ (zaq rfl (zcp (zaw ?_)))
    refine hc_meet1 (α := Bool) (fun b4 => [rowE 3 1 gu os.length (os.map (Value.int .i64))]) (fun b4 => [(0, u), (1, v), (4, .slice none 0 0), (5, .bool false), (6, gu), (7, .int .i64 (i : Int)), (8, .int .i64 (j : Int)), (17, .bool false), (28, .bool true), (31, .bool false), (44, .bool b4)]) (fun b4 => (b4 = true → i < xs.length) ∧ (b4 = false → j < ys.length)) ?_ ?_
    ·
     rcases Bool.eq_false_or_eq_true ((j : Int) == (ys.length : Int)) with hb8 | hb8
     ·
      have hb8p : (j : Int) = (ys.length : Int) := beq_iff_eq.1 hb8
      refine zbk 21 [[], [], [1], [0, 2], [3], [4], [4], [4], [4], [4], [9], [9], [9], [9], [9], [9], [9], [9], [9], [4], [4, 19]] [45, 46, 47, 48, 49, 50, 51, 52, 53, 54, 55, 56, 57, 58, 59, 60, 61, 62, 63, 64, 65] [.int .i64 (j : Int), v, .int .i64 (ys.length : Int), .bool true, .bool true, undef, undef, undef, undef, undef, undef, undef, undef, undef, undef, undef, undef, undef, undef, undef, .bool true] (by kernel_rfl) rfl ?_ ?_
      ·
       exact ⟨iaQ rfl (zaj rfl) rfl, iaQ rfl (zaj rfl) rfl, iaQ rfl (lnQ rfl rfl rfl (zaa hv)) rfl, .inl ⟨rfl, zcz (zcd rfl rfl rfl rfl) hb8⟩, iaQ rfl (zaj rfl) rfl, .inr ⟨rfl, rfl⟩, .inr ⟨rfl, rfl⟩, .inr ⟨rfl, rfl⟩, .inr ⟨rfl, rfl⟩, .inr ⟨rfl, rfl⟩, .inr ⟨rfl, rfl⟩, .inr ⟨rfl, rfl⟩, .inr ⟨rfl, rfl⟩, .inr ⟨rfl, rfl⟩, .inr ⟨rfl, rfl⟩, .inr ⟨rfl, rfl⟩, .inr ⟨rfl, rfl⟩, .inr ⟨rfl, rfl⟩, .inr ⟨rfl, rfl⟩, .inr ⟨rfl, rfl⟩, iaQ rfl (zaj rfl) rfl, trivial⟩
      simp only [List.drop_succ_cons, List.drop_zero]
      refine enQ 1 rfl ?_
      exact zeq true ⟨fun _ => by first | omega | contradiction, fun _ => by first | omega | contradiction⟩ (saQ rfl) (pfQ rfl)
     have hb8p : (j : Int) ≠ (ys.length : Int) := beq_eq_false_iff_ne.1 hb8
     rcases Bool.eq_false_or_eq_true (decide ((i : Int) < (xs.length : Int))) with hb9 | hb9
     ·
      have hb9p : (i : Int) < (xs.length : Int) := of_decide_eq_true hb9
      rcases Bool.eq_false_or_eq_true (decide (xs.getD i 0 < ys.getD j 0)) with hb10 | hb10
      ·
       have hb10p : xs.getD i 0 < ys.getD j 0 := of_decide_eq_true hb10
       refine zbk 21 [[], [], [1], [0, 2], [3], [4], [4], [4, 6], [4, 5, 7], [4, 8], [9], [9], [9, 10, 11], [9, 12], [9], [9], [9, 14, 15], [9, 16], [9, 13, 17], [4, 9, 18], [4, 19]] [45, 46, 47, 48, 49, 50, 51, 52, 53, 54, 55, 56, 57, 58, 59, 60, 61, 62, 63, 64, 65] [.int .i64 (j : Int), v, .int .i64 (ys.length : Int), .bool false, .bool false, .int .i64 (i : Int), u, .int .i64 (xs.length : Int), .bool true, .bool true, u, .int .i64 (i : Int), elP u (((i : Int)).toNat * 1), .int .i64 (xs.getD i 0), v, .int .i64 (j : Int), elP v (((j : Int)).toNat * 1), .int .i64 (ys.getD j 0), .bool true, .bool true, .bool true] (by kernel_rfl) rfl ?_ ?_
       ·
        exact ⟨iaQ rfl (zaj rfl) rfl, iaQ rfl (zaj rfl) rfl, iaQ rfl (lnQ rfl rfl rfl (zaa hv)) rfl, .inl ⟨rfl, zcz (zcd rfl rfl rfl rfl) hb8⟩, iaQ rfl (zaj rfl) rfl, iaQ rfl (zaj rfl) rfl, iaQ rfl (zaj rfl) rfl, iaQ rfl (lnQ rfl rfl rfl (zaa hu)) rfl, .inl ⟨rfl, zcz (zcd rfl rfl rfl rfl) hb9⟩, iaQ rfl (zaj rfl) rfl, iaQ rfl (zaj rfl) rfl, iaQ rfl (zaj rfl) rfl, iaQ rfl (riQ 1 rfl rfl rfl rfl (zaa hu)) rfl, iaQ rfl (liQ rfl rfl rfl (zaa hu)) rfl, iaQ rfl (zaj rfl) rfl, iaQ rfl (zaj rfl) rfl, iaQ rfl (riQ 1 rfl rfl rfl rfl (zaa hv)) rfl, iaQ rfl (liQ rfl rfl rfl (zaa hv)) rfl, .inl ⟨rfl, zcz (zcd rfl rfl rfl rfl) hb10⟩, iaQ rfl (zaj rfl) rfl, iaQ rfl (zaj rfl) rfl, trivial⟩
       simp only [List.drop_succ_cons, List.drop_zero]
       refine enQ 1 rfl ?_
       exact zeq true ⟨fun _ => by first | omega | contradiction, fun _ => by first | omega | contradiction⟩ (saQ rfl) (pfQ rfl)
      have hb10p : ¬ (xs.getD i 0 < ys.getD j 0) := of_decide_eq_false hb10
      refine zbk 21 [[], [], [1], [0, 2], [3], [4], [4], [4, 6], [4, 5, 7], [4, 8], [9], [9], [9, 10, 11], [9, 12], [9], [9], [9, 14, 15], [9, 16], [9, 13, 17], [4, 9, 18], [4, 19]] [45, 46, 47, 48, 49, 50, 51, 52, 53, 54, 55, 56, 57, 58, 59, 60, 61, 62, 63, 64, 65] [.int .i64 (j : Int), v, .int .i64 (ys.length : Int), .bool false, .bool false, .int .i64 (i : Int), u, .int .i64 (xs.length : Int), .bool true, .bool true, u, .int .i64 (i : Int), elP u (((i : Int)).toNat * 1), .int .i64 (xs.getD i 0), v, .int .i64 (j : Int), elP v (((j : Int)).toNat * 1), .int .i64 (ys.getD j 0), .bool false, .bool false, .bool false] (by kernel_rfl) rfl ?_ ?_
      ·
       exact ⟨iaQ rfl (zaj rfl) rfl, iaQ rfl (zaj rfl) rfl, iaQ rfl (lnQ rfl rfl rfl (zaa hv)) rfl, .inl ⟨rfl, zcz (zcd rfl rfl rfl rfl) hb8⟩, iaQ rfl (zaj rfl) rfl, iaQ rfl (zaj rfl) rfl, iaQ rfl (zaj rfl) rfl, iaQ rfl (lnQ rfl rfl rfl (zaa hu)) rfl, .inl ⟨rfl, zcz (zcd rfl rfl rfl rfl) hb9⟩, iaQ rfl (zaj rfl) rfl, iaQ rfl (zaj rfl) rfl, iaQ rfl (zaj rfl) rfl, iaQ rfl (riQ 1 rfl rfl rfl rfl (zaa hu)) rfl, iaQ rfl (liQ rfl rfl rfl (zaa hu)) rfl, iaQ rfl (zaj rfl) rfl, iaQ rfl (zaj rfl) rfl, iaQ rfl (riQ 1 rfl rfl rfl rfl (zaa hv)) rfl, iaQ rfl (liQ rfl rfl rfl (zaa hv)) rfl, .inl ⟨rfl, zcz (zcd rfl rfl rfl rfl) hb10⟩, iaQ rfl (zaj rfl) rfl, iaQ rfl (zaj rfl) rfl, trivial⟩
      simp only [List.drop_succ_cons, List.drop_zero]
      refine enQ 1 rfl ?_
      exact zeq false ⟨fun _ => by first | omega | contradiction, fun _ => by first | omega | contradiction⟩ (saQ rfl) (pfQ rfl)
     have hb9p : ¬ ((i : Int) < (xs.length : Int)) := of_decide_eq_false hb9
     refine zbk 21 [[], [], [1], [0, 2], [3], [4], [4], [4, 6], [4, 5, 7], [4, 8], [9], [9], [9], [9], [9], [9], [9], [9], [9], [4, 9, 18], [4, 19]] [45, 46, 47, 48, 49, 50, 51, 52, 53, 54, 55, 56, 57, 58, 59, 60, 61, 62, 63, 64, 65] [.int .i64 (j : Int), v, .int .i64 (ys.length : Int), .bool false, .bool false, .int .i64 (i : Int), u, .int .i64 (xs.length : Int), .bool false, .bool false, undef, undef, undef, undef, undef, undef, undef, undef, undef, .bool false, .bool false] (by kernel_rfl) rfl ?_ ?_
     ·
      exact ⟨iaQ rfl (zaj rfl) rfl, iaQ rfl (zaj rfl) rfl, iaQ rfl (lnQ rfl rfl rfl (zaa hv)) rfl, .inl ⟨rfl, zcz (zcd rfl rfl rfl rfl) hb8⟩, iaQ rfl (zaj rfl) rfl, iaQ rfl (zaj rfl) rfl, iaQ rfl (zaj rfl) rfl, iaQ rfl (lnQ rfl rfl rfl (zaa hu)) rfl, .inl ⟨rfl, zcz (zcd rfl rfl rfl rfl) hb9⟩, iaQ rfl (zaj rfl) rfl, .inr ⟨rfl, rfl⟩, .inr ⟨rfl, rfl⟩, .inr ⟨rfl, rfl⟩, .inr ⟨rfl, rfl⟩, .inr ⟨rfl, rfl⟩, .inr ⟨rfl, rfl⟩, .inr ⟨rfl, rfl⟩, .inr ⟨rfl, rfl⟩, .inr ⟨rfl, rfl⟩, iaQ rfl (zaj rfl) rfl, iaQ rfl (zaj rfl) rfl, trivial⟩
     simp only [List.drop_succ_cons, List.drop_zero]
     refine enQ 1 rfl ?_
     exact zeq false ⟨fun _ => by first | omega | contradiction, fun _ => by first | omega | contradiction⟩ (saQ rfl) (pfQ rfl)
    intro b4 hm11
    obtain ⟨hm4, hm5⟩ := hm11
    refine hc_cond rfl (fun h12 => ?_) (fun h12 => ?_)
    ·
     refine zac (reQ 3 rfl ?_)
     have hlt4 := hm4 (by assumption)
     refine hvQ rfl (riQ 1 rfl rfl rfl rfl (zaa hu)) (hvQ rfl (liQ rfl rfl rfl (zaa hu)) ?_)
     refine zdu rfl (zau (z := .int .i64 0) (s := 1) (cs := ([xs.getD i 0].map (Value.int .i64))) rfl Try.underlying26 rfl (by decide) rfl (by kernel_rfl) rfl) ?_
     intro g13
     refine zcf (i := 1) (z := .int .i64 0) (bytes := 8) rfl rfl rfl rfl Try.underlying26 (by kernel_rfl) rfl rfl rfl rfl (zah 0 rfl) (zbw _) (by first | omega | (simp; done) | (simp; omega)) (zbt os ([xs.getD i 0])) (zcn os ([xs.getD i 0])) (fun _ => rfl) ?_
     intro v14
     refine zbb 1 rfl (reQ 1 rfl (hvQ rfl (vaQ rfl rfl rfl) (enQ 1 rfl (zcm (zcm ?_)))))
     exact zca (i + 1) j v14 (os ++ ([xs.getD i 0])) ⟨by omega, by omega, by rw [List.length_append, List.length_singleton]; omega⟩ (by omega) (saQ rfl) (slQ [1] rfl)
    refine hc_meet1 (α := Bool) (fun b7 => [rowE 3 1 gu os.length (os.map (Value.int .i64))]) (fun b7 => [(0, u), (1, v), (4, .slice none 0 0), (5, .bool false), (6, gu), (7, .int .i64 (i : Int)), (8, .int .i64 (j : Int)), (17, .bool false), (28, .bool true), (31, .bool false), (44, .bool b4), (75, .bool b7)]) (fun b7 => (b7 = false → i < xs.length)) ?_ ?_
    ·
     have hlt5 := hm5 (by assumption)
     rcases Bool.eq_false_or_eq_true ((i : Int) == (xs.length : Int)) with hb15 | hb15
     ·
      have hb15p : (i : Int) = (xs.length : Int) := beq_iff_eq.1 hb15
      have hlt5 := hm5 (by assumption)
      refine zbk 15 [[], [], [1], [0, 2], [3], [4], [4], [4], [4], [4], [4], [4], [4], [4], [4, 13]] [76, 77, 78, 79, 80, 81, 82, 83, 84, 85, 86, 87, 88, 89, 90] [.int .i64 (i : Int), u, .int .i64 (xs.length : Int), .bool true, .bool true, undef, undef, undef, undef, undef, undef, undef, undef, undef, .bool true] (by kernel_rfl) rfl ?_ ?_
      ·
       exact ⟨iaQ rfl (zaj rfl) rfl, iaQ rfl (zaj rfl) rfl, iaQ rfl (lnQ rfl rfl rfl (zaa hu)) rfl, .inl ⟨rfl, zcz (zcd rfl rfl rfl rfl) hb15⟩, iaQ rfl (zaj rfl) rfl, .inr ⟨rfl, rfl⟩, .inr ⟨rfl, rfl⟩, .inr ⟨rfl, rfl⟩, .inr ⟨rfl, rfl⟩, .inr ⟨rfl, rfl⟩, .inr ⟨rfl, rfl⟩, .inr ⟨rfl, rfl⟩, .inr ⟨rfl, rfl⟩, .inr ⟨rfl, rfl⟩, iaQ rfl (zaj rfl) rfl, trivial⟩
      simp only [List.drop_succ_cons, List.drop_zero]
      refine enQ 1 rfl ?_
      exact zeq true (fun _ => by first | omega | contradiction) (saQ rfl) (pfQ rfl)
     have hb15p : (i : Int) ≠ (xs.length : Int) := beq_eq_false_iff_ne.1 hb15
     have hlt5 := hm5 (by assumption)
     rcases Bool.eq_false_or_eq_true (decide (ys.getD j 0 < xs.getD i 0)) with hb16 | hb16
     ·
      have hb16p : ys.getD j 0 < xs.getD i 0 := of_decide_eq_true hb16
      have hlt5 := hm5 (by assumption)
      refine zbk 15 [[], [], [1], [0, 2], [3], [4], [4], [4, 5, 6], [4, 7], [4], [4], [4, 9, 10], [4, 11], [4, 8, 12], [4, 13]] [76, 77, 78, 79, 80, 81, 82, 83, 84, 85, 86, 87, 88, 89, 90] [.int .i64 (i : Int), u, .int .i64 (xs.length : Int), .bool false, .bool false, v, .int .i64 (j : Int), elP v (((j : Int)).toNat * 1), .int .i64 (ys.getD j 0), u, .int .i64 (i : Int), elP u (((i : Int)).toNat * 1), .int .i64 (xs.getD i 0), .bool true, .bool true] (by kernel_rfl) rfl ?_ ?_
      ·
       exact ⟨iaQ rfl (zaj rfl) rfl, iaQ rfl (zaj rfl) rfl, iaQ rfl (lnQ rfl rfl rfl (zaa hu)) rfl, .inl ⟨rfl, zcz (zcd rfl rfl rfl rfl) hb15⟩, iaQ rfl (zaj rfl) rfl, iaQ rfl (zaj rfl) rfl, iaQ rfl (zaj rfl) rfl, iaQ rfl (riQ 1 rfl rfl rfl rfl (zaa hv)) rfl, iaQ rfl (liQ rfl rfl rfl (zaa hv)) rfl, iaQ rfl (zaj rfl) rfl, iaQ rfl (zaj rfl) rfl, iaQ rfl (riQ 1 rfl rfl rfl rfl (zaa hu)) rfl, iaQ rfl (liQ rfl rfl rfl (zaa hu)) rfl, .inl ⟨rfl, zcz (zcd rfl rfl rfl rfl) hb16⟩, iaQ rfl (zaj rfl) rfl, trivial⟩
      simp only [List.drop_succ_cons, List.drop_zero]
      refine enQ 1 rfl ?_
      exact zeq true (fun _ => by first | omega | contradiction) (saQ rfl) (pfQ rfl)
     have hb16p : ¬ (ys.getD j 0 < xs.getD i 0) := of_decide_eq_false hb16
     have hlt5 := hm5 (by assumption)
     refine zbk 15 [[], [], [1], [0, 2], [3], [4], [4], [4, 5, 6], [4, 7], [4], [4], [4, 9, 10], [4, 11], [4, 8, 12], [4, 13]] [76, 77, 78, 79, 80, 81, 82, 83, 84, 85, 86, 87, 88, 89, 90] [.int .i64 (i : Int), u, .int .i64 (xs.length : Int), .bool false, .bool false, v, .int .i64 (j : Int), elP v (((j : Int)).toNat * 1), .int .i64 (ys.getD j 0), u, .int .i64 (i : Int), elP u (((i : Int)).toNat * 1), .int .i64 (xs.getD i 0), .bool false, .bool false] (by kernel_rfl) rfl ?_ ?_
     ·
      exact ⟨iaQ rfl (zaj rfl) rfl, iaQ rfl (zaj rfl) rfl, iaQ rfl (lnQ rfl rfl rfl (zaa hu)) rfl, .inl ⟨rfl, zcz (zcd rfl rfl rfl rfl) hb15⟩, iaQ rfl (zaj rfl) rfl, iaQ rfl (zaj rfl) rfl, iaQ rfl (zaj rfl) rfl, iaQ rfl (riQ 1 rfl rfl rfl rfl (zaa hv)) rfl, iaQ rfl (liQ rfl rfl rfl (zaa hv)) rfl, iaQ rfl (zaj rfl) rfl, iaQ rfl (zaj rfl) rfl, iaQ rfl (riQ 1 rfl rfl rfl rfl (zaa hu)) rfl, iaQ rfl (liQ rfl rfl rfl (zaa hu)) rfl, .inl ⟨rfl, zcz (zcd rfl rfl rfl rfl) hb16⟩, iaQ rfl (zaj rfl) rfl, trivial⟩
     simp only [List.drop_succ_cons, List.drop_zero]
     refine enQ 1 rfl ?_
     exact zeq false (fun _ => by first | omega | contradiction) (saQ rfl) (pfQ rfl)
    intro b7 hm17
    have hm7 := hm17
    refine hc_cond rfl (fun h18 => ?_) (fun h18 => ?_)
    ·
     refine zac (reQ 3 rfl ?_)
     have hlt6 := hm5 (by assumption)
     refine hvQ rfl (riQ 1 rfl rfl rfl rfl (zaa hv)) (hvQ rfl (liQ rfl rfl rfl (zaa hv)) ?_)
     refine zdu rfl (zau (z := .int .i64 0) (s := 1) (cs := ([ys.getD j 0].map (Value.int .i64))) rfl Try.underlying26 rfl (by decide) rfl (by kernel_rfl) rfl) ?_
     intro g19
     refine zcf (i := 1) (z := .int .i64 0) (bytes := 8) rfl rfl rfl rfl Try.underlying26 (by kernel_rfl) rfl rfl rfl rfl (zah 0 rfl) (zbw _) (by first | omega | (simp; done) | (simp; omega)) (zbt os ([ys.getD j 0])) (zcn os ([ys.getD j 0])) (fun _ => rfl) ?_
     intro v20
     refine zbb 1 rfl (reQ 1 rfl (hvQ rfl (vaQ rfl rfl rfl) (enQ 1 rfl (zcm (zcm ?_)))))
     exact zca i (j + 1) v20 (os ++ ([ys.getD j 0])) ⟨by omega, by omega, by rw [List.length_append, List.length_singleton]; omega⟩ (by omega) (saQ rfl) (slQ [1] rfl)
    refine zac (reQ 3 rfl ?_)
    have hlt6 := hm5 (by assumption)
    have hlt7 := hm7 (by assumption)
    refine hvQ rfl (riQ 1 rfl rfl rfl rfl (zaa hu)) (hvQ rfl (liQ rfl rfl rfl (zaa hu)) ?_)
    refine zdu rfl (zau (z := .int .i64 0) (s := 1) (cs := ([xs.getD i 0].map (Value.int .i64))) rfl Try.underlying26 rfl (by decide) rfl (by kernel_rfl) rfl) ?_
    intro g21
    refine zcf (i := 1) (z := .int .i64 0) (bytes := 8) rfl rfl rfl rfl Try.underlying26 (by kernel_rfl) rfl rfl rfl rfl (zah 0 rfl) (zbw _) (by first | omega | (simp; done) | (simp; omega)) (zbt os ([xs.getD i 0])) (zcn os ([xs.getD i 0])) (fun _ => rfl) ?_
    intro v22
    refine zbb 1 rfl (zac (reQ 1 rfl (hvQ rfl (vaQ rfl rfl rfl) (zbb 1 rfl (reQ 1 rfl ?_)))))
    refine hvQ rfl (vaQ rfl rfl rfl) (enQ 1 rfl (zcm (zcm ?_)))
    exact zca (i + 1) (j + 1) v22 (os ++ ([xs.getD i 0])) ⟨by omega, by omega, by rw [List.length_append, List.length_singleton]; omega⟩ (by omega) (saQ rfl) (slQ [1] rfl)
   refine zan 3 rfl (hvQ rfl (lnQ rfl rfl rfl (zaa hv)) ?_)
   refine zbh rfl rfl rfl rfl rfl rfl (fun h23 => ?_) (fun h23 => ?_)
   ·
    refine zbb 1 rfl (zao rfl (zcp (zaw (zac (zac (reQ 1 rfl (hvQ rfl (lnQ rfl rfl rfl (zah 0 rfl)) ?_)))))))
    refine zcu rfl rfl rfl rfl rfl rfl (fun h24 => ?_) (fun h24 => ?_)
    ·
     refine ntQ (zao rfl (srQ ?_))
     refine zdu rfl (zcq (s := 1) rfl Try.underlying26 rfl) ?_
     intro g25
     refine zbb 2 rfl ?_
     refine zav (zap ?_)
     refine zak (zap ?_)
     refine zak (zap ?_)
     exact zdp (rs := [.tmp 4, .tmp 5]) (vs := [.slice (some ⟨g25, 0, none⟩) 0 0, .bool false]) (post := [rowE 3 1 (.slice (some ⟨g25, 0, none⟩) 0 0) 0 ([])]) rfl ⟨rfl, rfl, trivial⟩ rfl (slQ [0] rfl) ⟨_, [], false, rfl, rfl, by simp⟩
    refine ntQ (zaq rfl (zcp (zaw ?_)))
    refine hc_meet1 (α := Bool) (fun b4 => [rowE 3 1 gu os.length (os.map (Value.int .i64))]) (fun b4 => [(0, u), (1, v), (4, .slice none 0 0), (5, .bool false), (6, gu), (7, .int .i64 (i : Int)), (8, .int .i64 (j : Int)), (17, .bool false), (28, .bool true), (31, .bool false), (44, .bool b4)]) (fun b4 => (b4 = true → i < xs.length) ∧ (b4 = false → j < ys.length)) ?_ ?_
    ·
     rcases Bool.eq_false_or_eq_true ((j : Int) == (ys.length : Int)) with hb26 | hb26
     ·
      have hb26p : (j : Int) = (ys.length : Int) := beq_iff_eq.1 hb26
      refine zbk 21 [[], [], [1], [0, 2], [3], [4], [4], [4], [4], [4], [9], [9], [9], [9], [9], [9], [9], [9], [9], [4], [4, 19]] [45, 46, 47, 48, 49, 50, 51, 52, 53, 54, 55, 56, 57, 58, 59, 60, 61, 62, 63, 64, 65] [.int .i64 (j : Int), v, .int .i64 (ys.length : Int), .bool true, .bool true, undef, undef, undef, undef, undef, undef, undef, undef, undef, undef, undef, undef, undef, undef, undef, .bool true] (by kernel_rfl) rfl ?_ ?_
      ·
       exact ⟨iaQ rfl (zaj rfl) rfl, iaQ rfl (zaj rfl) rfl, iaQ rfl (lnQ rfl rfl rfl (zaa hv)) rfl, .inl ⟨rfl, zcz (zcd rfl rfl rfl rfl) hb26⟩, iaQ rfl (zaj rfl) rfl, .inr ⟨rfl, rfl⟩, .inr ⟨rfl, rfl⟩, .inr ⟨rfl, rfl⟩, .inr ⟨rfl, rfl⟩, .inr ⟨rfl, rfl⟩, .inr ⟨rfl, rfl⟩, .inr ⟨rfl, rfl⟩, .inr ⟨rfl, rfl⟩, .inr ⟨rfl, rfl⟩, .inr ⟨rfl, rfl⟩, .inr ⟨rfl, rfl⟩, .inr ⟨rfl, rfl⟩, .inr ⟨rfl, rfl⟩, .inr ⟨rfl, rfl⟩, .inr ⟨rfl, rfl⟩, iaQ rfl (zaj rfl) rfl, trivial⟩
      simp only [List.drop_succ_cons, List.drop_zero]
      refine enQ 1 rfl ?_
      exact zeq true ⟨fun _ => by first | omega | contradiction, fun _ => by first | omega | contradiction⟩ (saQ rfl) (pfQ rfl)
     have hb26p : (j : Int) ≠ (ys.length : Int) := beq_eq_false_iff_ne.1 hb26
     rcases Bool.eq_false_or_eq_true (decide ((i : Int) < (xs.length : Int))) with hb27 | hb27
     ·
      have hb27p : (i : Int) < (xs.length : Int) := of_decide_eq_true hb27
      rcases Bool.eq_false_or_eq_true (decide (xs.getD i 0 < ys.getD j 0)) with hb28 | hb28
      ·
       have hb28p : xs.getD i 0 < ys.getD j 0 := of_decide_eq_true hb28
       refine zbk 21 [[], [], [1], [0, 2], [3], [4], [4], [4, 6], [4, 5, 7], [4, 8], [9], [9], [9, 10, 11], [9, 12], [9], [9], [9, 14, 15], [9, 16], [9, 13, 17], [4, 9, 18], [4, 19]] [45, 46, 47, 48, 49, 50, 51, 52, 53, 54, 55, 56, 57, 58, 59, 60, 61, 62, 63, 64, 65] [.int .i64 (j : Int), v, .int .i64 (ys.length : Int), .bool false, .bool false, .int .i64 (i : Int), u, .int .i64 (xs.length : Int), .bool true, .bool true, u, .int .i64 (i : Int), elP u (((i : Int)).toNat * 1), .int .i64 (xs.getD i 0), v, .int .i64 (j : Int), elP v (((j : Int)).toNat * 1), .int .i64 (ys.getD j 0), .bool true, .bool true, .bool true] (by kernel_rfl) rfl ?_ ?_
       ·
        exact ⟨iaQ rfl (zaj rfl) rfl, iaQ rfl (zaj rfl) rfl, iaQ rfl (lnQ rfl rfl rfl (zaa hv)) rfl, .inl ⟨rfl, zcz (zcd rfl rfl rfl rfl) hb26⟩, iaQ rfl (zaj rfl) rfl, iaQ rfl (zaj rfl) rfl, iaQ rfl (zaj rfl) rfl, iaQ rfl (lnQ rfl rfl rfl (zaa hu)) rfl, .inl ⟨rfl, zcz (zcd rfl rfl rfl rfl) hb27⟩, iaQ rfl (zaj rfl) rfl, iaQ rfl (zaj rfl) rfl, iaQ rfl (zaj rfl) rfl, iaQ rfl (riQ 1 rfl rfl rfl rfl (zaa hu)) rfl, iaQ rfl (liQ rfl rfl rfl (zaa hu)) rfl, iaQ rfl (zaj rfl) rfl, iaQ rfl (zaj rfl) rfl, iaQ rfl (riQ 1 rfl rfl rfl rfl (zaa hv)) rfl, iaQ rfl (liQ rfl rfl rfl (zaa hv)) rfl, .inl ⟨rfl, zcz (zcd rfl rfl rfl rfl) hb28⟩, iaQ rfl (zaj rfl) rfl, iaQ rfl (zaj rfl) rfl, trivial⟩
       simp only [List.drop_succ_cons, List.drop_zero]
       refine enQ 1 rfl ?_
       exact zeq true ⟨fun _ => by first | omega | contradiction, fun _ => by first | omega | contradiction⟩ (saQ rfl) (pfQ rfl)
      have hb28p : ¬ (xs.getD i 0 < ys.getD j 0) := of_decide_eq_false hb28
      refine zbk 21 [[], [], [1], [0, 2], [3], [4], [4], [4, 6], [4, 5, 7], [4, 8], [9], [9], [9, 10, 11], [9, 12], [9], [9], [9, 14, 15], [9, 16], [9, 13, 17], [4, 9, 18], [4, 19]] [45, 46, 47, 48, 49, 50, 51, 52, 53, 54, 55, 56, 57, 58, 59, 60, 61, 62, 63, 64, 65] [.int .i64 (j : Int), v, .int .i64 (ys.length : Int), .bool false, .bool false, .int .i64 (i : Int), u, .int .i64 (xs.length : Int), .bool true, .bool true, u, .int .i64 (i : Int), elP u (((i : Int)).toNat * 1), .int .i64 (xs.getD i 0), v, .int .i64 (j : Int), elP v (((j : Int)).toNat * 1), .int .i64 (ys.getD j 0), .bool false, .bool false, .bool false] (by kernel_rfl) rfl ?_ ?_
      ·
       exact ⟨iaQ rfl (zaj rfl) rfl, iaQ rfl (zaj rfl) rfl, iaQ rfl (lnQ rfl rfl rfl (zaa hv)) rfl, .inl ⟨rfl, zcz (zcd rfl rfl rfl rfl) hb26⟩, iaQ rfl (zaj rfl) rfl, iaQ rfl (zaj rfl) rfl, iaQ rfl (zaj rfl) rfl, iaQ rfl (lnQ rfl rfl rfl (zaa hu)) rfl, .inl ⟨rfl, zcz (zcd rfl rfl rfl rfl) hb27⟩, iaQ rfl (zaj rfl) rfl, iaQ rfl (zaj rfl) rfl, iaQ rfl (zaj rfl) rfl, iaQ rfl (riQ 1 rfl rfl rfl rfl (zaa hu)) rfl, iaQ rfl (liQ rfl rfl rfl (zaa hu)) rfl, iaQ rfl (zaj rfl) rfl, iaQ rfl (zaj rfl) rfl, iaQ rfl (riQ 1 rfl rfl rfl rfl (zaa hv)) rfl, iaQ rfl (liQ rfl rfl rfl (zaa hv)) rfl, .inl ⟨rfl, zcz (zcd rfl rfl rfl rfl) hb28⟩, iaQ rfl (zaj rfl) rfl, iaQ rfl (zaj rfl) rfl, trivial⟩
      simp only [List.drop_succ_cons, List.drop_zero]
      refine enQ 1 rfl ?_
      exact zeq false ⟨fun _ => by first | omega | contradiction, fun _ => by first | omega | contradiction⟩ (saQ rfl) (pfQ rfl)
     have hb27p : ¬ ((i : Int) < (xs.length : Int)) := of_decide_eq_false hb27
     refine zbk 21 [[], [], [1], [0, 2], [3], [4], [4], [4, 6], [4, 5, 7], [4, 8], [9], [9], [9], [9], [9], [9], [9], [9], [9], [4, 9, 18], [4, 19]] [45, 46, 47, 48, 49, 50, 51, 52, 53, 54, 55, 56, 57, 58, 59, 60, 61, 62, 63, 64, 65] [.int .i64 (j : Int), v, .int .i64 (ys.length : Int), .bool false, .bool false, .int .i64 (i : Int), u, .int .i64 (xs.length : Int), .bool false, .bool false, undef, undef, undef, undef, undef, undef, undef, undef, undef, .bool false, .bool false] (by kernel_rfl) rfl ?_ ?_
     ·
      exact ⟨iaQ rfl (zaj rfl) rfl, iaQ rfl (zaj rfl) rfl, iaQ rfl (lnQ rfl rfl rfl (zaa hv)) rfl, .inl ⟨rfl, zcz (zcd rfl rfl rfl rfl) hb26⟩, iaQ rfl (zaj rfl) rfl, iaQ rfl (zaj rfl) rfl, iaQ rfl (zaj rfl) rfl, iaQ rfl (lnQ rfl rfl rfl (zaa hu)) rfl, .inl ⟨rfl, zcz (zcd rfl rfl rfl rfl) hb27⟩, iaQ rfl (zaj rfl) rfl, .inr ⟨rfl, rfl⟩, .inr ⟨rfl, rfl⟩, .inr ⟨rfl, rfl⟩, .inr ⟨rfl, rfl⟩, .inr ⟨rfl, rfl⟩, .inr ⟨rfl, rfl⟩, .inr ⟨rfl, rfl⟩, .inr ⟨rfl, rfl⟩, .inr ⟨rfl, rfl⟩, iaQ rfl (zaj rfl) rfl, iaQ rfl (zaj rfl) rfl, trivial⟩
     simp only [List.drop_succ_cons, List.drop_zero]
     refine enQ 1 rfl ?_
     exact zeq false ⟨fun _ => by first | omega | contradiction, fun _ => by first | omega | contradiction⟩ (saQ rfl) (pfQ rfl)
    intro b4 hm29
    obtain ⟨hm4, hm5⟩ := hm29
    refine hc_cond rfl (fun h30 => ?_) (fun h30 => ?_)
    ·
     refine zac (reQ 3 rfl ?_)
     have hlt4 := hm4 (by assumption)
     refine hvQ rfl (riQ 1 rfl rfl rfl rfl (zaa hu)) (hvQ rfl (liQ rfl rfl rfl (zaa hu)) ?_)
     refine zdu rfl (zau (z := .int .i64 0) (s := 1) (cs := ([xs.getD i 0].map (Value.int .i64))) rfl Try.underlying26 rfl (by decide) rfl (by kernel_rfl) rfl) ?_
     intro g31
     refine zcf (i := 1) (z := .int .i64 0) (bytes := 8) rfl rfl rfl rfl Try.underlying26 (by kernel_rfl) rfl rfl rfl rfl (zah 0 rfl) (zbw _) (by first | omega | (simp; done) | (simp; omega)) (zbt os ([xs.getD i 0])) (zcn os ([xs.getD i 0])) (fun _ => rfl) ?_
     intro v32
     refine zbb 1 rfl (reQ 1 rfl (hvQ rfl (vaQ rfl rfl rfl) (enQ 1 rfl (zcm (zcm ?_)))))
     exact zca (i + 1) j v32 (os ++ ([xs.getD i 0])) ⟨by omega, by omega, by rw [List.length_append, List.length_singleton]; omega⟩ (by omega) (saQ rfl) (slQ [1] rfl)
    refine hc_meet1 (α := Bool) (fun b7 => [rowE 3 1 gu os.length (os.map (Value.int .i64))]) (fun b7 => [(0, u), (1, v), (4, .slice none 0 0), (5, .bool false), (6, gu), (7, .int .i64 (i : Int)), (8, .int .i64 (j : Int)), (17, .bool false), (28, .bool true), (31, .bool false), (44, .bool b4), (75, .bool b7)]) (fun b7 => (b7 = false → i < xs.length)) ?_ ?_
    ·
     have hlt5 := hm5 (by assumption)
     rcases Bool.eq_false_or_eq_true ((i : Int) == (xs.length : Int)) with hb33 | hb33
     ·
      have hb33p : (i : Int) = (xs.length : Int) := beq_iff_eq.1 hb33
      have hlt5 := hm5 (by assumption)
      refine zbk 15 [[], [], [1], [0, 2], [3], [4], [4], [4], [4], [4], [4], [4], [4], [4], [4, 13]] [76, 77, 78, 79, 80, 81, 82, 83, 84, 85, 86, 87, 88, 89, 90] [.int .i64 (i : Int), u, .int .i64 (xs.length : Int), .bool true, .bool true, undef, undef, undef, undef, undef, undef, undef, undef, undef, .bool true] (by kernel_rfl) rfl ?_ ?_
      ·
       exact ⟨iaQ rfl (zaj rfl) rfl, iaQ rfl (zaj rfl) rfl, iaQ rfl (lnQ rfl rfl rfl (zaa hu)) rfl, .inl ⟨rfl, zcz (zcd rfl rfl rfl rfl) hb33⟩, iaQ rfl (zaj rfl) rfl, .inr ⟨rfl, rfl⟩, .inr ⟨rfl, rfl⟩, .inr ⟨rfl, rfl⟩, .inr ⟨rfl, rfl⟩, .inr ⟨rfl, rfl⟩, .inr ⟨rfl, rfl⟩, .inr ⟨rfl, rfl⟩, .inr ⟨rfl, rfl⟩, .inr ⟨rfl, rfl⟩, iaQ rfl (zaj rfl) rfl, trivial⟩
      simp only [List.drop_succ_cons, List.drop_zero]
      refine enQ 1 rfl ?_
      exact zeq true (fun _ => by first | omega | contradiction) (saQ rfl) (pfQ rfl)
     have hb33p : (i : Int) ≠ (xs.length : Int) := beq_eq_false_iff_ne.1 hb33
     have hlt5 := hm5 (by assumption)
     rcases Bool.eq_false_or_eq_true (decide (ys.getD j 0 < xs.getD i 0)) with hb34 | hb34
     ·
      have hb34p : ys.getD j 0 < xs.getD i 0 := of_decide_eq_true hb34
      have hlt5 := hm5 (by assumption)
      refine zbk 15 [[], [], [1], [0, 2], [3], [4], [4], [4, 5, 6], [4, 7], [4], [4], [4, 9, 10], [4, 11], [4, 8, 12], [4, 13]] [76, 77, 78, 79, 80, 81, 82, 83, 84, 85, 86, 87, 88, 89, 90] [.int .i64 (i : Int), u, .int .i64 (xs.length : Int), .bool false, .bool false, v, .int .i64 (j : Int), elP v (((j : Int)).toNat * 1), .int .i64 (ys.getD j 0), u, .int .i64 (i : Int), elP u (((i : Int)).toNat * 1), .int .i64 (xs.getD i 0), .bool true, .bool true] (by kernel_rfl) rfl ?_ ?_
      ·
       exact ⟨iaQ rfl (zaj rfl) rfl, iaQ rfl (zaj rfl) rfl, iaQ rfl (lnQ rfl rfl rfl (zaa hu)) rfl, .inl ⟨rfl, zcz (zcd rfl rfl rfl rfl) hb33⟩, iaQ rfl (zaj rfl) rfl, iaQ rfl (zaj rfl) rfl, iaQ rfl (zaj rfl) rfl, iaQ rfl (riQ 1 rfl rfl rfl rfl (zaa hv)) rfl, iaQ rfl (liQ rfl rfl rfl (zaa hv)) rfl, iaQ rfl (zaj rfl) rfl, iaQ rfl (zaj rfl) rfl, iaQ rfl (riQ 1 rfl rfl rfl rfl (zaa hu)) rfl, iaQ rfl (liQ rfl rfl rfl (zaa hu)) rfl, .inl ⟨rfl, zcz (zcd rfl rfl rfl rfl) hb34⟩, iaQ rfl (zaj rfl) rfl, trivial⟩
      simp only [List.drop_succ_cons, List.drop_zero]
      refine enQ 1 rfl ?_
      exact zeq true (fun _ => by first | omega | contradiction) (saQ rfl) (pfQ rfl)
     have hb34p : ¬ (ys.getD j 0 < xs.getD i 0) := of_decide_eq_false hb34
     have hlt5 := hm5 (by assumption)
     refine zbk 15 [[], [], [1], [0, 2], [3], [4], [4], [4, 5, 6], [4, 7], [4], [4], [4, 9, 10], [4, 11], [4, 8, 12], [4, 13]] [76, 77, 78, 79, 80, 81, 82, 83, 84, 85, 86, 87, 88, 89, 90] [.int .i64 (i : Int), u, .int .i64 (xs.length : Int), .bool false, .bool false, v, .int .i64 (j : Int), elP v (((j : Int)).toNat * 1), .int .i64 (ys.getD j 0), u, .int .i64 (i : Int), elP u (((i : Int)).toNat * 1), .int .i64 (xs.getD i 0), .bool false, .bool false] (by kernel_rfl) rfl ?_ ?_
     ·
      exact ⟨iaQ rfl (zaj rfl) rfl, iaQ rfl (zaj rfl) rfl, iaQ rfl (lnQ rfl rfl rfl (zaa hu)) rfl, .inl ⟨rfl, zcz (zcd rfl rfl rfl rfl) hb33⟩, iaQ rfl (zaj rfl) rfl, iaQ rfl (zaj rfl) rfl, iaQ rfl (zaj rfl) rfl, iaQ rfl (riQ 1 rfl rfl rfl rfl (zaa hv)) rfl, iaQ rfl (liQ rfl rfl rfl (zaa hv)) rfl, iaQ rfl (zaj rfl) rfl, iaQ rfl (zaj rfl) rfl, iaQ rfl (riQ 1 rfl rfl rfl rfl (zaa hu)) rfl, iaQ rfl (liQ rfl rfl rfl (zaa hu)) rfl, .inl ⟨rfl, zcz (zcd rfl rfl rfl rfl) hb34⟩, iaQ rfl (zaj rfl) rfl, trivial⟩
     simp only [List.drop_succ_cons, List.drop_zero]
     refine enQ 1 rfl ?_
     exact zeq false (fun _ => by first | omega | contradiction) (saQ rfl) (pfQ rfl)
    intro b7 hm35
    have hm7 := hm35
    refine hc_cond rfl (fun h36 => ?_) (fun h36 => ?_)
    ·
     refine zac (reQ 3 rfl ?_)
     have hlt6 := hm5 (by assumption)
     refine hvQ rfl (riQ 1 rfl rfl rfl rfl (zaa hv)) (hvQ rfl (liQ rfl rfl rfl (zaa hv)) ?_)
     refine zdu rfl (zau (z := .int .i64 0) (s := 1) (cs := ([ys.getD j 0].map (Value.int .i64))) rfl Try.underlying26 rfl (by decide) rfl (by kernel_rfl) rfl) ?_
     intro g37
     refine zcf (i := 1) (z := .int .i64 0) (bytes := 8) rfl rfl rfl rfl Try.underlying26 (by kernel_rfl) rfl rfl rfl rfl (zah 0 rfl) (zbw _) (by first | omega | (simp; done) | (simp; omega)) (zbt os ([ys.getD j 0])) (zcn os ([ys.getD j 0])) (fun _ => rfl) ?_
     intro v38
     refine zbb 1 rfl (reQ 1 rfl (hvQ rfl (vaQ rfl rfl rfl) (enQ 1 rfl (zcm (zcm ?_)))))
     exact zca i (j + 1) v38 (os ++ ([ys.getD j 0])) ⟨by omega, by omega, by rw [List.length_append, List.length_singleton]; omega⟩ (by omega) (saQ rfl) (slQ [1] rfl)
    refine zac (reQ 3 rfl ?_)
    have hlt6 := hm5 (by assumption)
    have hlt7 := hm7 (by assumption)
    refine hvQ rfl (riQ 1 rfl rfl rfl rfl (zaa hu)) (hvQ rfl (liQ rfl rfl rfl (zaa hu)) ?_)
    refine zdu rfl (zau (z := .int .i64 0) (s := 1) (cs := ([xs.getD i 0].map (Value.int .i64))) rfl Try.underlying26 rfl (by decide) rfl (by kernel_rfl) rfl) ?_
    intro g39
    refine zcf (i := 1) (z := .int .i64 0) (bytes := 8) rfl rfl rfl rfl Try.underlying26 (by kernel_rfl) rfl rfl rfl rfl (zah 0 rfl) (zbw _) (by first | omega | (simp; done) | (simp; omega)) (zbt os ([xs.getD i 0])) (zcn os ([xs.getD i 0])) (fun _ => rfl) ?_
    intro v40
    refine zbb 1 rfl (zac (reQ 1 rfl (hvQ rfl (vaQ rfl rfl rfl) (zbb 1 rfl (reQ 1 rfl ?_)))))
    refine hvQ rfl (vaQ rfl rfl rfl) (enQ 1 rfl (zcm (zcm ?_)))
    exact zca (i + 1) (j + 1) v40 (os ++ ([xs.getD i 0])) ⟨by omega, by omega, by rw [List.length_append, List.length_singleton]; omega⟩ (by omega) (saQ rfl) (slQ [1] rfl)
   refine zbb 1 rfl (zaq rfl ?_)
   refine zaz (zdr ?_)
   refine zaf (zax (zbc 3 rfl ?_))
   exact zav (zdp (rs := [.tmp 4, .tmp 5]) (vs := [gu, .bool true]) (post := [rowE 3 1 gu os.length (os.map (Value.int .i64))]) rfl ⟨rfl, rfl, trivial⟩ rfl (pfQ rfl) ⟨_, os, true, rfl, rfl, hol⟩)
  refine zbb 2 rfl (zao rfl (zbc 3 rfl ?_))
  refine zav (zap ?_)
  exact zdp (rs := [.tmp 4, .tmp 5]) (vs := [.slice (some ⟨g1, 0, none⟩) 0 0, .bool false]) (post := [rowE 3 1 (.slice (some ⟨g1, 0, none⟩) 0 0) 0 ([])]) rfl ⟨rfl, rfl, trivial⟩ rfl (pfQ rfl) ⟨_, [], false, rfl, rfl, by simp⟩
 refine zbb 6 rfl (zao rfl (zbc 3 rfl ?_))
 refine zav (zap ?_)
 exact zdp (rs := [.tmp 4, .tmp 5]) (vs := [.slice (some ⟨g1, 0, none⟩) 0 0, .bool false]) (post := [rowE 3 1 (.slice (some ⟨g1, 0, none⟩) 0 0) 0 ([])]) rfl ⟨rfl, rfl, trivial⟩ rfl (pfQ rfl) ⟨_, [], false, rfl, rfl, by simp⟩
theorem l13Add_ret (rs : List CRow) (ux : List Int) (v uv : Value) (w : World) (hv : RdsCl w v rs) (hr4 : ∀ r ∈ rs, r.xs.length ≤ 4) (hrl : rs.length ≤ 1000) (hu : RdsW w uv 1 ux.length (ux.map (Value.int .i64))) (hul : ux.length ≤ 4) :
   Calls Try.prog 106 #[v, uv] w (Ret w (fun u_ p_ => ∃ zs : List CRow, p_ = [rowE 26 1 u_ zs.length (zs.flatMap crowC)] ∧ (∀ z ∈ zs, z = CRow.mk uv ux ∨ z ∈ rs) ∧ zs.length ≤ rs.length + 1)) := by
 refine zbf (N := 51) (args := [v, uv]) Try.func106 rfl rfl (zbc 1 rfl (srQ ?_))
 refine zdu rfl (zcq (s := 1) rfl Try.underlying41 rfl) ?_
 intro g1
 refine zbb 1 rfl (zbc 1 rfl (zac (zac (reQ 1 rfl ?_))))
 refine ntQ (zaw ?_)
 refine lkQ4 (α := Nat) (β := List CRow) (γ := Value) (δ := Nat) [0, 1, 4] rfl (fun i zs gu c => [rowE 26 1 gu zs.length (zs.flatMap crowC)]) (fun i zs gu c => [(5, gu), (6, .bool (decide (c = 1))), (7, .int .i64 (i : Int))]) (fun i zs gu c => i ≤ rs.length ∧ c ≤ 1 ∧ (∀ z ∈ zs, z = CRow.mk uv ux ∨ z ∈ rs) ∧ zs.length ≤ i + c) (fun i zs gu c => rs.length - i) 0 [] _ 0 ⟨Nat.zero_le _, by omega, (fun z hz => by cases hz), by simp⟩ (saQ rfl) (pfQ rfl) ?_
 intro i zs gu c hi2
 obtain ⟨hi, hc, hzm, hzl⟩ := hi2
 refine zac (zac (reQ 2 rfl (hvQ rfl (lnQ rfl rfl rfl (zaa hv.row)) ?_)))
 refine zbh rfl rfl rfl rfl rfl rfl (fun h3 => ?_) (fun h3 => ?_)
 ·
  refine ntQ (zao rfl (zcp (sbQ (zac (zac (reQ 1 rfl ?_))))))
  refine zbl (fun h4 => ?_) (fun h4 => ?_)
  ·
   have h4p : c = 1 := of_decide_eq_true h4
   refine zbb 10 rfl (zaq rfl (zcp (reQ 3 rfl ?_)))
   refine hvQ rfl (riQ 1 rfl rfl rfl rfl (zaa hv.row)) (hvQ rfl (zat (u := (rs.getD i crow0).v) rfl rfl rfl (zaa hv.row) (zbn crowC (fun r => r.v) (fun _ => rfl) rs crow0 (show i < _ by omega))) ?_)
   refine zdu rfl (zeh rfl Try.underlying41 (by kernel_rfl) rfl (hv.at (k := i) (by omega)).one) ?_
   intro g5
   refine zcf (i := 1) (z := .slice none 0 0) (bytes := 24) rfl rfl rfl rfl Try.underlying41 (by kernel_rfl) rfl rfl rfl rfl (zah 0 rfl) (fun q hq => by rw [List.mem_singleton] at hq; subst hq; exact (hv.at (k := i) (by omega)).one) (by first | omega | (simp only [List.length_append, List.length_cons, List.length_nil]; omega)) (zbt zs [(rs.getD i crow0)]) (zcs crowC zs (rs.getD i crow0) _ rfl) (fun _ => rfl) ?_
   intro v6
   refine enQ 1 rfl (zcv (reQ 1 rfl (hvQ rfl (vaQ rfl rfl rfl) (enQ 1 rfl ?_))))
   exact zca (i + 1) (zs ++ [(rs.getD i crow0)]) v6 c ⟨by omega, by omega, (app_mem hzm (.inr (zcj (by omega)))), by simp only [List.length_append, List.length_cons, List.length_nil]; omega⟩ (by omega) (saQ rfl) (slQ [1] rfl)
  have h4p : ¬ c = 1 := of_decide_eq_false h4
  refine zan 4 rfl (hvQ rfl (riQ 1 rfl rfl rfl rfl (zaa hv.row)) ?_)
  refine hvQ rfl (zat (u := (rs.getD i crow0).v) rfl rfl rfl (zaa hv.row) (zbn crowC (fun r => r.v) (fun _ => rfl) rs crow0 (show i < _ by omega))) (zan 1 rfl ?_)
  have h4i := hr4 _ (zcj (es := rs) (i := i) (d := crow0) (by omega))
  refine zdn rfl (zal rfl rfl (fun w hm => zas (CutLessE_ans ((rs.getD i crow0).xs) ux _ _ w ((zaa (hv.at (k := i) (by omega))) w hm) ((zaa hu) w hm) (by omega)))) (zbl (fun h7 => ?_) (fun h7 => ?_))
  ·
   refine zbb 2 rfl (zaq rfl (zcp (reQ 3 rfl (hvQ rfl (riQ 1 rfl rfl rfl rfl (zaa hv.row)) ?_))))
   refine hvQ rfl (zat (u := (rs.getD i crow0).v) rfl rfl rfl (zaa hv.row) (zbn crowC (fun r => r.v) (fun _ => rfl) rs crow0 (show i < _ by omega))) (zdu rfl (zeh rfl Try.underlying41 (by kernel_rfl) rfl (hv.at (k := i) (by omega)).one) ?_)
   intro g8
   refine zcf (i := 1) (z := .slice none 0 0) (bytes := 24) rfl rfl rfl rfl Try.underlying41 (by kernel_rfl) rfl rfl rfl rfl (zah 0 rfl) (fun q hq => by rw [List.mem_singleton] at hq; subst hq; exact (hv.at (k := i) (by omega)).one) (by first | omega | (simp only [List.length_append, List.length_cons, List.length_nil]; omega)) (zbt zs [(rs.getD i crow0)]) (zcs crowC zs (rs.getD i crow0) _ rfl) (fun _ => rfl) ?_
   intro v9
   refine enQ 1 rfl (zcv (reQ 1 rfl (hvQ rfl (vaQ rfl rfl rfl) (enQ 1 rfl ?_))))
   exact zca (i + 1) (zs ++ [(rs.getD i crow0)]) v9 c ⟨by omega, by omega, (app_mem hzm (.inr (zcj (by omega)))), by simp only [List.length_append, List.length_cons, List.length_nil]; omega⟩ (by omega) (saQ rfl) (slQ [1] rfl)
  refine zbb 2 rfl (zao rfl (zbc 1 rfl (zac (reQ 2 rfl ?_))))
  refine zdu rfl (zeh rfl Try.underlying41 (by kernel_rfl) rfl hu.one) ?_
  intro g10
  refine zcf (i := 1) (z := .slice none 0 0) (bytes := 24) rfl rfl rfl rfl Try.underlying41 (by kernel_rfl) rfl rfl rfl rfl (zah 0 rfl) (fun q hq => by rw [List.mem_singleton] at hq; subst hq; exact hu.one) (by first | omega | (simp only [List.length_append, List.length_cons, List.length_nil]; omega)) (zbt zs [(CRow.mk uv ux)]) (zcs crowC zs (CRow.mk uv ux) _ rfl) (fun _ => rfl) ?_
  intro v11
  refine zbb 1 rfl (zac (reQ 3 rfl (hvQ rfl (riQ 1 rfl rfl rfl rfl (zaa hv.row)) ?_)))
  refine hvQ rfl (zat (u := (rs.getD i crow0).v) rfl rfl rfl (zaa hv.row) (zbn crowC (fun r => r.v) (fun _ => rfl) rs crow0 (show i < _ by omega))) (zdn rfl (zal rfl rfl (fun w hm => zas (CutLessE_ans ux ((rs.getD i crow0).xs) _ _ w ((zaa hu) w hm) ((zaa (hv.at (k := i) (by omega))) w hm) (by omega)))) ?_)
  refine zbl (fun h12 => ?_) (fun h12 => ?_)
  ·
   refine zbb 1 rfl (zaq rfl (zcp (reQ 3 rfl (hvQ rfl (riQ 1 rfl rfl rfl rfl (zaa hv.row)) ?_))))
   refine hvQ rfl (zat (u := (rs.getD i crow0).v) rfl rfl rfl (zaa hv.row) (zbn crowC (fun r => r.v) (fun _ => rfl) rs crow0 (show i < _ by omega))) (zdu rfl (zeh rfl Try.underlying41 (by kernel_rfl) rfl (hv.at (k := i) (by omega)).one) ?_)
   intro g13
   refine zcf (i := 2) (z := .slice none 0 0) (bytes := 24) rfl rfl rfl rfl Try.underlying41 (by kernel_rfl) rfl rfl rfl rfl (zah 0 rfl) (fun q hq => by rw [List.mem_singleton] at hq; subst hq; exact (hv.at (k := i) (by omega)).one) (by first | omega | (simp only [List.length_append, List.length_cons, List.length_nil]; omega)) (zbt (zs ++ [(CRow.mk uv ux)]) [(rs.getD i crow0)]) (zcs crowC (zs ++ [(CRow.mk uv ux)]) (rs.getD i crow0) _ rfl) (fun _ => rfl) ?_
   intro v14
   refine enQ 1 rfl (zcv (reQ 1 rfl (hvQ rfl (vaQ rfl rfl rfl) (enQ 1 rfl ?_))))
   exact zca (i + 1) ((zs ++ [(CRow.mk uv ux)]) ++ [(rs.getD i crow0)]) v14 1 ⟨by omega, by omega, (app_mem (app_mem hzm (.inl rfl)) (.inr (zcj (by omega)))), by simp only [List.length_append, List.length_cons, List.length_nil]; omega⟩ (by omega) (saQ rfl) (slQ [2] rfl)
  refine zbb 1 rfl (zao rfl ?_)
  refine zaz (zeg ?_)
  refine zaf (zax (reQ 1 rfl (hvQ rfl (vaQ rfl rfl rfl) (enQ 1 rfl ?_))))
  exact zca (i + 1) (zs ++ [(CRow.mk uv ux)]) v11 1 ⟨by omega, by omega, (app_mem hzm (.inl rfl)), by simp only [List.length_append, List.length_cons, List.length_nil]; omega⟩ (by omega) (saQ rfl) (slQ [1] rfl)
 refine ntQ (zaq rfl ?_)
 refine zaz (zdr ?_)
 refine zaf (zax (zac (zac (reQ 1 rfl ?_))))
 refine zbl (fun h15 => ?_) (fun h15 => ?_)
 ·
  have h15p : c = 1 := of_decide_eq_true h15
  refine zbb 1 rfl (zaq rfl (zcp (zbc 2 rfl ?_)))
  exact zav (zdc (post := [rowE 26 1 gu zs.length (zs.flatMap crowC)]) rfl rfl (pfQ rfl) ⟨_, rfl, hzm, by omega⟩)
 have h15p : ¬ c = 1 := of_decide_eq_false h15
 refine zbb 1 rfl (zao rfl (reQ 2 rfl ?_))
 refine zdu rfl (zeh rfl Try.underlying41 (by kernel_rfl) rfl hu.one) ?_
 intro g16
 refine zcf (i := 1) (z := .slice none 0 0) (bytes := 24) rfl rfl rfl rfl Try.underlying41 (by kernel_rfl) rfl rfl rfl rfl (zah 0 rfl) (fun q hq => by rw [List.mem_singleton] at hq; subst hq; exact hu.one) (by first | omega | (simp only [List.length_append, List.length_cons, List.length_nil]; omega)) (zbt zs [(CRow.mk uv ux)]) (zcs crowC zs (CRow.mk uv ux) _ rfl) (fun _ => rfl) ?_
 intro v17
 refine zbb 1 rfl (zbc 2 rfl ?_)
 exact zav (zdc (post := [rowE 26 1 v17 ((zs ++ [(CRow.mk uv ux)]).length) ((zs ++ [(CRow.mk uv ux)]).flatMap crowC)]) rfl rfl (slQ [1] rfl) ⟨_, rfl, (app_mem hzm (.inl rfl)), by simp only [List.length_append, List.length_cons, List.length_nil]; omega⟩)
theorem l13Join_ret (ca cb : List CRow) (u v : Value) (w : World) (ha : RdsCl w u ca) (hb : RdsCl w v cb) (h4a : ∀ r ∈ ca, r.xs.length ≤ 4) (h4b : ∀ r ∈ cb, r.xs.length ≤ 4) (ha8 : ca.length ≤ 8) (hb8 : cb.length ≤ 8) :
   Calls Try.prog 102 #[u, v] w (Ret w (fun u_ p_ => ∃ (ps : List HP) (us : List CRow), p_ = [rowE 26 1 u_ us.length (us.flatMap crowC), bigE ps] ∧ (∀ w, (bigE ps).holds w → RdsAll w us) ∧ us.length ≤ 7 ∧ ∀ r ∈ us, r.xs.length ≤ 4)) := by
 refine zbf (N := 95) (args := [u, v]) Try.func102 rfl rfl (zbc 1 rfl (srQ ?_))
 refine zdu rfl (zcq (s := 1) rfl Try.underlying41 rfl) ?_
 intro g1
 refine zbb 1 rfl (zac (zbc 1 rfl (zaw ?_)))
 refine zdo _ zfx ?_
 refine lkQ4 (α := Nat) (β := List CRow) (γ := Value) (δ := List HP) [0, 1, 4] rfl (fun i rs lv ps => [bigE ps, rowE 26 1 lv rs.length (rs.flatMap crowC)]) (fun i rs lv ps => [(5, lv), (6, .int .i64 (i : Int))]) (fun i rs lv ps => i ≤ ca.length ∧ rs.length ≤ i * cb.length + 0 ∧ (∀ r ∈ rs, r.xs.length ≤ 4) ∧ ∀ w, (bigE ps).holds w → RdsAll w rs) (fun i rs lv ps => ca.length - i) 0 [] _ [] ⟨Nat.zero_le _, by simp, (fun r hr => by cases hr), fun w _ => RdsAll.nil w⟩ (saQ rfl) (pfQ rfl) ?_
 intro i rs lv ps hi2
 obtain ⟨hi, hrl, h4, hps⟩ := hi2
 have hrs := mul_small hrl (by omega) (by omega) (by omega)
 refine zac (zac (reQ 2 rfl (hvQ rfl (lnQ rfl rfl rfl (zaa ha.row)) ?_)))
 refine zbh rfl rfl rfl rfl rfl rfl (fun h3 => ?_) (fun h3 => ?_)
 ·
  refine ntQ (zao rfl (zcp (sbQ (zbc 1 rfl ?_))))
  refine zaw ?_
  refine lkQ4 (α := Nat) (β := List CRow) (γ := Value) (δ := List HP) [0, 1, 4, 6, 18] rfl (fun j rs2 lv2 ps2 => [bigE ps2, rowE 26 1 lv2 rs2.length (rs2.flatMap crowC)]) (fun j rs2 lv2 ps2 => [(5, lv2), (7, .int .i64 (j : Int))]) (fun j rs2 lv2 ps2 => j ≤ cb.length ∧ rs2.length ≤ i * cb.length + j ∧ (∀ r ∈ rs2, r.xs.length ≤ 4) ∧ ∀ w, (bigE ps2).holds w → RdsAll w rs2) (fun j rs2 lv2 ps2 => cb.length - j) 0 rs _ _ ⟨Nat.zero_le _, hrl, h4, hps⟩ (saQ rfl) (pfQ rfl) ?_
  intro j rs2 lv2 ps2 hi4
  obtain ⟨hj, hrl2, h42, hps2⟩ := hi4
  have hrs2 := mul_small hrl2 (by omega) (by omega) (by omega)
  refine zac (zac (reQ 2 rfl (hvQ rfl (lnQ rfl rfl rfl (zaa hb.row)) ?_)))
  refine zbh rfl rfl rfl rfl rfl rfl (fun h5 => ?_) (fun h5 => ?_)
  ·
   refine ntQ (zao rfl (zcp (sbQ (zac ?_))))
   have h4i := h4a _ (zcj (es := ca) (i := i) (d := crow0) (by omega))
   have h4j := h4b _ (zcj (es := cb) (i := j) (d := crow0) (by omega))
   refine zdq rfl 13 [0, 1, 2, 3, 4, 5, 6, 7, 8, 9, 10, 11, 12] (List.take 13 _) (List.drop 13 _) [[], [], [0, 1], [2], [], [], [4, 5], [6], [3, 7], [8], [8, 9], [8, 9], [8, 10]] [28, 29, 30, 31, 32, 33, 34, 35, 36, 27, 37, 38, 8] (fun i_ vs_ v_ p_ => match i_ with | 0 => v_ = u ∧ p_ = [] | 1 => v_ = .int .i64 (i : Int) ∧ p_ = [] | 2 => v_ = elP u (((i : Int)).toNat * 1) ∧ p_ = [] | 3 => v_ = (ca.getD i crow0).v ∧ p_ = [] | 4 => v_ = v ∧ p_ = [] | 5 => v_ = .int .i64 (j : Int) ∧ p_ = [] | 6 => v_ = elP v (((j : Int)).toNat * 1) ∧ p_ = [] | 7 => v_ = (cb.getD j crow0).v ∧ p_ = [] | 8 => (fun u_ p_ => ∃ (mv : Value) (us : List Int) (mb : Bool), u_ = .tuple #[mv, .bool mb] ∧ p_ = [rowE 3 1 mv us.length (us.map (Value.int .i64))] ∧ us.length ≤ 4) v_ p_ | 9 => v_ = .tuple #[(tFstH (List.getD vs_ 0 undef)), .bool (tSndB (List.getD vs_ 0 undef))] ∧ p_ = [] | 10 => v_ = (tFstH (List.getD vs_ 0 undef)) ∧ p_ = [] | 11 => v_ = .bool (tSndB (List.getD vs_ 0 undef)) ∧ p_ = [] | 12 => v_ = (tFstH (List.getD vs_ 0 undef)) ∧ p_ = [] | _ => True) (List.take_append_drop 13 _).symm (by kernel_rfl) (by kernel_rfl) rfl rfl ?_ ?_
   ·
    refine ⟨?_, ?_, ?_, ?_, ?_, ?_, ?_, ?_, ?_, ?_, ?_, ?_, ?_, trivial⟩
    ·
     intro vf pf hR
     exact ovQ rfl (zai [0] rfl) (zbd (zaj rfl))
    ·
     intro vf pf hR
     exact ovQ rfl (zai [6] rfl) (zbd (zaj rfl))
    ·
     intro vf pf hR
     have e0 := hR 0 (by decide)
     have e1 := hR 1 (by decide)
     exact olQ rfl (sk 28 (congrArg some e0.1) (sk 29 (congrArg some e1.1) (zab _))) (zbd (riQ 1 rfl rfl rfl rfl (zaa ha.row)))
    ·
     intro vf pf hR
     have e2 := hR 2 (by decide)
     exact olQ rfl (sk 30 (congrArg some e2.1) (zab _)) (zbd (zat (u := (ca.getD i crow0).v) rfl rfl rfl (zaa ha.row) (zbn crowC (fun r => r.v) (fun _ => rfl) ca crow0 (show i < _ by omega))))
    ·
     intro vf pf hR
     exact ovQ rfl (zai [1] rfl) (zbd (zaj rfl))
    ·
     intro vf pf hR
     exact ovQ rfl (zai [7] rfl) (zbd (zaj rfl))
    ·
     intro vf pf hR
     have e4 := hR 4 (by decide)
     have e5 := hR 5 (by decide)
     exact olQ rfl (sk 32 (congrArg some e4.1) (sk 33 (congrArg some e5.1) (zab _))) (zbd (riQ 1 rfl rfl rfl rfl (zaa hb.row)))
    ·
     intro vf pf hR
     have e6 := hR 6 (by decide)
     exact olQ rfl (sk 34 (congrArg some e6.1) (zab _)) (zbd (zat (u := (cb.getD j crow0).v) rfl rfl rfl (zaa hb.row) (zbn crowC (fun r => r.v) (fun _ => rfl) cb crow0 (show j < _ by omega))))
    ·
     intro vf pf hR
     have e3 := hR 3 (by decide)
     have e7 := hR 7 (by decide)
     exact olQ rfl (sk 31 (congrArg some e3.1) (sk 35 (congrArg some e7.1) (zab _))) (zal rfl rfl (fun w hm => MergeE_ret (ca.getD i crow0).xs (cb.getD j crow0).xs _ _ w ((ha.at (k := i) (by omega)).below hm.bel) ((hb.at (k := j) (by omega)).below hm.bel) (by omega) (by omega)))
    ·
     intro vf pf hR
     have e8 : (fun u_ p_ => ∃ (mv : Value) (us : List Int) (mb : Bool), u_ = .tuple #[mv, .bool mb] ∧ p_ = [rowE 3 1 mv us.length (us.map (Value.int .i64))] ∧ us.length ≤ 4) (vf 8) (pf 8) := hR 8 (by decide)
     obtain ⟨v6, vE8⟩ : ∃ x, vf 8 = x := ⟨_, rfl⟩
     obtain ⟨p7, pE8⟩ : ∃ x, pf 8 = x := ⟨_, rfl⟩
     have hR8 := e8
     rw [vE8, pE8] at hR8
     obtain ⟨mv, us, mb, rfl, rfl, hul⟩ := hR8
     refine Or.inl ⟨rfl, ?_⟩
     exact zcc (sk 36 (congrArg some vE8) (zab _)) (by simp only [pE8, vE8, fS] <;> rfl) (zco (zbd (zaj rfl)) (fun _ _ h => ⟨h.1.trans (by show _ = (.tuple #[(tFstH (vf 8)), .bool (tSndB (vf 8))] : Value); first | (rw [vE8]; done) | (rw [vE8]; rfl)), h.2⟩))
    ·
     intro vf pf hR
     have e8 : (fun u_ p_ => ∃ (mv : Value) (us : List Int) (mb : Bool), u_ = .tuple #[mv, .bool mb] ∧ p_ = [rowE 3 1 mv us.length (us.map (Value.int .i64))] ∧ us.length ≤ 4) (vf 8) (pf 8) := hR 8 (by decide)
     obtain ⟨v6, vE8⟩ : ∃ x, vf 8 = x := ⟨_, rfl⟩
     obtain ⟨p7, pE8⟩ : ∃ x, pf 8 = x := ⟨_, rfl⟩
     have hR8 := e8
     rw [vE8, pE8] at hR8
     obtain ⟨mv, us, mb, rfl, rfl, hul⟩ := hR8
     have e9 : (vf 9) = .tuple #[(tFstH (vf 8)), .bool (tSndB (vf 8))] ∧ (pf 9) = [] := hR 9 (by decide)
     rw [vE8] at e9
     refine Or.inl ⟨rfl, ?_⟩
     exact zcc (sk 27 (congrArg some e9.1) (zab _)) (by simp only [pE8, vE8, e9.2, fS] <;> rfl) (zco (zbd (zaj rfl)) (fun _ _ h => ⟨h.1.trans (by show _ = ((tFstH (vf 8)) : Value); first | (rw [vE8]; done) | (rw [vE8]; rfl)), h.2⟩))
    ·
     intro vf pf hR
     have e8 : (fun u_ p_ => ∃ (mv : Value) (us : List Int) (mb : Bool), u_ = .tuple #[mv, .bool mb] ∧ p_ = [rowE 3 1 mv us.length (us.map (Value.int .i64))] ∧ us.length ≤ 4) (vf 8) (pf 8) := hR 8 (by decide)
     obtain ⟨v6, vE8⟩ : ∃ x, vf 8 = x := ⟨_, rfl⟩
     obtain ⟨p7, pE8⟩ : ∃ x, pf 8 = x := ⟨_, rfl⟩
     have hR8 := e8
     rw [vE8, pE8] at hR8
     obtain ⟨mv, us, mb, rfl, rfl, hul⟩ := hR8
     have e9 : (vf 9) = .tuple #[(tFstH (vf 8)), .bool (tSndB (vf 8))] ∧ (pf 9) = [] := hR 9 (by decide)
     rw [vE8] at e9
     refine Or.inl ⟨rfl, ?_⟩
     exact zcc (sk 27 (congrArg some e9.1) (zab _)) (by simp only [pE8, vE8, e9.2, fS] <;> rfl) (zco (zbd (zaj rfl)) (fun _ _ h => ⟨h.1.trans (by show _ = (.bool (tSndB (vf 8)) : Value); first | (rw [vE8]; done) | (rw [vE8]; rfl)), h.2⟩))
    intro vf pf hR
    have e8 : (fun u_ p_ => ∃ (mv : Value) (us : List Int) (mb : Bool), u_ = .tuple #[mv, .bool mb] ∧ p_ = [rowE 3 1 mv us.length (us.map (Value.int .i64))] ∧ us.length ≤ 4) (vf 8) (pf 8) := hR 8 (by decide)
    obtain ⟨v6, vE8⟩ : ∃ x, vf 8 = x := ⟨_, rfl⟩
    obtain ⟨p7, pE8⟩ : ∃ x, pf 8 = x := ⟨_, rfl⟩
    have hR8 := e8
    rw [vE8, pE8] at hR8
    obtain ⟨mv, us, mb, rfl, rfl, hul⟩ := hR8
    have e10 : (vf 10) = (tFstH (vf 8)) ∧ (pf 10) = [] := hR 10 (by decide)
    rw [vE8] at e10
    refine Or.inl ⟨rfl, ?_⟩
    exact zcc (sk 37 (congrArg some e10.1) (zab _)) (by simp only [pE8, vE8, e10.2, fS] <;> rfl) (zco (zbd (zaj rfl)) (fun _ _ h => ⟨h.1.trans (by show _ = ((tFstH (vf 8)) : Value); first | (rw [vE8]; done) | (rw [vE8]; rfl)), h.2⟩))
   intro vf pf hR
   have e8 : (fun u_ p_ => ∃ (mv : Value) (us : List Int) (mb : Bool), u_ = .tuple #[mv, .bool mb] ∧ p_ = [rowE 3 1 mv us.length (us.map (Value.int .i64))] ∧ us.length ≤ 4) (vf 8) (pf 8) := hR 8 (by decide)
   obtain ⟨v6, vE8⟩ : ∃ x, vf 8 = x := ⟨_, rfl⟩
   obtain ⟨p7, pE8⟩ : ∃ x, pf 8 = x := ⟨_, rfl⟩
   have hR8 := e8
   rw [vE8, pE8] at hR8
   obtain ⟨mv, us, mb, rfl, rfl, hul⟩ := hR8
   have e11 : (vf 11) = .bool (tSndB (vf 8)) ∧ (pf 11) = [] := hR 11 (by decide)
   rw [vE8] at e11
   have e12 : (vf 12) = (tFstH (vf 8)) ∧ (pf 12) = [] := hR 12 (by decide)
   rw [vE8] at e12
   have q0 := hR 0 (by decide)
   have q1 := hR 1 (by decide)
   have q2 := hR 2 (by decide)
   have q3 := hR 3 (by decide)
   have q4 := hR 4 (by decide)
   have q5 := hR 5 (by decide)
   have q6 := hR 6 (by decide)
   have q7 := hR 7 (by decide)
   have q9 := hR 9 (by decide)
   have q10 := hR 10 (by decide)
   have q11 := hR 11 (by decide)
   have q12 := hR 12 (by decide)
   refine zce (zbe [7, 6, 5, 4, 1, 0] _ (sk 8 (congrArg some e12.1) (sk 18 rfl (sk 24 rfl (sk 38 (congrArg some e11.1) (zab _))))) rfl) (by simp only [pE8, vE8, q0.2, q1.2, q2.2, q3.2, q4.2, q5.2, q6.2, q7.2, q9.2, q10.2, q11.2, q12.2, fS] <;> rfl) ?_
   simp only [List.drop_succ_cons, List.drop_zero]
   refine zbb 1 rfl (zbc 1 rfl ?_)
   refine hc_cond rfl (fun h9 => ?_) (fun h9 => ?_)
   ·
    refine reQ 2 rfl ?_
    refine hl_q rfl rfl rfl (zal rfl rfl (fun w hm => l13Add_ret rs2 us _ _ w ⟨zah 2 rfl w hm, hps2 w (hm.holds _ (zby (i := 1) rfl))⟩ h42 (by omega) (zah 0 rfl w hm) hul)) ?_
    intro v10 p11 hR12
    obtain ⟨zs, rfl, hzm, hzl⟩ := hR12
    refine enQ 1 rfl (zcv (reQ 1 rfl (hvQ rfl (vaQ rfl rfl rfl) (enQ 1 rfl ?_))))
    refine zbo 4 [0, 1, 2] rfl rfl (by decide) ?_
    refine zcx 2 rfl ?_
    exact zca (j + 1) zs v10 [bigE ps2, rowE 3 1 mv us.length (us.map (Value.int .i64))] ⟨by omega, by omega, four_cons h42 hul hzm, fun w hw => RdsAll.cons (u := CRow.mk mv us) (hps2 w (zba hw List.mem_cons_self)) (zbp (zba hw (List.mem_cons_of_mem _ List.mem_cons_self))) hzm⟩ (by omega) (saQ rfl) (pfQ rfl)
   refine zgs (zcv (reQ 1 rfl (hvQ rfl (vaQ rfl rfl rfl) (enQ 1 rfl ?_))))
   exact zca (j + 1) rs2 lv2 ps2 ⟨by omega, by omega, h42, hps2⟩ (by omega) (saQ rfl) (slQ [1, 0] rfl)
  refine ntQ (zaq rfl ?_)
  refine zaz (zdr ?_)
  refine zaf (zcv (reQ 1 rfl (hvQ rfl (vaQ rfl rfl rfl) (enQ 1 rfl ?_))))
  exact zca (i + 1) rs2 lv2 ps2 ⟨by omega, by rw [Nat.add_mul]; omega, h42, hps2⟩ (by omega) (saQ rfl) (pfQ rfl)
 refine ntQ (zaq rfl ?_)
 refine zaz (zdr ?_)
 refine zaf (zax (srQ ?_))
 refine zdu rfl (zcq (s := 1) rfl Try.underlying41 rfl) ?_
 intro g13
 refine zbb 1 rfl (zac (zbc 1 rfl (zaw ?_)))
 refine lkQ3 (α := Nat) (β := List CRow) (γ := Value) [0, 1, 4, 5, 18] rfl (fun i2 qs ov => [rowE 26 1 ov qs.length (qs.flatMap crowC), bigE ps, rowE 26 1 lv rs.length (rs.flatMap crowC)]) (fun i2 qs ov => [(10, ov), (11, .int .i64 (i2 : Int))]) (fun i2 qs ov => i2 ≤ rs.length ∧ qs.length ≤ 7 ∧ ∀ q ∈ qs, q ∈ rs) (fun i2 qs ov => rs.length - i2) 0 [] _ ⟨Nat.zero_le _, by simp, fun q hq => by cases hq⟩ (saQ rfl) (pfQ rfl) ?_
 intro i2 qs ov hi14
 obtain ⟨hi2, hql, hqm⟩ := hi14
 refine zac (zac (reQ 2 rfl (hvQ rfl (lnQ rfl rfl rfl (zah 2 rfl)) ?_)))
 refine zbh rfl rfl rfl rfl rfl rfl (fun h15 => ?_) (fun h15 => ?_)
 ·
  refine zan 2 rfl (hvQ rfl (lnQ rfl rfl rfl (zah 0 rfl)) ?_)
  refine zbh rfl rfl rfl rfl rfl rfl (fun h16 => ?_) (fun h16 => ?_)
  ·
   refine zbb 1 rfl (zao rfl (zcp (sbQ (srQ (enQ 1 rfl ?_)))))
   refine zax (zac (zbc 1 rfl (zaw ?_)))
   refine lkQ2 (α := Nat) (β := Bool) [0, 1, 4, 5, 10, 11, 18, 52] rfl (fun k2 wh => [rowE 26 1 ov qs.length (qs.flatMap crowC), bigE ps, rowE 26 1 lv rs.length (rs.flatMap crowC)]) (fun k2 wh => [(12, .bool wh), (13, .int .i64 (k2 : Int))]) (fun k2 wh => k2 ≤ i2) (fun k2 wh => i2 - k2) 0 true (Nat.zero_le _) (saQ rfl) (pfQ rfl) ?_
   intro k2 wh hi17
   have hk2 := hi17
   refine zac (zac (reQ 2 rfl ?_))
   refine zbh rfl rfl rfl rfl rfl rfl (fun h18 => ?_) (fun h18 => ?_)
   ·
    refine zan 2 rfl (zbl (fun h19 => ?_) (fun h19 => ?_))
    ·
     refine zbb 1 rfl (zao rfl (zcp (sbQ ?_)))
     have h4i := h4 _ (zcj (es := rs) (i := i2) (d := crow0) (by omega))
     have h4k := h4 _ (zcj (es := rs) (i := k2) (d := crow0) (by omega))
     rcases Bool.eq_false_or_eq_true (decide ((((rs.getD k2 crow0).xs).length : Int) < (((rs.getD i2 crow0).xs).length : Int))) with hb20 | hb20
     ·
      have hb20p : (((rs.getD k2 crow0).xs).length : Int) < (((rs.getD i2 crow0).xs).length : Int) := of_decide_eq_true hb20
      have h4i := h4 _ (zcj (es := rs) (i := i2) (d := crow0) (by omega))
      have h4k := h4 _ (zcj (es := rs) (i := k2) (d := crow0) (by omega))
      rcases Bool.eq_false_or_eq_true (List.all ((rs.getD k2 crow0).xs) (hasB ((rs.getD i2 crow0).xs))) with hb21 | hb21
      ·
       have h4i := h4 _ (zcj (es := rs) (i := i2) (d := crow0) (by omega))
       have h4k := h4 _ (zcj (es := rs) (i := k2) (d := crow0) (by omega))
       refine zbk 23 [[], [], [0, 1], [2], [3], [], [], [5, 6], [7], [8], [4, 9], [10], [11], [11], [11, 12, 13], [11, 14], [11], [11], [11, 16, 17], [11, 18], [11, 15, 19], [11, 20], [21]] [63, 64, 65, 66, 67, 68, 69, 70, 71, 72, 73, 74, 75, 76, 77, 78, 79, 80, 81, 82, 83, 84, 85] [lv, .int .i64 (k2 : Int), elP lv (((k2 : Int)).toNat * 1), (rs.getD k2 crow0).v, .int .i64 (((rs.getD k2 crow0).xs).length : Int), lv, .int .i64 (i2 : Int), elP lv (((i2 : Int)).toNat * 1), (rs.getD i2 crow0).v, .int .i64 (((rs.getD i2 crow0).xs).length : Int), .bool true, .bool true, lv, .int .i64 (k2 : Int), elP lv (((k2 : Int)).toNat * 1), (rs.getD k2 crow0).v, lv, .int .i64 (i2 : Int), elP lv (((i2 : Int)).toNat * 1), (rs.getD i2 crow0).v, .bool true, .bool true, .bool false] (by kernel_rfl) rfl ?_ ?_
       ·
        exact ⟨iaQ rfl (zaj rfl) rfl, iaQ rfl (zaj rfl) rfl, iaQ rfl (riQ 1 rfl rfl rfl rfl (zah 2 rfl)) rfl, iaQ rfl (zat (u := (rs.getD k2 crow0).v) rfl rfl rfl (zah 2 rfl) (zbn crowC (fun r => r.v) (fun _ => rfl) rs crow0 (show k2 < _ by omega))) rfl, iaQ rfl (lnQ rfl rfl rfl (fun w hm => ((hps w (hm.holds _ (zby (i := 1) rfl))).at (k := k2) (by omega)))) rfl, iaQ rfl (zaj rfl) rfl, iaQ rfl (zaj rfl) rfl, iaQ rfl (riQ 1 rfl rfl rfl rfl (zah 2 rfl)) rfl, iaQ rfl (zat (u := (rs.getD i2 crow0).v) rfl rfl rfl (zah 2 rfl) (zbn crowC (fun r => r.v) (fun _ => rfl) rs crow0 (show i2 < _ by omega))) rfl, iaQ rfl (lnQ rfl rfl rfl (fun w hm => ((hps w (hm.holds _ (zby (i := 1) rfl))).at (k := i2) (by omega)))) rfl, .inl ⟨rfl, zcz (zcd rfl rfl rfl rfl) hb20⟩, iaQ rfl (zaj rfl) rfl, iaQ rfl (zaj rfl) rfl, iaQ rfl (zaj rfl) rfl, iaQ rfl (riQ 1 rfl rfl rfl rfl (zah 2 rfl)) rfl, iaQ rfl (zat (u := (rs.getD k2 crow0).v) rfl rfl rfl (zah 2 rfl) (zbn crowC (fun r => r.v) (fun _ => rfl) rs crow0 (show k2 < _ by omega))) rfl, iaQ rfl (zaj rfl) rfl, iaQ rfl (zaj rfl) rfl, iaQ rfl (riQ 1 rfl rfl rfl rfl (zah 2 rfl)) rfl, iaQ rfl (zat (u := (rs.getD i2 crow0).v) rfl rfl rfl (zah 2 rfl) (zbn crowC (fun r => r.v) (fun _ => rfl) rs crow0 (show i2 < _ by omega))) rfl, .inl ⟨rfl, zfq (zal rfl rfl (fun w hm => zas (l13Within_ans ((rs.getD k2 crow0).xs) ((rs.getD i2 crow0).xs) _ _ w ((fun w hm => ((hps w (hm.holds _ (zby (i := 1) rfl))).at (k := k2) (by omega))) w hm) ((fun w hm => ((hps w (hm.holds _ (zby (i := 1) rfl))).at (k := i2) (by omega))) w hm) (by omega)))) hb21⟩, iaQ rfl (zaj rfl) rfl, iaQ rfl (zaj rfl) rfl, trivial⟩
       simp only [List.drop_succ_cons, List.drop_zero]
       refine enQ 1 rfl (zcv (reQ 1 rfl (hvQ rfl (vaQ rfl rfl rfl) (enQ 1 rfl ?_))))
       exact zbv (k2 + 1) false (by omega) (by omega) (saQ rfl) (pfQ rfl)
      have h4i := h4 _ (zcj (es := rs) (i := i2) (d := crow0) (by omega))
      have h4k := h4 _ (zcj (es := rs) (i := k2) (d := crow0) (by omega))
      refine zbk 23 [[], [], [0, 1], [2], [3], [], [], [5, 6], [7], [8], [4, 9], [10], [11], [11], [11, 12, 13], [11, 14], [11], [11], [11, 16, 17], [11, 18], [11, 15, 19], [11, 20], [21]] [63, 64, 65, 66, 67, 68, 69, 70, 71, 72, 73, 74, 75, 76, 77, 78, 79, 80, 81, 82, 83, 84, 85] [lv, .int .i64 (k2 : Int), elP lv (((k2 : Int)).toNat * 1), (rs.getD k2 crow0).v, .int .i64 (((rs.getD k2 crow0).xs).length : Int), lv, .int .i64 (i2 : Int), elP lv (((i2 : Int)).toNat * 1), (rs.getD i2 crow0).v, .int .i64 (((rs.getD i2 crow0).xs).length : Int), .bool true, .bool true, lv, .int .i64 (k2 : Int), elP lv (((k2 : Int)).toNat * 1), (rs.getD k2 crow0).v, lv, .int .i64 (i2 : Int), elP lv (((i2 : Int)).toNat * 1), (rs.getD i2 crow0).v, .bool false, .bool false, .bool true] (by kernel_rfl) rfl ?_ ?_
      ·
       exact ⟨iaQ rfl (zaj rfl) rfl, iaQ rfl (zaj rfl) rfl, iaQ rfl (riQ 1 rfl rfl rfl rfl (zah 2 rfl)) rfl, iaQ rfl (zat (u := (rs.getD k2 crow0).v) rfl rfl rfl (zah 2 rfl) (zbn crowC (fun r => r.v) (fun _ => rfl) rs crow0 (show k2 < _ by omega))) rfl, iaQ rfl (lnQ rfl rfl rfl (fun w hm => ((hps w (hm.holds _ (zby (i := 1) rfl))).at (k := k2) (by omega)))) rfl, iaQ rfl (zaj rfl) rfl, iaQ rfl (zaj rfl) rfl, iaQ rfl (riQ 1 rfl rfl rfl rfl (zah 2 rfl)) rfl, iaQ rfl (zat (u := (rs.getD i2 crow0).v) rfl rfl rfl (zah 2 rfl) (zbn crowC (fun r => r.v) (fun _ => rfl) rs crow0 (show i2 < _ by omega))) rfl, iaQ rfl (lnQ rfl rfl rfl (fun w hm => ((hps w (hm.holds _ (zby (i := 1) rfl))).at (k := i2) (by omega)))) rfl, .inl ⟨rfl, zcz (zcd rfl rfl rfl rfl) hb20⟩, iaQ rfl (zaj rfl) rfl, iaQ rfl (zaj rfl) rfl, iaQ rfl (zaj rfl) rfl, iaQ rfl (riQ 1 rfl rfl rfl rfl (zah 2 rfl)) rfl, iaQ rfl (zat (u := (rs.getD k2 crow0).v) rfl rfl rfl (zah 2 rfl) (zbn crowC (fun r => r.v) (fun _ => rfl) rs crow0 (show k2 < _ by omega))) rfl, iaQ rfl (zaj rfl) rfl, iaQ rfl (zaj rfl) rfl, iaQ rfl (riQ 1 rfl rfl rfl rfl (zah 2 rfl)) rfl, iaQ rfl (zat (u := (rs.getD i2 crow0).v) rfl rfl rfl (zah 2 rfl) (zbn crowC (fun r => r.v) (fun _ => rfl) rs crow0 (show i2 < _ by omega))) rfl, .inl ⟨rfl, zfq (zal rfl rfl (fun w hm => zas (l13Within_ans ((rs.getD k2 crow0).xs) ((rs.getD i2 crow0).xs) _ _ w ((fun w hm => ((hps w (hm.holds _ (zby (i := 1) rfl))).at (k := k2) (by omega))) w hm) ((fun w hm => ((hps w (hm.holds _ (zby (i := 1) rfl))).at (k := i2) (by omega))) w hm) (by omega)))) hb21⟩, iaQ rfl (zaj rfl) rfl, iaQ rfl (zaj rfl) rfl, trivial⟩
      simp only [List.drop_succ_cons, List.drop_zero]
      refine enQ 1 rfl (zcv (reQ 1 rfl (hvQ rfl (vaQ rfl rfl rfl) (enQ 1 rfl ?_))))
      exact zbv (k2 + 1) true (by omega) (by omega) (saQ rfl) (pfQ rfl)
     have hb20p : ¬ ((((rs.getD k2 crow0).xs).length : Int) < (((rs.getD i2 crow0).xs).length : Int)) := of_decide_eq_false hb20
     have h4i := h4 _ (zcj (es := rs) (i := i2) (d := crow0) (by omega))
     have h4k := h4 _ (zcj (es := rs) (i := k2) (d := crow0) (by omega))
     refine zbk 23 [[], [], [0, 1], [2], [3], [], [], [5, 6], [7], [8], [4, 9], [10], [11], [11], [11], [11], [11], [11], [11], [11], [11], [11, 20], [21]] [63, 64, 65, 66, 67, 68, 69, 70, 71, 72, 73, 74, 75, 76, 77, 78, 79, 80, 81, 82, 83, 84, 85] [lv, .int .i64 (k2 : Int), elP lv (((k2 : Int)).toNat * 1), (rs.getD k2 crow0).v, .int .i64 (((rs.getD k2 crow0).xs).length : Int), lv, .int .i64 (i2 : Int), elP lv (((i2 : Int)).toNat * 1), (rs.getD i2 crow0).v, .int .i64 (((rs.getD i2 crow0).xs).length : Int), .bool false, .bool false, undef, undef, undef, undef, undef, undef, undef, undef, undef, .bool false, .bool true] (by kernel_rfl) rfl ?_ ?_
     ·
      exact ⟨iaQ rfl (zaj rfl) rfl, iaQ rfl (zaj rfl) rfl, iaQ rfl (riQ 1 rfl rfl rfl rfl (zah 2 rfl)) rfl, iaQ rfl (zat (u := (rs.getD k2 crow0).v) rfl rfl rfl (zah 2 rfl) (zbn crowC (fun r => r.v) (fun _ => rfl) rs crow0 (show k2 < _ by omega))) rfl, iaQ rfl (lnQ rfl rfl rfl (fun w hm => ((hps w (hm.holds _ (zby (i := 1) rfl))).at (k := k2) (by omega)))) rfl, iaQ rfl (zaj rfl) rfl, iaQ rfl (zaj rfl) rfl, iaQ rfl (riQ 1 rfl rfl rfl rfl (zah 2 rfl)) rfl, iaQ rfl (zat (u := (rs.getD i2 crow0).v) rfl rfl rfl (zah 2 rfl) (zbn crowC (fun r => r.v) (fun _ => rfl) rs crow0 (show i2 < _ by omega))) rfl, iaQ rfl (lnQ rfl rfl rfl (fun w hm => ((hps w (hm.holds _ (zby (i := 1) rfl))).at (k := i2) (by omega)))) rfl, .inl ⟨rfl, zcz (zcd rfl rfl rfl rfl) hb20⟩, iaQ rfl (zaj rfl) rfl, .inr ⟨rfl, rfl⟩, .inr ⟨rfl, rfl⟩, .inr ⟨rfl, rfl⟩, .inr ⟨rfl, rfl⟩, .inr ⟨rfl, rfl⟩, .inr ⟨rfl, rfl⟩, .inr ⟨rfl, rfl⟩, .inr ⟨rfl, rfl⟩, .inr ⟨rfl, rfl⟩, iaQ rfl (zaj rfl) rfl, iaQ rfl (zaj rfl) rfl, trivial⟩
     simp only [List.drop_succ_cons, List.drop_zero]
     refine enQ 1 rfl (zcv (reQ 1 rfl (hvQ rfl (vaQ rfl rfl rfl) (enQ 1 rfl ?_))))
     exact zbv (k2 + 1) true (by omega) (by omega) (saQ rfl) (pfQ rfl)
    refine zbb 1 rfl (zaq rfl ?_)
    refine zaz (zdr ?_)
    refine zaf (zax (zac (reQ 1 rfl ?_)))
    refine zbl (fun h22 => absurd ((h19).symm.trans h22) (by decide)) (fun h22 => ?_)
    refine ntQ (fsQ rfl (zcv (reQ 1 rfl (hvQ rfl (vaQ rfl rfl rfl) (enQ 1 rfl ?_)))))
    exact zbi (i2 + 1) qs ov ⟨by omega, by omega, hqm⟩ (by omega) (saQ rfl) (pfQ rfl)
   refine zbb 3 rfl (zaq rfl ?_)
   refine zaz (zdr ?_)
   refine zaf (zax (zac (reQ 1 rfl ?_)))
   refine zbl (fun h23 => ?_) (fun h23 => ?_)
   ·
    refine ntQ (zao rfl (reQ 3 rfl (hvQ rfl (riQ 1 rfl rfl rfl rfl (zah 2 rfl)) ?_)))
    refine hvQ rfl (zat (u := (rs.getD i2 crow0).v) rfl rfl rfl (zah 2 rfl) (zbn crowC (fun r => r.v) (fun _ => rfl) rs crow0 (show i2 < _ by omega))) (hl_know (fun w hm => ((hps w (hm.holds _ (zby (i := 1) rfl))).at (k := i2) (by omega)).one') (fun hov => ?_))
    refine zdu rfl (zeh rfl Try.underlying41 (by kernel_rfl) rfl hov) ?_
    intro g24
    refine zcf (i := 1) (z := .slice none 0 0) (bytes := 24) rfl rfl rfl rfl Try.underlying41 (by kernel_rfl) rfl rfl rfl rfl (zah 0 rfl) (fun q hq => by rw [List.mem_singleton] at hq; subst hq; exact hov) (by first | omega | (simp only [List.length_append, List.length_cons, List.length_nil]; omega)) (zbt qs [(rs.getD i2 crow0)]) (zcs crowC qs (rs.getD i2 crow0) _ rfl) (fun _ => rfl) ?_
    intro v25
    refine enQ 1 rfl (zcv (reQ 1 rfl (hvQ rfl (vaQ rfl rfl rfl) (enQ 1 rfl ?_))))
    exact zbi (i2 + 1) (qs ++ [(rs.getD i2 crow0)]) v25 ⟨by omega, by rw [List.length_append, List.length_singleton]; omega, fun q hq => (List.mem_append.1 hq).elim (hqm q) (fun h => by rw [List.mem_singleton] at h; subst h; exact zcj (by omega))⟩ (by omega) (saQ rfl) (slQ [1, 0, 0] rfl)
   refine ntQ (fsQ rfl (zcv (reQ 1 rfl (hvQ rfl (vaQ rfl rfl rfl) (enQ 1 rfl ?_)))))
   exact zbi (i2 + 1) qs ov ⟨by omega, by omega, hqm⟩ (by omega) (saQ rfl) (pfQ rfl)
  refine zbb 1 rfl (zaq rfl ?_)
  refine zaz (zdr ?_)
  refine zaf (zax (zbc 2 rfl ?_))
  refine zav (zbo 3 [1, 0] rfl rfl (by decide) ?_)
  exact zdc (post := [rowE 26 1 ov qs.length (qs.flatMap crowC), bigE ps]) rfl rfl (.refl _) ⟨_, qs, rfl, fun w hw => (hps w hw).sub hqm, hql, fun r hr => h4 r (hqm r hr)⟩
 refine zbb 5 rfl (zaq rfl ?_)
 refine zaz (zdr ?_)
 refine zaf (zax (zbc 2 rfl ?_))
 refine zav (zbo 3 [1, 0] rfl rfl (by decide) ?_)
 exact zdc (post := [rowE 26 1 ov qs.length (qs.flatMap crowC), bigE ps]) rfl rfl (.refl _) ⟨_, qs, rfl, fun w hw => (hps w hw).sub hqm, hql, fun r hr => h4 r (hqm r hr)⟩
theorem rds_cl_of' {w : World} {v : Value} {rs : List CRow} (h1 : RdsW w v 1 rs.length (rs.flatMap crowC)) (h2 : RdsAll w rs) : RdsCl w v rs := ⟨h1, h2⟩
theorem l13All_ret (n : Nt) (node : Int) (w : World) (hr : RdsNt w n) (hn : NtOk n) (hnd : 0 ≤ node ∧ node < n.cnt) :
   Calls Try.prog 98 #[.agg #[.int .i64 n.ins, n.sv, n.av, n.ov], .int .i64 node] w (Ret w (fun u_ p_ => ∃ (ps : List HP) (cs : List CGrp), p_ = [bigE ps] ∧ (∀ w, (bigE ps).holds w → RdsW w u_ 1 cs.length (cs.flatMap cgC) ∧ RdsGrps w cs) ∧ (cs.length : Int) = node + 1 ∧ GrpsOk cs)) := by
 have hi0 := hn.i0
 have hi1 := hn.i1
 have hs1 := hn.s1
 have ha1 := hn.a1
 have ho1 := hn.o1
 have hcnt : n.cnt = 1 + n.ins + n.ss.length + n.gs.length := rfl
 have hfst : n.fst = 1 + n.ins + n.ss.length := rfl
 refine zbf (N := 52) (args := [.agg #[.int .i64 n.ins, n.sv, n.av, n.ov], .int .i64 node]) Try.func98 rfl rfl (srQ ?_)
 refine zdt rfl (zct rfl rfl) ?_
 intro b1
 refine zbb 1 rfl (srQ ?_)
 refine zdu rfl (zcq (s := 1) rfl Try.underlying26 rfl) ?_
 intro g2
 refine zdu rfl (zau (z := .slice none 0 0) (s := 1) (cs := [.slice (some ⟨g2, 0, none⟩) 0 0]) rfl Try.underlying41 rfl (by decide) rfl (by kernel_rfl) rfl) ?_
 intro g3
 refine zdu rfl (zau (z := .slice none 0 0) (s := 1) (cs := [.slice (some ⟨g3, 0, none⟩) 1 1]) rfl Try.underlying139 rfl (by decide) rfl (by kernel_rfl) rfl) ?_
 intro g4
 refine zbb 1 rfl (zac (zbc 1 rfl (zaw ?_)))
 refine zfc 4 [3, 0, 2, 1] rfl rfl (by decide) ?_
 refine hc_pool 2 rfl ?_
 refine lkQ4 (α := Nat) (β := List CGrp) (γ := Value) (δ := List HP) [0, 1, 2, 4] rfl (fun k cs gv ps => [bigE ps, rowE 41 1 gv cs.length (cs.flatMap cgC), boxE b1 #[.int .i64 n.ins, n.sv, n.av, n.ov] 101]) (fun k cs gv ps => [(5, gv), (6, .int .i64 (k : Int))]) (fun k cs gv ps => 1 ≤ k ∧ (k : Int) ≤ node + 1 ∧ cs.length = k ∧ GrpsOk cs ∧ ∀ w, (bigE ps).holds w → RdsGrps w cs) (fun k cs gv ps => node.toNat + 1 - k) 1 [CGrp.mk (.slice (some ⟨g3, 0, none⟩) 1 1) [CRow.mk (.slice (some ⟨g2, 0, none⟩) 0 0) []]] _ [rowE 26 1 (.slice (some ⟨g3, 0, none⟩) 1 1) 1 ([.slice (some ⟨g2, 0, none⟩) 0 0]), rowE 3 1 (.slice (some ⟨g2, 0, none⟩) 0 0) 0 ([])] ⟨by omega, by omega, rfl, (fun c hc => by rw [List.mem_singleton] at hc; subst hc; exact GrpOk.one (by simp)), fun w hw c hc => by rw [List.mem_singleton] at hc; subst hc; exact rds_cl_of' (zbp (zba hw List.mem_cons_self)) (fun r hr => by rw [List.mem_singleton] at hr; subst hr; exact zbp (zba hw (List.mem_cons_of_mem _ List.mem_cons_self)))⟩ (saQ rfl) (pfQ rfl) ?_
 intro k cs gv ps hi5
 obtain ⟨hk1, hk, hcl, hg, hs⟩ := hi5
 refine zac (zac (reQ 2 rfl ?_))
 refine hl_leq rfl rfl rfl rfl rfl rfl (fun h6 => ?_) (fun h6 => ?_)
 ·
  refine ntQ (zao rfl (zcp (sbQ (srQ ?_))))
  refine zdu rfl (zcq (s := 1) rfl Try.underlying41 rfl) ?_
  intro g7
  refine zbb 1 rfl (zac (zac (reQ 1 rfl (hvQ rfl (zar (cs := [.int .i64 n.ins, n.sv, n.av, n.ov]) rfl rfl rfl rfl rfl (zam 3 rfl 0 rfl)) ?_))))
  refine zdn rfl (zal rfl rfl (fun w hm => zas (zbz n w (hr.below hm.bel) hn))) (zfh rfl rfl rfl rfl rfl rfl (fun h8 => ?_) (fun h8 => ?_))
  ·
   refine ntQ (zao rfl (zac ?_))
   have hani := hn.an ((k : Int) - n.fst).toNat (by omega)
   unfold LtOk at hani
   have hA := hg.at (k := ((n.gs.getD (((k : Int) - n.fst).toNat) an0).a / 2).toNat) (by omega)
   have hB := hg.at (k := ((n.gs.getD (((k : Int) - n.fst).toNat) an0).b / 2).toNat) (by omega)
   have hA8 := hA.len
   have hB8 := hB.len
   refine zdq rfl 9 [0, 1, 2, 3, 4, 5, 6, 7, 8] (List.take 9 _) (List.drop 9 _) [[], [0], [], [], [3], [2, 4], [1, 5], [6], []] [22, 23, 24, 25, 26, 27, 28, 29, 8] (fun i_ vs_ v_ p_ => match i_ with | 0 => v_ = .pointer (some ⟨b1, 0 + 2, none⟩) ∧ p_ = [] | 1 => v_ = n.av ∧ p_ = [] | 2 => v_ = .int .i64 (k : Int) ∧ p_ = [] | 3 => v_ = .agg #[.int .i64 n.ins, n.sv, n.av, n.ov] ∧ p_ = [] | 4 => v_ = .int .i64 n.fst ∧ p_ = [] | 5 => v_ = .int .i64 ((k : Int) - n.fst) ∧ p_ = [] | 6 => v_ = elP n.av (((k : Int) - n.fst).toNat * 2) ∧ p_ = [] | 7 => v_ = .agg #[.int .i64 ((n.gs.getD (((k : Int) - n.fst).toNat) an0).a), .int .i64 ((n.gs.getD (((k : Int) - n.fst).toNat) an0).b)] ∧ p_ = [] | 8 => IsBox #[.int .i64 0, .int .i64 0] 124 v_ p_ | _ => True) (List.take_append_drop 9 _).symm (by kernel_rfl) (by kernel_rfl) rfl rfl ?_ ?_
   ·
    refine ⟨?_, ?_, ?_, ?_, ?_, ?_, ?_, ?_, ?_, trivial⟩
    ·
     intro vf pf hR
     exact ovQ rfl (zai [2] rfl) (zbd (fdQ 2 rfl rfl rfl))
    ·
     intro vf pf hR
     have e0 := hR 0 (by decide)
     exact olQ rfl (sk 22 (congrArg some e0.1) (zab _)) (zbd (zag rfl rfl rfl (zad 3 rfl rfl)))
    ·
     intro vf pf hR
     exact ovQ rfl (zai [6] rfl) (zbd (zaj rfl))
    ·
     intro vf pf hR
     exact olQ rfl (zai [2] rfl) (zbd (zar (cs := [.int .i64 n.ins, n.sv, n.av, n.ov]) rfl rfl rfl rfl rfl (zam 3 rfl 0 rfl)))
    ·
     intro vf pf hR
     have e3 := hR 3 (by decide)
     exact olQ rfl (sk 25 (congrArg some e3.1) (zab _)) (zal rfl rfl (fun w hm => zas (zbz n w (hr.below hm.bel) hn)))
    ·
     intro vf pf hR
     have e2 := hR 2 (by decide)
     have e4 := hR 4 (by decide)
     exact ovQ rfl (sk 24 (congrArg some e2.1) (sk 26 (congrArg some e4.1) (zab _))) (zbd (vsQ rfl rfl rfl))
    ·
     intro vf pf hR
     have e1 := hR 1 (by decide)
     have e5 := hR 5 (by decide)
     exact olQ rfl (sk 23 (congrArg some e1.1) (sk 27 (congrArg some e5.1) (zab _))) (zbd (riQ 2 rfl rfl rfl rfl (zaa hr.an)))
    ·
     intro vf pf hR
     have e6 := hR 6 (by decide)
     exact olQ rfl (sk 28 (congrArg some e6.1) (zab _)) (zbd (zcl (us := [.int .i64 ((n.gs.getD (((k : Int) - n.fst).toNat) an0).a), .int .i64 ((n.gs.getD (((k : Int) - n.fst).toNat) an0).b)]) rfl rfl rfl rfl (zaa hr.an) (by omega) rfl (zde anC 2 (fun _ => rfl) n.gs an0 (show ((k : Int) - n.fst).toNat < _ by omega) rfl)))
    intro vf pf hR
    exact olQ rfl (zab _) (zbm (z := .agg #[.int .i64 0, .int .i64 0]) rfl rfl)
   intro vf pf hR
   have e7 := hR 7 (by decide)
   have e8 : IsBox #[.int .i64 0, .int .i64 0] 124 (vf 8) (pf 8) := hR 8 (by decide)
   obtain ⟨b9, vE8, pE8⟩ := e8
   have q0 := hR 0 (by decide)
   have q1 := hR 1 (by decide)
   have q2 := hR 2 (by decide)
   have q3 := hR 3 (by decide)
   have q4 := hR 4 (by decide)
   have q5 := hR 5 (by decide)
   have q6 := hR 6 (by decide)
   have q7 := hR 7 (by decide)
   refine zce (zbe [7, 6, 5, 4, 2, 1, 0] _ (sk 8 (congrArg some vE8) (sk 14 rfl (sk 21 rfl (sk 29 (congrArg some e7.1) (zab _))))) rfl) (by simp only [pE8, vE8, q0.2, q1.2, q2.2, q3.2, q4.2, q5.2, q6.2, q7.2, fS] <;> rfl) ?_
   simp only [List.drop_succ_cons, List.drop_zero]
   refine zbr (cs' := #[.int .i64 ((n.gs.getD (((k : Int) - n.fst).toNat) an0).a), .int .i64 ((n.gs.getD (((k : Int) - n.fst).toNat) an0).b)]) (i := 0) (off := 0) (us := [.int .i64 ((n.gs.getD (((k : Int) - n.fst).toNat) an0).a), .int .i64 ((n.gs.getD (((k : Int) - n.fst).toNat) an0).b)]) rfl rfl rfl rfl rfl rfl rfl (zae rfl (zae rfl zbj)) rfl rfl rfl (ntQ ?_)
   refine zdq rfl 13 [0, 1, 2, 3, 4, 5, 6, 7, 8, 9, 10, 11, 12] (List.take 13 _) (List.drop 13 _) [[], [], [1], [2], [0, 3], [4], [], [], [7], [8], [6, 9], [10], [5, 11]] [30, 31, 32, 33, 34, 35, 36, 37, 38, 39, 40, 41, 42] (fun i_ vs_ v_ p_ => match i_ with | 0 => v_ = gv ∧ p_ = [] | 1 => v_ = .pointer (some ⟨b9, 0 + 0, none⟩) ∧ p_ = [] | 2 => v_ = .int .i64 ((n.gs.getD (((k : Int) - n.fst).toNat) an0).a) ∧ p_ = [] | 3 => v_ = .int .i64 (((n.gs.getD (((k : Int) - n.fst).toNat) an0).a) / 2) ∧ p_ = [] | 4 => v_ = elP gv ((((n.gs.getD (((k : Int) - n.fst).toNat) an0).a) / 2).toNat * 1) ∧ p_ = [] | 5 => v_ = (cs.getD ((((n.gs.getD (((k : Int) - n.fst).toNat) an0).a) / 2).toNat) cgrp0).v ∧ p_ = [] | 6 => v_ = gv ∧ p_ = [] | 7 => v_ = .pointer (some ⟨b9, 0 + 1, none⟩) ∧ p_ = [] | 8 => v_ = .int .i64 ((n.gs.getD (((k : Int) - n.fst).toNat) an0).b) ∧ p_ = [] | 9 => v_ = .int .i64 (((n.gs.getD (((k : Int) - n.fst).toNat) an0).b) / 2) ∧ p_ = [] | 10 => v_ = elP gv ((((n.gs.getD (((k : Int) - n.fst).toNat) an0).b) / 2).toNat * 1) ∧ p_ = [] | 11 => v_ = (cs.getD ((((n.gs.getD (((k : Int) - n.fst).toNat) an0).b) / 2).toNat) cgrp0).v ∧ p_ = [] | 12 => (fun u_ p_ => ∃ (ps : List HP) (us : List CRow), p_ = [rowE 26 1 u_ us.length (us.flatMap crowC), bigE ps] ∧ (∀ w, (bigE ps).holds w → RdsAll w us) ∧ us.length ≤ 7 ∧ ∀ r ∈ us, r.xs.length ≤ 4) v_ p_ | _ => True) (List.take_append_drop 13 _).symm (by kernel_rfl) (by kernel_rfl) rfl rfl ?_ ?_
   ·
    refine ⟨?_, ?_, ?_, ?_, ?_, ?_, ?_, ?_, ?_, ?_, ?_, ?_, ?_, trivial⟩
    ·
     intro vf pf hR
     exact ovQ rfl (zai [5] rfl) (zbd (zaj rfl))
    ·
     intro vf pf hR
     exact ovQ rfl (zai [8] rfl) (zbd (fdQ 0 rfl rfl rfl))
    ·
     intro vf pf hR
     have e1 := hR 1 (by decide)
     exact olQ rfl (sk 31 (congrArg some e1.1) (zab _)) (zbd (zag rfl rfl rfl (zad 0 rfl rfl)))
    ·
     intro vf pf hR
     have e2 := hR 2 (by decide)
     exact ovQ rfl (sk 32 (congrArg some e2.1) (zab _)) (zbd (zep rfl rfl rfl (by refine ⟨?_, ?_, ?_⟩ <;> omega)))
    ·
     intro vf pf hR
     have e0 := hR 0 (by decide)
     have e3 := hR 3 (by decide)
     exact olQ rfl (sk 30 (congrArg some e0.1) (sk 33 (congrArg some e3.1) (zab _))) (zbd (riQ 1 rfl rfl rfl rfl (zah 3 rfl)))
    ·
     intro vf pf hR
     have e4 := hR 4 (by decide)
     exact olQ rfl (sk 34 (congrArg some e4.1) (zab _)) (zbd (zat (u := (cs.getD ((((n.gs.getD (((k : Int) - n.fst).toNat) an0).a) / 2).toNat) cgrp0).v) rfl rfl rfl (zah 3 rfl) (zbn cgC (fun r => r.v) (fun _ => rfl) cs cgrp0 (show (((n.gs.getD (((k : Int) - n.fst).toNat) an0).a) / 2).toNat < _ by omega))))
    ·
     intro vf pf hR
     exact ovQ rfl (zai [5] rfl) (zbd (zaj rfl))
    ·
     intro vf pf hR
     exact ovQ rfl (zai [8] rfl) (zbd (fdQ 1 rfl rfl rfl))
    ·
     intro vf pf hR
     have e7 := hR 7 (by decide)
     exact olQ rfl (sk 37 (congrArg some e7.1) (zab _)) (zbd (zag rfl rfl rfl (zad 0 rfl rfl)))
    ·
     intro vf pf hR
     have e8 := hR 8 (by decide)
     exact ovQ rfl (sk 38 (congrArg some e8.1) (zab _)) (zbd (zep rfl rfl rfl (by refine ⟨?_, ?_, ?_⟩ <;> omega)))
    ·
     intro vf pf hR
     have e6 := hR 6 (by decide)
     have e9 := hR 9 (by decide)
     exact olQ rfl (sk 36 (congrArg some e6.1) (sk 39 (congrArg some e9.1) (zab _))) (zbd (riQ 1 rfl rfl rfl rfl (zah 3 rfl)))
    ·
     intro vf pf hR
     have e10 := hR 10 (by decide)
     exact olQ rfl (sk 40 (congrArg some e10.1) (zab _)) (zbd (zat (u := (cs.getD ((((n.gs.getD (((k : Int) - n.fst).toNat) an0).b) / 2).toNat) cgrp0).v) rfl rfl rfl (zah 3 rfl) (zbn cgC (fun r => r.v) (fun _ => rfl) cs cgrp0 (show (((n.gs.getD (((k : Int) - n.fst).toNat) an0).b) / 2).toNat < _ by omega))))
    intro vf pf hR
    have e5 := hR 5 (by decide)
    have e11 := hR 11 (by decide)
    exact olQ rfl (sk 35 (congrArg some e5.1) (sk 41 (congrArg some e11.1) (zab _))) (zal rfl rfl (fun w hm => l13Join_ret (cs.getD ((((n.gs.getD (((k : Int) - n.fst).toNat) an0).a) / 2).toNat) cgrp0).rs (cs.getD ((((n.gs.getD (((k : Int) - n.fst).toNat) an0).b) / 2).toNat) cgrp0).rs _ _ w ((hs w (hm.holds _ (zby (i := 2) rfl))).at (k := ((((n.gs.getD (((k : Int) - n.fst).toNat) an0).a) / 2).toNat)) (by omega)) ((hs w (hm.holds _ (zby (i := 2) rfl))).at (k := ((((n.gs.getD (((k : Int) - n.fst).toNat) an0).b) / 2).toNat)) (by omega)) hA.four hB.four hA8 hB8))
   intro vf pf hR
   have e12 : (fun u_ p_ => ∃ (ps : List HP) (us : List CRow), p_ = [rowE 26 1 u_ us.length (us.flatMap crowC), bigE ps] ∧ (∀ w, (bigE ps).holds w → RdsAll w us) ∧ us.length ≤ 7 ∧ ∀ r ∈ us, r.xs.length ≤ 4) (vf 12) (pf 12) := hR 12 (by decide)
   obtain ⟨v10, vE12⟩ : ∃ x, vf 12 = x := ⟨_, rfl⟩
   obtain ⟨p11, pE12⟩ : ∃ x, pf 12 = x := ⟨_, rfl⟩
   have hR12 := e12
   rw [vE12, pE12] at hR12
   obtain ⟨qs, us, rfl, hq, hul, hu4⟩ := hR12
   have q0 := hR 0 (by decide)
   have q1 := hR 1 (by decide)
   have q2 := hR 2 (by decide)
   have q3 := hR 3 (by decide)
   have q4 := hR 4 (by decide)
   have q5 := hR 5 (by decide)
   have q6 := hR 6 (by decide)
   have q7 := hR 7 (by decide)
   have q8 := hR 8 (by decide)
   have q9 := hR 9 (by decide)
   have q10 := hR 10 (by decide)
   have q11 := hR 11 (by decide)
   refine zce (zbe [21, 14, 8, 7, 6, 5, 4, 2, 1, 0] _ (sk 42 (congrArg some vE12) (zab _)) rfl) (by simp only [pE12, vE12, q0.2, q1.2, q2.2, q3.2, q4.2, q5.2, q6.2, q7.2, q8.2, q9.2, q10.2, q11.2, fS] <;> rfl) ?_
   simp only [List.drop_succ_cons, List.drop_zero]
   refine zbb 1 rfl (reQ 3 rfl ?_)
   refine zdu rfl (zau (z := .int .i64 0) (s := 1) (cs := ([(k : Int)].map (Value.int .i64))) rfl Try.underlying26 rfl (by decide) rfl (by kernel_rfl) rfl) ?_
   intro g13
   refine zdu rfl (zau (z := .slice none 0 0) (s := 1) (cs := [.slice (some ⟨g13, 0, none⟩) 1 1]) rfl Try.underlying41 rfl (by decide) rfl (by kernel_rfl) rfl) ?_
   intro g14
   refine zcf (i := 2) (z := .slice none 0 0) (bytes := 24) (n' := (us ++ [CRow.mk (.slice (some ⟨g13, 0, none⟩) 1 1) [(k : Int)]]).length) (xs' := ((us ++ [CRow.mk (.slice (some ⟨g13, 0, none⟩) 1 1) [(k : Int)]]).flatMap crowC)) rfl rfl rfl rfl Try.underlying41 (by kernel_rfl) rfl rfl rfl rfl (zah 0 rfl) (by simp [Value.oneCell']) (by first | omega | (simp; omega)) (zbt us [CRow.mk (.slice (some ⟨g13, 0, none⟩) 1 1) [(k : Int)]]) (by rw [List.flatMap_append]; rfl) (fun _ => rfl) ?_
   intro v15
   refine zdu rfl (zej rfl Try.underlying139 (by kernel_rfl) rfl (fun w hm => (zah 2 rfl w hm).one)) ?_
   intro g16
   refine zcr (i := 3) rfl (fun ho17 => ?_)
   refine zcf (i := 8) (z := .slice none 0 0) (bytes := 24) (n' := (cs ++ [(CGrp.mk v15 (us ++ [CRow.mk (.slice (some ⟨g13, 0, none⟩) 1 1) [(k : Int)]]))]).length) (xs' := ((cs ++ [(CGrp.mk v15 (us ++ [CRow.mk (.slice (some ⟨g13, 0, none⟩) 1 1) [(k : Int)]]))]).flatMap cgC)) rfl rfl rfl rfl Try.underlying139 (by kernel_rfl) rfl rfl rfl rfl (zah 0 rfl) (fun q hq => by rw [List.mem_singleton] at hq; subst hq; exact ho17) (by omega) (zbt cs [(CGrp.mk v15 (us ++ [CRow.mk (.slice (some ⟨g13, 0, none⟩) 1 1) [(k : Int)]]))]) (by rw [List.flatMap_append]; rfl) (fun _ => rfl) ?_
   intro v18
   refine enQ 1 rfl (zcv (reQ 1 rfl (hvQ rfl (vaQ rfl rfl rfl) (enQ 1 rfl ?_))))
   refine zbo 10 [9, 8, 4, 2, 3, 7] rfl rfl (by decide) ?_
   refine zcx 4 rfl ?_
   exact zca (k + 1) (cs ++ [(CGrp.mk v15 (us ++ [CRow.mk (.slice (some ⟨g13, 0, none⟩) 1 1) [(k : Int)]]))]) v18 [bigE ps, rowE 26 1 v15 ((us ++ [CRow.mk (.slice (some ⟨g13, 0, none⟩) 1 1) [(k : Int)]]).length) ((us ++ [CRow.mk (.slice (some ⟨g13, 0, none⟩) 1 1) [(k : Int)]]).flatMap crowC), rowE 3 1 (.slice (some ⟨g13, 0, none⟩) 1 1) 1 ([(k : Int)].map (Value.int .i64)), bigE qs] ⟨by omega, by omega, by rw [List.length_append, List.length_singleton]; omega, hg.app (GrpOk.more hul hu4), fun w hw => (hs w (zba hw List.mem_cons_self)).app (rds_cl_of' (zbp (zba hw (List.mem_cons_of_mem _ List.mem_cons_self))) (fun r hr => (List.mem_append.1 hr).elim (fun h => hq w (zba hw (List.mem_cons_of_mem _ (List.mem_cons_of_mem _ (List.mem_cons_of_mem _ List.mem_cons_self)))) r h) (fun h => by rw [List.mem_singleton] at h; subst h; exact zbp (zba hw (List.mem_cons_of_mem _ (List.mem_cons_of_mem _ List.mem_cons_self))))))⟩ (by omega) (saQ rfl) (pfQ rfl)
  refine ntQ (zaq rfl (zcp (reQ 3 rfl ?_)))
  refine zdu rfl (zau (z := .int .i64 0) (s := 1) (cs := ([(k : Int)].map (Value.int .i64))) rfl Try.underlying26 rfl (by decide) rfl (by kernel_rfl) rfl) ?_
  intro g19
  refine zdu rfl (zau (z := .slice none 0 0) (s := 1) (cs := [.slice (some ⟨g19, 0, none⟩) 1 1]) rfl Try.underlying41 rfl (by decide) rfl (by kernel_rfl) rfl) ?_
  intro g20
  refine zcf (i := 2) (z := .slice none 0 0) (bytes := 24) (n' := ([CRow.mk (.slice (some ⟨g19, 0, none⟩) 1 1) [(k : Int)]]).length) (xs' := (([CRow.mk (.slice (some ⟨g19, 0, none⟩) 1 1) [(k : Int)]]).flatMap crowC)) rfl rfl rfl rfl Try.underlying41 (by kernel_rfl) rfl rfl rfl rfl (zah 0 rfl) (by simp [Value.oneCell']) (by first | omega | (simp; omega)) (Nat.zero_add _) (List.nil_append _) (fun _ => rfl) ?_
  intro v21
  refine zdu rfl (zej rfl Try.underlying139 (by kernel_rfl) rfl (fun w hm => (zah 2 rfl w hm).one)) ?_
  intro g22
  refine zcr (i := 3) rfl (fun ho23 => ?_)
  refine zcf (i := 5) (z := .slice none 0 0) (bytes := 24) (n' := (cs ++ [(CGrp.mk v21 ([CRow.mk (.slice (some ⟨g19, 0, none⟩) 1 1) [(k : Int)]]))]).length) (xs' := ((cs ++ [(CGrp.mk v21 ([CRow.mk (.slice (some ⟨g19, 0, none⟩) 1 1) [(k : Int)]]))]).flatMap cgC)) rfl rfl rfl rfl Try.underlying139 (by kernel_rfl) rfl rfl rfl rfl (zah 0 rfl) (fun q hq => by rw [List.mem_singleton] at hq; subst hq; exact ho23) (by omega) (zbt cs [(CGrp.mk v21 ([CRow.mk (.slice (some ⟨g19, 0, none⟩) 1 1) [(k : Int)]]))]) (by rw [List.flatMap_append]; rfl) (fun _ => rfl) ?_
  intro v24
  refine enQ 1 rfl (zcv (reQ 1 rfl (hvQ rfl (vaQ rfl rfl rfl) (enQ 1 rfl ?_))))
  refine zbo 7 [6, 5, 2, 3, 4] rfl rfl (by decide) ?_
  refine zcx 3 rfl ?_
  exact zca (k + 1) (cs ++ [(CGrp.mk v21 ([CRow.mk (.slice (some ⟨g19, 0, none⟩) 1 1) [(k : Int)]]))]) v24 [bigE ps, rowE 26 1 v21 (([CRow.mk (.slice (some ⟨g19, 0, none⟩) 1 1) [(k : Int)]]).length) (([CRow.mk (.slice (some ⟨g19, 0, none⟩) 1 1) [(k : Int)]]).flatMap crowC), rowE 3 1 (.slice (some ⟨g19, 0, none⟩) 1 1) 1 ([(k : Int)].map (Value.int .i64))] ⟨by omega, by omega, by rw [List.length_append, List.length_singleton]; omega, hg.app (GrpOk.one (by simp)), fun w hw => (hs w (zba hw List.mem_cons_self)).app (rds_cl_of' (zbp (zba hw (List.mem_cons_of_mem _ List.mem_cons_self))) (fun r hr => by rw [List.mem_singleton] at hr; subst hr; exact zbp (zba hw (List.mem_cons_of_mem _ (List.mem_cons_of_mem _ List.mem_cons_self)))))⟩ (by omega) (saQ rfl) (pfQ rfl)
 refine ntQ (zaq rfl ?_)
 refine zaz (zdr ?_)
 refine zaf (zax (zbc 2 rfl ?_))
 refine zav (zbo 3 [1, 0] rfl rfl (by decide) ?_)
 refine zcx 2 rfl ?_
 exact zdc (post := [bigE [bigE ps, rowE 41 1 gv cs.length (cs.flatMap cgC)]]) rfl rfl (.refl _) ⟨_, cs, rfl, fun w hw => ⟨zbp (zba hw (List.mem_cons_of_mem _ List.mem_cons_self)), hs w (zba hw List.mem_cons_self)⟩, by omega, hg⟩
theorem EnumE_ret (n : Nt) (node : Int) (w : World) (hr : RdsNt w n) (hn : NtOk n) (hnd : 0 ≤ node ∧ node < n.cnt) :
   Calls Try.prog 85 #[.agg #[.int .i64 n.ins, n.sv, n.av, n.ov], .int .i64 node] w (Ret w (fun u_ p_ => ∃ (ps : List HP) (us : List CRow), p_ = [bigE ps] ∧ (∀ w, (bigE ps).holds w → RdsCl w u_ us) ∧ GrpOk us)) := by
 have hi0 := hn.i0
 have hi1 := hn.i1
 have hs1 := hn.s1
 have ha1 := hn.a1
 have ho1 := hn.o1
 have hcnt : n.cnt = 1 + n.ins + n.ss.length + n.gs.length := rfl
 have hfst : n.fst = 1 + n.ins + n.ss.length := rfl
 refine zbf (N := 48) (args := [.agg #[.int .i64 n.ins, n.sv, n.av, n.ov], .int .i64 node]) Try.func85 rfl rfl (srQ ?_)
 refine zdt rfl (zct rfl rfl) ?_
 intro b1
 refine zbb 1 rfl (srQ ?_)
 refine zdu rfl (zcq (s := 1) rfl Try.underlying41 rfl) ?_
 intro g2
 refine zbb 1 rfl (zfl (hvQ rfl (zar (cs := [.int .i64 n.ins, n.sv, n.av, n.ov]) rfl rfl rfl rfl rfl (zam 1 rfl 0 rfl)) ?_))
 refine zdn rfl (zal rfl rfl (fun w hm => zas (zds n w (hr.below hm.bel) hn))) (zan 3 rfl ?_)
 refine zbh rfl rfl rfl rfl rfl rfl (fun h3 => absurd h3 (by omega)) (fun h3 => ?_)
 refine zan 3 rfl (hvQ rfl (zar (cs := [.int .i64 n.ins, n.sv, n.av, n.ov]) rfl rfl rfl rfl rfl (zam 1 rfl 0 rfl)) ?_)
 refine zdn rfl (zal rfl rfl (fun w hm => zas (zbs n w (hr.below hm.bel) hn))) (zfh rfl rfl rfl rfl rfl rfl (fun h4 => absurd h4 (by omega)) (fun h4 => ?_))
 refine zbb 1 rfl (zaq rfl (zcp (srQ (hvQ rfl (zar (cs := [.int .i64 n.ins, n.sv, n.av, n.ov]) rfl rfl rfl rfl rfl (zam 1 rfl 0 rfl)) (zan 1 rfl ?_)))))
 refine hl_q rfl rfl rfl (zal rfl rfl (fun w hm => l13All_ret n node w (hr.below hm.bel) hn hnd)) ?_
 intro v5 p6 hR7
 obtain ⟨as_, cs, rfl, hs, hcl, hg⟩ := hR7
 have hgn := hg.at (k := node.toNat) (by omega)
 have hgl := hgn.len
 refine zbb 1 rfl (zac (zbc 1 rfl (zaw ?_)))
 refine zdo _ zfx ?_
 refine lkQ4 (α := Nat) (β := List CRow) (γ := Value) (δ := List HP) [0, 1, 2, 4, 6, 21] rfl (fun i qs ov ps => [bigE ps, bigE as_, rowE 26 1 ov qs.length (qs.flatMap crowC), boxE b1 #[.int .i64 n.ins, n.sv, n.av, n.ov] 101]) (fun i qs ov ps => [(5, ov), (7, .int .i64 (i : Int))]) (fun i qs ov ps => i ≤ (cs.getD ((node).toNat) cgrp0).rs.length ∧ qs.length = i ∧ (∀ r ∈ qs, r.xs.length ≤ 4) ∧ ∀ w, (bigE ps).holds w → RdsAll w qs) (fun i qs ov ps => (cs.getD ((node).toNat) cgrp0).rs.length - i) 0 [] _ [] ⟨Nat.zero_le _, rfl, (fun r hr => by cases hr), fun w _ => RdsAll.nil w⟩ (saQ rfl) (pfQ rfl) ?_
 intro i qs ov ps hi8
 obtain ⟨hi, hql, hq4, hps⟩ := hi8
 refine zac (zac (reQ 3 rfl ?_))
 refine hvQ rfl (riQ 1 rfl rfl rfl rfl (fun w hm => (hs w (hm.holds _ (zby (i := 1) rfl))).1)) (hvQ rfl (zat (u := (cs.getD ((node).toNat) cgrp0).v) rfl rfl rfl (fun w hm => (hs w (hm.holds _ (zby (i := 1) rfl))).1) (zbn cgC (fun r => r.v) (fun _ => rfl) cs cgrp0 (show (node).toNat < _ by omega))) ?_)
 refine hvQ rfl (lnQ rfl rfl rfl (fun w hm => ((hs w (hm.holds _ (zby (i := 1) rfl))).2.at (k := node.toNat) (by omega)).row)) (zbh rfl rfl rfl rfl rfl rfl (fun h9 => ?_) (fun h9 => ?_))
 ·
  refine ntQ (zao rfl (zcp (sbQ (reQ 1 rfl ?_))))
  refine zdu rfl (zcq (s := 1) rfl Try.underlying26 rfl) ?_
  intro g10
  refine zan 2 rfl (hvQ rfl (riQ 1 rfl rfl rfl rfl (fun w hm => (hs w (hm.holds _ (zby (i := 2) rfl))).1)) ?_)
  refine hvQ rfl (zat (u := (cs.getD ((node).toNat) cgrp0).v) rfl rfl rfl (fun w hm => (hs w (hm.holds _ (zby (i := 2) rfl))).1) (zbn cgC (fun r => r.v) (fun _ => rfl) cs cgrp0 (show (node).toNat < _ by omega))) (zan 1 rfl ?_)
  refine hvQ rfl (riQ 1 rfl rfl rfl rfl (fun w hm => ((hs w (hm.holds _ (zby (i := 2) rfl))).2.at (k := node.toNat) (by omega)).row)) (hvQ rfl (zat (u := (((cs.getD ((node).toNat) cgrp0).rs).getD i crow0).v) rfl rfl rfl (fun w hm => ((hs w (hm.holds _ (zby (i := 2) rfl))).2.at (k := node.toNat) (by omega)).row) (zbn crowC (fun r => r.v) (fun _ => rfl) ((cs.getD ((node).toNat) cgrp0).rs) crow0 (show i < _ by omega))) ?_)
  have h4i := hgn.four _ (zcj (es := (cs.getD ((node).toNat) cgrp0).rs) (i := i) (d := crow0) (by omega))
  refine zcf (i := 0) (z := .int .i64 0) (bytes := 8) (n' := ((((cs.getD ((node).toNat) cgrp0).rs).getD i crow0).xs).length) (xs' := (((((cs.getD ((node).toNat) cgrp0).rs).getD i crow0).xs).map (Value.int .i64))) rfl rfl rfl rfl Try.underlying26 (by kernel_rfl) rfl rfl rfl rfl (fun w hm => ((hs w (hm.holds _ (zby (i := 2) rfl))).2.at (k := node.toNat) (by omega)).at (k := i) (by omega)) (zbw _) (by first | omega | (simp; done) | (simp; omega)) (Nat.zero_add _) (List.nil_append _) (fun _ => rfl) ?_
  intro v11
  refine zdu rfl (zej rfl Try.underlying41 (by kernel_rfl) rfl (fun w hm => (zah 0 rfl w hm).one)) ?_
  intro g12
  refine zcr (i := 1) rfl (fun ho13 => ?_)
  refine zcf (i := 4) (z := .slice none 0 0) (bytes := 24) rfl rfl rfl rfl Try.underlying41 (by kernel_rfl) rfl rfl rfl rfl (zah 0 rfl) (zae ho13 zbj) (by first | omega | (simp only [List.length_append, List.length_cons, List.length_nil]; omega)) (zbt qs [(CRow.mk v11 (((cs.getD ((node).toNat) cgrp0).rs).getD i crow0).xs)]) (zcs crowC qs (CRow.mk v11 (((cs.getD ((node).toNat) cgrp0).rs).getD i crow0).xs) _ rfl) (fun _ => rfl) ?_
  intro v14
  refine enQ 1 rfl (zcv (reQ 1 rfl (hvQ rfl (vaQ rfl rfl rfl) (enQ 1 rfl ?_))))
  refine zbo 6 [5, 4, 3, 1, 2] rfl rfl (by decide) ?_
  refine zcx 2 rfl ?_
  exact zca (i + 1) (qs ++ [(CRow.mk v11 (((cs.getD ((node).toNat) cgrp0).rs).getD i crow0).xs)]) v14 [bigE ps, rowE 3 1 v11 (((((cs.getD ((node).toNat) cgrp0).rs).getD i crow0).xs).length) (((((cs.getD ((node).toNat) cgrp0).rs).getD i crow0).xs).map (Value.int .i64))] ⟨by omega, by rw [List.length_append, List.length_singleton]; omega, (fun r hr => (List.mem_append.1 hr).elim (hq4 r) (fun h => by rw [List.mem_singleton] at h; subst h; exact h4i)), fun w hw => RdsAll.cons (u := CRow.mk v11 ((((cs.getD ((node).toNat) cgrp0).rs).getD i crow0).xs)) (hps w (zba hw List.mem_cons_self)) (zbp (zba hw (List.mem_cons_of_mem _ List.mem_cons_self))) (fun q hq => (List.mem_append.1 hq).elim .inr (fun h => .inl (List.mem_singleton.1 h)))⟩ (by omega) (saQ rfl) (pfQ rfl)
 refine ntQ (zaq rfl ?_)
 refine zaz (zdr ?_)
 refine zaf (zax (zbc 2 rfl ?_))
 refine zav (zbo 4 [2, 0] rfl rfl (by decide) ?_)
 refine zcx 2 rfl ?_
 exact zdc (post := [bigE [bigE ps, rowE 26 1 ov qs.length (qs.flatMap crowC)]]) rfl rfl (.refl _) ⟨_, qs, rfl, fun w hw => rds_cl_of' (zbp (zba hw (List.mem_cons_of_mem _ List.mem_cons_self))) (hps w (zba hw List.mem_cons_self)), ⟨by have := hgn.pos; omega, by omega, hq4⟩⟩
theorem l01In_yes {a b c : Int} (h1 : b ≤ a) (h2 : a ≤ c) (w : World) : Calls Try.prog 69 #[.int .i64 a, .int .i64 b, .int .i64 c] w (Ans w (.bool true)) := by
  rw [← inR_true h1 h2]; exact zgo (l01In_any _ _ _ w)
structure Tab where
  N : Int
  B : Int
def pn (n : Int) : Nat := 2 ^ n.toNat
def qn (n : Int) : Int := 2 ^ (2 ^ n.toNat)
theorem five {n : Int} (h : 0 ≤ n ∧ n ≤ 4) : n = 0 ∨ n = 1 ∨ n = 2 ∨ n = 3 ∨ n = 4 := by omega
theorem pn_rng {n : Int} (h : 0 ≤ n ∧ n ≤ 4) : 1 ≤ pn n ∧ pn n ≤ 16 := by
  rcases five h with rfl | rfl | rfl | rfl | rfl <;> decide
theorem qn_rng {n : Int} (h : 0 ≤ n ∧ n ≤ 4) : 2 ≤ qn n ∧ qn n ≤ 65536 := by
  rcases five h with rfl | rfl | rfl | rfl | rfl <;> decide
theorem wr1 {n : Int} (h : 0 ≤ n ∧ n ≤ 4) : IntKind.i64.wrap (1 * 2 ^ n.toNat) = (pn n : Int) := by
  rcases five h with rfl | rfl | rfl | rfl | rfl <;> exact IntWalk.i64_in _ (by decide)
theorem wru {n : Int} (h : 0 ≤ n ∧ n ≤ 4) : IntKind.u64.wrap (1 * 2 ^ n.toNat) = (pn n : Int) := by
  rcases five h with rfl | rfl | rfl | rfl | rfl <;> exact IntWalk.u64_in _ (by decide)
theorem wr2 {n : Int} (h : 0 ≤ n ∧ n ≤ 4) : IntKind.i64.wrap (1 * 2 ^ ((pn n : Int)).toNat) = qn n := by
  rcases five h with rfl | rfl | rfl | rfl | rfl <;> exact IntWalk.i64_in _ (by decide)
def TabOk (t : Tab) : Prop := (0 ≤ t.N ∧ t.N ≤ 4) ∧ 0 ≤ t.B ∧ t.B ≤ qn t.N - 1
theorem andB {x : Int} (k : Nat) (h : 0 ≤ x ∧ x ≤ 65535) : bits .and .i64 (x / 2 ^ k) 1 = x / 2 ^ k % 2 := by
  have h1 : (0 : Int) ≤ x / 2 ^ k := Int.ediv_nonneg h.1 (Int.le_of_lt (Int.pow_pos (by decide)))
  have h2 : x / 2 ^ k ≤ x := Int.ediv_le_self _ h.1
  exact Bit.and_one _ h1 (by omega)
open Go.RowKit
theorem l02Full_ans (n : Int) (w : World) (hn : 0 ≤ n ∧ n ≤ 4) :
   Calls Try.prog 62 #[.int .i64 n] w (Ans w (.int .i64 (qn n - 1))) := by
 have hp := pn_rng hn
 have hq := qn_rng hn
 refine zbf (N := 7) (args := [.int .i64 n]) Try.func62 rfl rfl (zac (zay (zan 1 rfl (zcb (zax (zac (zay (zan 1 rfl (hvQ rfl (zga (k := .u64) (kk := .i64) (r := (pn n : Int)) rfl rfl rfl rfl (by omega) (wru hn)) (hvQ rfl (zga (k := .i64) (kk := .u64) (r := qn n) rfl rfl rfl rfl (by omega) (wr2 hn)) (hvQ rfl (vsQ rfl rfl rfl) (zan 1 rfl ?_))))))))))))
 refine ntQ ?_
 exact zav (zbg rfl rfl rfl)
theorem specTableOk_yes (t : Tab) (w : World) (ht : TabOk t) :
   Calls Try.prog 87 #[.agg #[.int .i64 t.N, .int .i64 t.B]] w (Ans w (.bool true)) := by
 obtain ⟨hn, hB0, hB1⟩ := ht
 have hp := pn_rng hn
 have hq := qn_rng hn
 refine zbf (N := 19) (args := [.agg #[.int .i64 t.N, .int .i64 t.B]]) Try.func87 rfl rfl (srQ ?_)
 refine zdt rfl (zct rfl rfl) ?_
 intro b1
 refine zbb 1 rfl (zac ?_)
 have hb2 : (decide (0 ≤ t.B)) = true := decide_eq_true (by omega)
 have hb3 : (decide (t.B ≤ qn t.N - 1)) = true := decide_eq_true (by omega)
 refine zbk 16 [[], [0], [1], [2], [3], [3, 4], [3, 5], [3, 6], [7], [8], [8, 9], [8], [8, 11], [8, 12], [8, 10, 13], [8, 14]] [3, 4, 5, 6, 7, 8, 9, 10, 11, 12, 13, 14, 15, 16, 17, 18] [.pointer (some ⟨b1, 0 + 0, none⟩), .int .i64 t.N, .bool true, .bool true, .pointer (some ⟨b1, 0 + 1, none⟩), .int .i64 t.B, .bool true, .bool true, .bool true, .pointer (some ⟨b1, 0 + 1, none⟩), .int .i64 t.B, .pointer (some ⟨b1, 0 + 0, none⟩), .int .i64 t.N, .int .i64 (qn t.N - 1), .bool true, .bool true] (by kernel_rfl) rfl ?_ ?_
 ·
  exact ⟨iaQ rfl (fdQ 0 rfl rfl rfl) rfl, iaQ rfl (zag rfl rfl rfl (zad 0 rfl rfl)) rfl, .inl ⟨rfl, zal rfl rfl (fun w hm => zas (l01In_yes (by omega) (by omega) w))⟩, iaQ rfl (zaj rfl) rfl, iaQ rfl (fdQ 1 rfl rfl rfl) rfl, iaQ rfl (zag rfl rfl rfl (zad 0 rfl rfl)) rfl, .inl ⟨rfl, zcz (zcd rfl rfl rfl rfl) hb2⟩, iaQ rfl (zaj rfl) rfl, iaQ rfl (zaj rfl) rfl, iaQ rfl (fdQ 1 rfl rfl rfl) rfl, iaQ rfl (zag rfl rfl rfl (zad 0 rfl rfl)) rfl, iaQ rfl (fdQ 0 rfl rfl rfl) rfl, iaQ rfl (zag rfl rfl rfl (zad 0 rfl rfl)) rfl, .inl ⟨rfl, zal rfl rfl (fun w hm => zas (l02Full_ans _ w hn))⟩, .inl ⟨rfl, zcz (zcd rfl rfl rfl rfl) hb3⟩, iaQ rfl (zaj rfl) rfl, trivial⟩
 simp only [List.drop_succ_cons, List.drop_zero]
 refine zbb 1 rfl ?_
 exact zav (zbg rfl rfl rfl)
open Go.RowKit
open Go.RowKit
theorem TableNot_ret (n x : Int) (w : World) (hn : 0 ≤ n ∧ n ≤ 4) (ha : 0 ≤ x ∧ x ≤ qn n - 1) :
   Calls Try.prog 82 #[.agg #[.int .i64 n, .int .i64 x]] w (Ret w (fun v' post => post = [] ∧ ∃ t : Tab, TabOk t ∧ t.N = n ∧ v' = .agg #[.int .i64 t.N, .int .i64 t.B])) := by
 have hq := qn_rng hn
 refine zbf (N := 16) (args := [.agg #[.int .i64 n, .int .i64 x]]) Try.func82 rfl rfl (srQ ?_)
 refine zdt rfl (zct rfl rfl) ?_
 intro b1
 refine zdt rfl (zbm (z := .agg #[.int .i64 0, .int .i64 0]) rfl rfl) ?_
 intro b2
 refine ntQ (zfl (hvQ rfl (zar (cs := [.int .i64 n, .int .i64 x]) rfl rfl rfl rfl rfl (zam 1 rfl 0 rfl)) ?_))
 refine zdn rfl (zal rfl rfl (fun w hm => zas (specTableOk_yes ⟨n, x⟩ w ⟨(by show 0 ≤ n ∧ n ≤ 4; omega), (by show 0 ≤ x ∧ x ≤ qn (n) - 1; omega)⟩))) (zbb 1 rfl (zaq rfl (zcp (zac ?_))))
 refine zbk 9 [[], [0], [], [2], [3], [], [5], [4, 6], [1, 7]] [7, 8, 9, 10, 11, 12, 13, 14, 15] [.pointer (some ⟨b1, 0 + 0, none⟩), .int .i64 n, .pointer (some ⟨b1, 0 + 0, none⟩), .int .i64 n, .int .i64 (qn n - 1), .pointer (some ⟨b1, 0 + 1, none⟩), .int .i64 x, .int .i64 ((qn n - 1) - x), .agg #[.int .i64 n, .int .i64 ((qn n - 1) - x)]] (by kernel_rfl) rfl ?_ ?_
 ·
  exact ⟨iaQ rfl (fdQ 0 rfl rfl rfl) rfl, iaQ rfl (zag rfl rfl rfl (zad 1 rfl rfl)) rfl, iaQ rfl (fdQ 0 rfl rfl rfl) rfl, iaQ rfl (zag rfl rfl rfl (zad 1 rfl rfl)) rfl, .inl ⟨rfl, zal rfl rfl (fun w hm => zas (l02Full_ans _ w (by omega)))⟩, iaQ rfl (fdQ 1 rfl rfl rfl) rfl, iaQ rfl (zag rfl rfl rfl (zad 1 rfl rfl)) rfl, iaQ rfl (vsQ rfl rfl rfl) rfl, iaQ rfl (zda (cs := #[.int .i64 n, .int .i64 ((qn n - 1) - x)]) rfl rfl rfl) rfl, trivial⟩
 simp only [List.drop_succ_cons, List.drop_zero]
 refine zbr (cs' := #[.int .i64 n, .int .i64 ((qn n - 1) - x)]) (i := 0) (off := 0) (us := [.int .i64 n, .int .i64 ((qn n - 1) - x)]) rfl rfl rfl rfl rfl rfl rfl (zae rfl (zae rfl zbj)) rfl rfl rfl (ntQ ?_)
 exact zav (zdp (rs := [.cell 2 75]) (vs := [.agg #[.int .i64 n, .int .i64 ((qn n - 1) - x)]]) (post := []) rfl ⟨⟨b2, 0, [.int .i64 n, .int .i64 ((qn n - 1) - x)], rfl, rfl, by kernel_rfl, by kernel_rfl, zam 0 rfl 0 rfl⟩, trivial⟩ rfl (slQ [] rfl) ⟨rfl, ⟨n, (qn n - 1) - x⟩, ⟨hn, by constructor <;> dsimp only <;> omega⟩, rfl, rfl⟩)
def opn (n : Nt) (cut : List Int) : Nat → List Bl → Bool
  | 0, _ => true
  | k + 1, bs => if (bs.getD (k + 1) bl0).b = false ∨ hasB cut ((k + 1 : Nat) : Int) = true then opn n cut k bs
    else if ((k + 1 : Nat) : Int) < n.fst then false
    else opn n cut k ((bs.set ((n.gs.getD (((k + 1 : Nat) : Int) - n.fst).toNat an0).a / 2).toNat ⟨true⟩).set ((n.gs.getD (((k + 1 : Nat) : Int) - n.fst).toNat an0).b / 2).toNat ⟨true⟩)
theorem opn_skip {n : Nt} {cut : List Int} {k : Nat} {bs : List Bl} (hk : 0 < k) (h : (bs.getD k bl0).b = false ∨ hasB cut (k : Int) = true) : opn n cut k bs = opn n cut (k - 1) bs := by
  obtain ⟨j, rfl⟩ : ∃ j, k = j + 1 := ⟨k - 1, by omega⟩
  rw [opn, if_pos h]; rfl
theorem opn_no {n : Nt} {cut : List Int} {k : Nat} {bs : List Bl} (hk : 0 < k) (h1 : (bs.getD k bl0).b = true) (h2 : hasB cut (k : Int) = false) (h3 : (k : Int) < n.fst) : opn n cut k bs = false := by
  obtain ⟨j, rfl⟩ : ∃ j, k = j + 1 := ⟨k - 1, by omega⟩
  rw [opn, if_neg (by rw [h1, h2]; decide), if_pos h3]
theorem opn_step {n : Nt} {cut : List Int} {k : Nat} {bs : List Bl} (hk : 0 < k) (h1 : (bs.getD k bl0).b = true) (h2 : hasB cut (k : Int) = false) (h3 : n.fst ≤ (k : Int)) :
    opn n cut k bs = opn n cut (k - 1) ((bs.set ((n.gs.getD ((k : Int) - n.fst).toNat an0).a / 2).toNat ⟨true⟩).set ((n.gs.getD ((k : Int) - n.fst).toNat an0).b / 2).toNat ⟨true⟩) := by
  obtain ⟨j, rfl⟩ : ∃ j, k = j + 1 := ⟨k - 1, by omega⟩
  rw [opn, if_neg (by rw [h1, h2]; decide), if_neg (by omega)]; rfl
abbrev opn0 (n : Nt) (node : Int) : List Bl := (List.replicate n.cnt.toNat bl0).set node.toNat ⟨true⟩
def ElP (n : Nt) (node : Int) (cut : List Int) (i : Nat) : Prop := hasB (coneS n node) (cut.getD i 0) = true ∧ (0 < i → cut.getD (i - 1) 0 < cut.getD i 0)
structure CutP (n : Nt) (node : Int) (cut : List Int) : Prop where
  len : cut.length ≤ 4
  el : ∀ i, i < cut.length → ElP n node cut i
  op : opn n cut node.toNat (opn0 n node) = true
theorem elP_no {n : Nt} {node : Int} {cut : List Int} {i : Nat} (h : hasB (coneS n node) (cut.getD i 0) = false ∨ (0 < i ∧ cut.getD i 0 ≤ cut.getD ((i : Int) - 1).toNat 0)) : ¬ ElP n node cut i := fun he => by
  rcases h with h | ⟨h0, h⟩
  · rw [he.1] at h; cases h
  · have := he.2 h0
    rw [show ((i : Int) - 1).toNat = i - 1 by omega] at h
    omega
theorem elP_yes {n : Nt} {node : Int} {cut : List Int} {i : Nat} (h : hasB (coneS n node) (cut.getD i 0) = true) (h1 : (i : Int) ≤ 0 ∨ cut.getD ((i : Int) - 1).toNat 0 < cut.getD i 0) : ElP n node cut i := ⟨h, fun h0 => by
  rcases h1 with h1 | h1
  · omega
  · rwa [show ((i : Int) - 1).toNat = i - 1 by omega] at h1⟩
theorem CutP.rng {n : Nt} (hn : NtOk n) {node : Int} (h0 : 0 ≤ node) {cut : List Int} (h : CutP n node cut) {i : Nat} (hi : i < cut.length) : 0 ≤ cut.getD i 0 ∧ cut.getD i 0 ≤ node := coneS_rng hn h0 _ (hasBE_mem.1 (h.el i hi).1)
structure MapP (n : Nt) (rs : List CRow) : Prop where
  len : rs.length = n.gs.length
  cut : ∀ i, i < rs.length → CutP n (n.fst + (i : Int)) (rs.getD i crow0).xs ∧ hasB (rs.getD i crow0).xs (n.fst + (i : Int)) = false
theorem MapP.below {n : Nt} (hn : NtOk n) {rs : List CRow} (h : MapP n rs) {i : Nat} (hi : i < rs.length) {k : Nat} (hk : k < (rs.getD i crow0).xs.length) : 0 ≤ (rs.getD i crow0).xs.getD k 0 ∧ (rs.getD i crow0).xs.getD k 0 < n.fst + (i : Int) := by
  have hc := h.cut i hi
  have hf : 0 ≤ n.fst := by have := hn.i0; unfold Nt.fst; omega
  have h1 := hc.1.rng hn (by omega) hk
  have hne : (rs.getD i crow0).xs.getD k 0 ≠ n.fst + (i : Int) := fun e => by
    have := hasBE_at hk e
    rw [hc.2] at this; cases this
  omega
theorem b01_set {v : List Int} (h : B01 v) {k : Nat} {x : Int} (hx : x = 0 ∨ x = 1) : B01 (v.set k x) := fun j hj => by
  rw [List.length_set] at hj
  by_cases e : k = j
  · subst e; rw [zcg hj]; exact hx
  · rw [List.getD_eq_getElem?_getD, List.getElem?_set_ne e, ← List.getD_eq_getElem?_getD]; exact h j hj
theorem b01_rep (n : Nat) : B01 (List.replicate n 0) := fun k hk => by rw [List.length_replicate] at hk; rw [getD_rep' hk]; exact .inl rfl
theorem pow16 {k : Nat} (h : k ≤ 16) : (0 : Int) < 2 ^ k ∧ (2 : Int) ^ k ≤ 65536 := by
  have h1 : (2 : Nat) ^ k ≤ 2 ^ 16 := Nat.pow_le_pow_right (by decide) h
  have h2 : ((2 ^ k : Nat) : Int) = (2 : Int) ^ k := by push_cast; rfl
  have h3 : 0 < (2 : Nat) ^ k := Nat.pow_pos (by decide)
  have h4 : (2 : Nat) ^ 16 = 65536 := by decide
  rw [← h2]; omega
theorem shl_bitE {b : Int} {k : Nat} (hb : b = 0 ∨ b = 1) (hk : k ≤ 16) : IntKind.i64.wrap (b * 2 ^ ((k : Int)).toNat) = b * 2 ^ k := by
  have hp := pow16 hk
  rw [Int.toNat_natCast]
  exact IntWalk.i64_in _ (by rcases hb with e | e <;> rw [e] <;> omega)
theorem bits_next {b x : Int} {i : Nat} (hb : 0 ≤ b ∧ b < 2 ^ i) (hx : x = 0 ∨ x = 1) : 0 ≤ b + x * 2 ^ i ∧ b + x * 2 ^ i < 2 ^ (i + 1) := by
  have hp : (0 : Int) < 2 ^ i := Int.pow_pos (by decide)
  rw [Int.pow_succ]
  rcases hx with e | e <;> rw [e] <;> omega
theorem bits_all {m b : Int} (hm : 0 ≤ m ∧ m ≤ 4) {i : Nat} (hi : i = pn m) (hb : 0 ≤ b ∧ b < 2 ^ i) : TabOk (Tab.mk m b) := by
  subst hi
  refine ⟨hm, hb.1, ?_⟩
  show b ≤ 2 ^ (2 ^ m.toNat) - 1
  have := hb.2
  unfold pn at this
  omega
theorem CutOkE_ans (n : Nt) (node : Int) (cut : List Int) (cv : Value) (w : World) (hr : RdsNt w n) (hn : NtOk n) (hcr : RdsW w cv 1 cut.length (cut.map (Value.int .i64))) (hnd : 0 ≤ node ∧ node < n.cnt) (hcl9 : cut.length ≤ 100000) :
   Calls Try.prog 93 #[.agg #[.int .i64 n.ins, n.sv, n.av, n.ov], .int .i64 node, cv] w (Ans w (.bool (pBe (CutP n node cut)))) := by
 have hi0 := hn.i0
 have hi1 := hn.i1
 have hs1 := hn.s1
 have ha1 := hn.a1
 have ho1 := hn.o1
 have hcnt : n.cnt = 1 + n.ins + n.ss.length + n.gs.length := rfl
 have hfst : n.fst = 1 + n.ins + n.ss.length := rfl
 refine zbf (N := 105) (args := [.agg #[.int .i64 n.ins, n.sv, n.av, n.ov], .int .i64 node, cv]) Try.func93 rfl rfl (srQ ?_)
 refine zdt rfl (zct rfl rfl) ?_
 intro b1
 refine zbb 1 rfl (zfl (hvQ rfl (zar (cs := [.int .i64 n.ins, n.sv, n.av, n.ov]) rfl rfl rfl rfl rfl (zam 0 rfl 0 rfl)) ?_))
 refine zdn rfl (zal rfl rfl (fun w hm => zas (zds n w (hr.below hm.bel) hn))) (zan 3 rfl ?_)
 refine zbh rfl rfl rfl rfl rfl rfl (fun h2 => absurd h2 (by omega)) (fun h2 => ?_)
 refine zan 3 rfl (hvQ rfl (zar (cs := [.int .i64 n.ins, n.sv, n.av, n.ov]) rfl rfl rfl rfl rfl (zam 0 rfl 0 rfl)) ?_)
 refine zdn rfl (zal rfl rfl (fun w hm => zas (zbs n w (hr.below hm.bel) hn))) (zfh rfl rfl rfl rfl rfl rfl (fun h3 => absurd h3 (by omega)) (fun h3 => ?_))
 refine zan 3 rfl (hvQ rfl (lnQ rfl rfl rfl (zaa hcr)) ?_)
 refine zfa rfl rfl rfl rfl rfl rfl (fun h4 => ?_) (fun h4 => ?_)
 ·
  refine zbb 1 rfl (zao rfl (zbc 1 rfl ?_))
  refine zav (zap ?_)
  exact zbg rfl rfl (congrArg Value.bool (pBe_no (p := CutP n node cut) (fun h => by have h9 := h.len; omega)).symm)
 refine zbb 1 rfl (zaq rfl (zcp (srQ (hvQ rfl (zar (cs := [.int .i64 n.ins, n.sv, n.av, n.ov]) rfl rfl rfl rfl rfl (zam 0 rfl 0 rfl)) (zan 1 rfl ?_)))))
 refine hl_q rfl rfl rfl (zal rfl rfl (fun w hm => Cone_ret n node w (hr.below hm.bel) hn hnd)) ?_
 intro v5 p6 hR7
 subst hR7
 have hcl := coneS_len n node (by omega)
 refine zbb 1 rfl (zac (zbc 1 rfl (zaw ?_)))
 refine hc_loop1 (α := Nat) (fun j => [rowE 3 1 v5 ((coneS n node).length) ((coneS n node).map (Value.int .i64)), boxE b1 #[.int .i64 n.ins, n.sv, n.av, n.ov] 101]) (fun j => [(0, .agg #[.int .i64 n.ins, n.sv, n.av, n.ov]), (1, .int .i64 node), (2, cv), (3, .pointer (some ⟨b1, 0, none⟩)), (6, .bool false), (7, v5), (8, .int .i64 (j : Int)), (29, .bool false)]) (fun j => j ≤ cut.length ∧ ∀ i, i < j → ElP n node cut i) (fun j => cut.length - j) 0 ⟨Nat.zero_le _, fun i hi => absurd hi (by omega)⟩ (saQ rfl) (pfQ rfl) ?_
 intro j hi8
 obtain ⟨hj, hel⟩ := hi8
 refine zac (zac (reQ 2 rfl (hvQ rfl (lnQ rfl rfl rfl (zaa hcr)) ?_)))
 refine zbh rfl rfl rfl rfl rfl rfl (fun h9 => ?_) (fun h9 => ?_)
 ·
  refine ntQ (zao rfl (zcp (sbQ (zac ?_))))
  rcases Bool.eq_false_or_eq_true (hasB (coneS n node) (cut.getD j 0)) with hb10 | hb10
  ·
   rcases Bool.eq_false_or_eq_true (decide (0 < (j : Int))) with hb11 | hb11
   ·
    have hb11p : 0 < (j : Int) := of_decide_eq_true hb11
    rcases Bool.eq_false_or_eq_true (decide (cut.getD j 0 ≤ cut.getD (((j : Int) - 1).toNat) 0)) with hb12 | hb12
    ·
     have hb12p : cut.getD j 0 ≤ cut.getD (((j : Int) - 1).toNat) 0 := of_decide_eq_true hb12
     refine zbk 23 [[], [], [], [1, 2], [3], [0, 4], [5], [6], [7], [7, 8], [7, 9], [10], [10], [10, 11, 12], [10, 13], [10], [10], [10, 16], [10, 15, 17], [10, 18], [10, 14, 19], [7, 10, 20], [7, 21]] [39, 40, 41, 42, 43, 44, 45, 46, 47, 48, 49, 50, 51, 52, 53, 54, 55, 56, 57, 58, 59, 60, 61] [v5, cv, .int .i64 (j : Int), elP cv (((j : Int)).toNat * 1), .int .i64 (cut.getD j 0), .bool true, .bool false, .bool false, .int .i64 (j : Int), .bool true, .bool true, cv, .int .i64 (j : Int), elP cv (((j : Int)).toNat * 1), .int .i64 (cut.getD j 0), cv, .int .i64 (j : Int), .int .i64 ((j : Int) - 1), elP cv (((j : Int) - 1).toNat * 1), .int .i64 (cut.getD (((j : Int) - 1).toNat) 0), .bool true, .bool true, .bool true] (by kernel_rfl) rfl ?_ ?_
     ·
      exact ⟨iaQ rfl (zaj rfl) rfl, iaQ rfl (zaj rfl) rfl, iaQ rfl (zaj rfl) rfl, iaQ rfl (riQ 1 rfl rfl rfl rfl (zaa hcr)) rfl, iaQ rfl (liQ rfl rfl rfl (zaa hcr)) rfl, .inl ⟨rfl, zfq (zal rfl rfl (fun w hm => zas (zes (coneS n node) (cut.getD j 0) _ w ((zah 0 rfl) w hm) (by omega)))) hb10⟩, iaQ rfl (zaj rfl) rfl, iaQ rfl (zaj rfl) rfl, iaQ rfl (zaj rfl) rfl, .inl ⟨rfl, zcz (zcd rfl rfl rfl rfl) hb11⟩, iaQ rfl (zaj rfl) rfl, iaQ rfl (zaj rfl) rfl, iaQ rfl (zaj rfl) rfl, iaQ rfl (riQ 1 rfl rfl rfl rfl (zaa hcr)) rfl, iaQ rfl (liQ rfl rfl rfl (zaa hcr)) rfl, iaQ rfl (zaj rfl) rfl, iaQ rfl (zaj rfl) rfl, iaQ rfl (vsQ rfl rfl rfl) rfl, iaQ rfl (riQ 1 rfl rfl rfl rfl (zaa hcr)) rfl, iaQ rfl (lzQ rfl rfl rfl (zaa hcr)) rfl, .inl ⟨rfl, zcz (zcd rfl rfl rfl rfl) hb12⟩, iaQ rfl (zaj rfl) rfl, iaQ rfl (zaj rfl) rfl, trivial⟩
     simp only [List.drop_succ_cons, List.drop_zero]
     refine ntQ (zao rfl (zbc 1 rfl ?_))
     refine zav (zak ?_)
     refine zfs ?_
     refine zak (zap ?_)
     exact zbg rfl rfl (congrArg Value.bool (pBe_no (p := CutP n node cut) (fun h => elP_no (by first | exact .inl (by assumption) | exact .inr ⟨by omega, by omega⟩) (h.el j (by omega)))).symm)
    have hb12p : ¬ (cut.getD j 0 ≤ cut.getD (((j : Int) - 1).toNat) 0) := of_decide_eq_false hb12
    refine zbk 23 [[], [], [], [1, 2], [3], [0, 4], [5], [6], [7], [7, 8], [7, 9], [10], [10], [10, 11, 12], [10, 13], [10], [10], [10, 16], [10, 15, 17], [10, 18], [10, 14, 19], [7, 10, 20], [7, 21]] [39, 40, 41, 42, 43, 44, 45, 46, 47, 48, 49, 50, 51, 52, 53, 54, 55, 56, 57, 58, 59, 60, 61] [v5, cv, .int .i64 (j : Int), elP cv (((j : Int)).toNat * 1), .int .i64 (cut.getD j 0), .bool true, .bool false, .bool false, .int .i64 (j : Int), .bool true, .bool true, cv, .int .i64 (j : Int), elP cv (((j : Int)).toNat * 1), .int .i64 (cut.getD j 0), cv, .int .i64 (j : Int), .int .i64 ((j : Int) - 1), elP cv (((j : Int) - 1).toNat * 1), .int .i64 (cut.getD (((j : Int) - 1).toNat) 0), .bool false, .bool false, .bool false] (by kernel_rfl) rfl ?_ ?_
    ·
     exact ⟨iaQ rfl (zaj rfl) rfl, iaQ rfl (zaj rfl) rfl, iaQ rfl (zaj rfl) rfl, iaQ rfl (riQ 1 rfl rfl rfl rfl (zaa hcr)) rfl, iaQ rfl (liQ rfl rfl rfl (zaa hcr)) rfl, .inl ⟨rfl, zfq (zal rfl rfl (fun w hm => zas (zes (coneS n node) (cut.getD j 0) _ w ((zah 0 rfl) w hm) (by omega)))) hb10⟩, iaQ rfl (zaj rfl) rfl, iaQ rfl (zaj rfl) rfl, iaQ rfl (zaj rfl) rfl, .inl ⟨rfl, zcz (zcd rfl rfl rfl rfl) hb11⟩, iaQ rfl (zaj rfl) rfl, iaQ rfl (zaj rfl) rfl, iaQ rfl (zaj rfl) rfl, iaQ rfl (riQ 1 rfl rfl rfl rfl (zaa hcr)) rfl, iaQ rfl (liQ rfl rfl rfl (zaa hcr)) rfl, iaQ rfl (zaj rfl) rfl, iaQ rfl (zaj rfl) rfl, iaQ rfl (vsQ rfl rfl rfl) rfl, iaQ rfl (riQ 1 rfl rfl rfl rfl (zaa hcr)) rfl, iaQ rfl (lzQ rfl rfl rfl (zaa hcr)) rfl, .inl ⟨rfl, zcz (zcd rfl rfl rfl rfl) hb12⟩, iaQ rfl (zaj rfl) rfl, iaQ rfl (zaj rfl) rfl, trivial⟩
    simp only [List.drop_succ_cons, List.drop_zero]
    refine ntQ (fsQ rfl (zcv (reQ 1 rfl (hvQ rfl (vaQ rfl rfl rfl) (enQ 1 rfl ?_)))))
    exact zck (j + 1) ⟨by omega, fun i hi => by by_cases e : i = j; (subst e; exact elP_yes (by assumption) (by first | exact .inl (by omega) | exact .inr (by omega))); exact hel i (by omega)⟩ (by omega) (saQ rfl) (pfQ rfl)
   have hb11p : ¬ (0 < (j : Int)) := of_decide_eq_false hb11
   refine zbk 23 [[], [], [], [1, 2], [3], [0, 4], [5], [6], [7], [7, 8], [7, 9], [10], [10], [10], [10], [10], [10], [10], [10], [10], [10], [7, 10, 20], [7, 21]] [39, 40, 41, 42, 43, 44, 45, 46, 47, 48, 49, 50, 51, 52, 53, 54, 55, 56, 57, 58, 59, 60, 61] [v5, cv, .int .i64 (j : Int), elP cv (((j : Int)).toNat * 1), .int .i64 (cut.getD j 0), .bool true, .bool false, .bool false, .int .i64 (j : Int), .bool false, .bool false, undef, undef, undef, undef, undef, undef, undef, undef, undef, undef, .bool false, .bool false] (by kernel_rfl) rfl ?_ ?_
   ·
    exact ⟨iaQ rfl (zaj rfl) rfl, iaQ rfl (zaj rfl) rfl, iaQ rfl (zaj rfl) rfl, iaQ rfl (riQ 1 rfl rfl rfl rfl (zaa hcr)) rfl, iaQ rfl (liQ rfl rfl rfl (zaa hcr)) rfl, .inl ⟨rfl, zfq (zal rfl rfl (fun w hm => zas (zes (coneS n node) (cut.getD j 0) _ w ((zah 0 rfl) w hm) (by omega)))) hb10⟩, iaQ rfl (zaj rfl) rfl, iaQ rfl (zaj rfl) rfl, iaQ rfl (zaj rfl) rfl, .inl ⟨rfl, zcz (zcd rfl rfl rfl rfl) hb11⟩, iaQ rfl (zaj rfl) rfl, .inr ⟨rfl, rfl⟩, .inr ⟨rfl, rfl⟩, .inr ⟨rfl, rfl⟩, .inr ⟨rfl, rfl⟩, .inr ⟨rfl, rfl⟩, .inr ⟨rfl, rfl⟩, .inr ⟨rfl, rfl⟩, .inr ⟨rfl, rfl⟩, .inr ⟨rfl, rfl⟩, .inr ⟨rfl, rfl⟩, iaQ rfl (zaj rfl) rfl, iaQ rfl (zaj rfl) rfl, trivial⟩
   simp only [List.drop_succ_cons, List.drop_zero]
   refine ntQ (fsQ rfl (zcv (reQ 1 rfl (hvQ rfl (vaQ rfl rfl rfl) (enQ 1 rfl ?_)))))
   exact zck (j + 1) ⟨by omega, fun i hi => by by_cases e : i = j; (subst e; exact elP_yes (by assumption) (by first | exact .inl (by omega) | exact .inr (by omega))); exact hel i (by omega)⟩ (by omega) (saQ rfl) (pfQ rfl)
  refine zbk 23 [[], [], [], [1, 2], [3], [0, 4], [5], [6], [7], [7], [7], [10], [10], [10], [10], [10], [10], [10], [10], [10], [10], [7], [7, 21]] [39, 40, 41, 42, 43, 44, 45, 46, 47, 48, 49, 50, 51, 52, 53, 54, 55, 56, 57, 58, 59, 60, 61] [v5, cv, .int .i64 (j : Int), elP cv (((j : Int)).toNat * 1), .int .i64 (cut.getD j 0), .bool false, .bool true, .bool true, undef, undef, undef, undef, undef, undef, undef, undef, undef, undef, undef, undef, undef, undef, .bool true] (by kernel_rfl) rfl ?_ ?_
  ·
   exact ⟨iaQ rfl (zaj rfl) rfl, iaQ rfl (zaj rfl) rfl, iaQ rfl (zaj rfl) rfl, iaQ rfl (riQ 1 rfl rfl rfl rfl (zaa hcr)) rfl, iaQ rfl (liQ rfl rfl rfl (zaa hcr)) rfl, .inl ⟨rfl, zfq (zal rfl rfl (fun w hm => zas (zes (coneS n node) (cut.getD j 0) _ w ((zah 0 rfl) w hm) (by omega)))) hb10⟩, iaQ rfl (zaj rfl) rfl, iaQ rfl (zaj rfl) rfl, .inr ⟨rfl, rfl⟩, .inr ⟨rfl, rfl⟩, .inr ⟨rfl, rfl⟩, .inr ⟨rfl, rfl⟩, .inr ⟨rfl, rfl⟩, .inr ⟨rfl, rfl⟩, .inr ⟨rfl, rfl⟩, .inr ⟨rfl, rfl⟩, .inr ⟨rfl, rfl⟩, .inr ⟨rfl, rfl⟩, .inr ⟨rfl, rfl⟩, .inr ⟨rfl, rfl⟩, .inr ⟨rfl, rfl⟩, .inr ⟨rfl, rfl⟩, iaQ rfl (zaj rfl) rfl, trivial⟩
  simp only [List.drop_succ_cons, List.drop_zero]
  refine ntQ (zao rfl (zbc 1 rfl ?_))
  refine zav (zak ?_)
  refine zfs ?_
  refine zak (zap ?_)
  exact zbg rfl rfl (congrArg Value.bool (pBe_no (p := CutP n node cut) (fun h => elP_no (by first | exact .inl (by assumption) | exact .inr ⟨by omega, by omega⟩) (h.el j (by omega)))).symm)
 refine ntQ (zaq rfl ?_)
 refine zaz (zdr ?_)
 refine zaf (zax (srQ (hvQ rfl (zar (cs := [.int .i64 n.ins, n.sv, n.av, n.ov]) rfl rfl rfl rfl rfl (zam 1 rfl 0 rfl)) ?_)))
 refine zdn rfl (zal rfl rfl (fun w hm => zas (zbs n w (hr.below hm.bel) hn))) (zdu rfl (zei (z := .bool false) (s := 1) (bytes := 1) (n := (List.replicate (n.cnt).toNat bl0).length) (cs := ((List.replicate (n.cnt).toNat bl0).flatMap blC)) rfl Try.underlying80 rfl (by decide) rfl rfl (by first | (rw [List.length_replicate]; done) | (rw [List.length_replicate]; omega)) (by first | (rw [List.length_replicate]; done) | (rw [List.length_replicate]; omega)) (by rw [List.length_replicate]; omega) (zey blC 1 (fun _ => rfl) bl0 _ rfl (n.cnt).toNat)) ?_)
 intro g13
 refine zbb 1 rfl (zac (reQ 2 rfl ?_))
 have hrl : (List.replicate n.cnt.toNat bl0).length = n.cnt.toNat := List.length_replicate
 refine hvQ rfl (riQ 1 rfl rfl rfl rfl (zah 0 rfl)) (zcw (i := 0) (n' := ((List.replicate (n.cnt).toNat bl0).set ((node).toNat) { (List.replicate (n.cnt).toNat bl0).getD ((node).toNat) bl0 with b := true }).length) rfl rfl rfl rfl rfl rfl rfl rfl (by first | omega | (simp only [List.length_set]; omega)) List.length_set.symm (zdf blC (fun r => .bool r.b) (fun _ => rfl) _ ({ (List.replicate (n.cnt).toNat bl0).getD ((node).toNat) bl0 with b := true }) rfl) rfl ?_)
 refine ntQ (zac (zbc 2 rfl (zaw ?_)))
 refine zfw (α := Nat) (β := List Bl) (fun k bs => [rowE 4 1 (.slice (some ⟨g13, 0, none⟩) ((List.replicate (n.cnt).toNat bl0).length) ((List.replicate (n.cnt).toNat bl0).length)) bs.length (bs.flatMap blC), rowE 3 1 v5 ((coneS n node).length) ((coneS n node).map (Value.int .i64)), boxE b1 #[.int .i64 n.ins, n.sv, n.av, n.ov] 101]) (fun k bs => [(0, .agg #[.int .i64 n.ins, n.sv, n.av, n.ov]), (1, .int .i64 node), (2, cv), (3, .pointer (some ⟨b1, 0, none⟩)), (6, .bool false), (7, v5), (9, .slice (some ⟨g13, 0, none⟩) ((List.replicate (n.cnt).toNat bl0).length) ((List.replicate (n.cnt).toNat bl0).length)), (10, .int .i64 (k : Int)), (29, .bool false), (36, .bool false)]) (fun k bs => (k : Int) ≤ node ∧ opn n cut node.toNat (opn0 n node) = opn n cut k bs ∧ bs.length = n.cnt.toNat) (fun k bs => k) node.toNat _ ⟨by omega, rfl, by rw [List.length_set, List.length_replicate]⟩ (zbe [9, 7, 6, 3, 2, 1, 0] _ (sk 10 (congrArg (fun x => some (Value.int .i64 x)) (by omega)) (zai [36, 29] rfl)) rfl) (pfQ rfl) ?_
 intro k bs hi14
 obtain ⟨hk, hop, hbl⟩ := hi14
 refine zac (zac (reQ 1 rfl ?_))
 refine zfa rfl rfl rfl rfl rfl rfl (fun h15 => ?_) (fun h15 => ?_)
 ·
  refine ntQ (zao rfl (zcp (sbQ (zac (zac (reQ 2 rfl (hvQ rfl (riQ 1 rfl rfl rfl rfl (zah 0 rfl)) ?_)))))))
  refine hvQ rfl (zat (u := .bool ((bs.getD k bl0).b)) rfl rfl rfl (zah 0 rfl) (zbn blC (fun r => .bool r.b) (fun _ => rfl) bs bl0 (show k < _ by omega))) (zbl (fun h16 => ?_) (fun h16 => ?_))
  ·
   have hmk := h16
   refine zan 4 rfl (zdn rfl (zal rfl rfl (fun w hm => zas (zes cut (k : Int) _ w ((zaa hcr) w hm) (by omega)))) ?_)
   refine zbl (fun h17 => ?_) (fun h17 => ?_)
   ·
    refine zbb 1 rfl (zao rfl ?_)
    refine zaz (zeg ?_)
    refine zaf (zax (reQ 1 rfl (hvQ rfl (vsQ rfl rfl rfl) (enQ 1 rfl ?_))))
    exact zbv (k - 1) bs ⟨by omega, hop.trans (opn_skip (by omega) (by first | exact .inl hmk | exact .inr (by assumption))), by first | omega | (simp only [List.length_set]; omega)⟩ (by omega) (zbe [9, 7, 6, 3, 2, 1, 0] _ (sk 10 (congrArg (fun x => some (Value.int .i64 x)) (by omega)) (zai [36, 29] rfl)) rfl) (pfQ rfl)
   refine zbb 1 rfl (zaq rfl (zcp (zac (zac (reQ 1 rfl (hvQ rfl (zar (cs := [.int .i64 n.ins, n.sv, n.av, n.ov]) rfl rfl rfl rfl rfl (zam 2 rfl 0 rfl)) ?_))))))
   refine zdn rfl (zal rfl rfl (fun w hm => zas (zbz n w (hr.below hm.bel) hn))) (zbh rfl rfl rfl rfl rfl rfl (fun h18 => ?_) (fun h18 => ?_))
   ·
    refine ntQ (zao rfl (zbc 1 rfl ?_))
    refine zav (zap ?_)
    refine zak (zfs ?_)
    refine zak (zap ?_)
    exact zbg rfl rfl (congrArg Value.bool (pBe_no (p := CutP n node cut) (fun h => by have h9 := h.op; rw [hop, opn_no (by omega) hmk (by assumption) (by omega)] at h9; cases h9)).symm)
   refine ntQ (zaq rfl (zcp (zac ?_)))
   have hani := hn.an ((k : Int) - n.fst).toNat (by omega)
   unfold LtOk at hani
   refine zdq rfl 9 [0, 1, 2, 3, 4, 5, 6, 7, 8] (List.take 9 _) (List.drop 9 _) [[], [0], [], [], [3], [2, 4], [1, 5], [6], []] [87, 88, 89, 90, 91, 92, 93, 94, 11] (fun i_ vs_ v_ p_ => match i_ with | 0 => v_ = .pointer (some ⟨b1, 0 + 2, none⟩) ∧ p_ = [] | 1 => v_ = n.av ∧ p_ = [] | 2 => v_ = .int .i64 (k : Int) ∧ p_ = [] | 3 => v_ = .agg #[.int .i64 n.ins, n.sv, n.av, n.ov] ∧ p_ = [] | 4 => v_ = .int .i64 n.fst ∧ p_ = [] | 5 => v_ = .int .i64 ((k : Int) - n.fst) ∧ p_ = [] | 6 => v_ = elP n.av (((k : Int) - n.fst).toNat * 2) ∧ p_ = [] | 7 => v_ = .agg #[.int .i64 ((n.gs.getD (((k : Int) - n.fst).toNat) an0).a), .int .i64 ((n.gs.getD (((k : Int) - n.fst).toNat) an0).b)] ∧ p_ = [] | 8 => IsBox #[.int .i64 0, .int .i64 0] 124 v_ p_ | _ => True) (List.take_append_drop 9 _).symm (by kernel_rfl) (by kernel_rfl) rfl rfl ?_ ?_
   ·
    refine ⟨?_, ?_, ?_, ?_, ?_, ?_, ?_, ?_, ?_, trivial⟩
    ·
     intro vf pf hR
     exact ovQ rfl (zai [3] rfl) (zbd (fdQ 2 rfl rfl rfl))
    ·
     intro vf pf hR
     have e0 := hR 0 (by decide)
     exact olQ rfl (sk 87 (congrArg some e0.1) (zab _)) (zbd (zag rfl rfl rfl (zad 2 rfl rfl)))
    ·
     intro vf pf hR
     exact ovQ rfl (zai [10] rfl) (zbd (zaj rfl))
    ·
     intro vf pf hR
     exact olQ rfl (zai [3] rfl) (zbd (zar (cs := [.int .i64 n.ins, n.sv, n.av, n.ov]) rfl rfl rfl rfl rfl (zam 2 rfl 0 rfl)))
    ·
     intro vf pf hR
     have e3 := hR 3 (by decide)
     exact olQ rfl (sk 90 (congrArg some e3.1) (zab _)) (zal rfl rfl (fun w hm => zas (zbz n w (hr.below hm.bel) hn)))
    ·
     intro vf pf hR
     have e2 := hR 2 (by decide)
     have e4 := hR 4 (by decide)
     exact ovQ rfl (sk 89 (congrArg some e2.1) (sk 91 (congrArg some e4.1) (zab _))) (zbd (vsQ rfl rfl rfl))
    ·
     intro vf pf hR
     have e1 := hR 1 (by decide)
     have e5 := hR 5 (by decide)
     exact olQ rfl (sk 88 (congrArg some e1.1) (sk 92 (congrArg some e5.1) (zab _))) (zbd (riQ 2 rfl rfl rfl rfl (zaa hr.an)))
    ·
     intro vf pf hR
     have e6 := hR 6 (by decide)
     exact olQ rfl (sk 93 (congrArg some e6.1) (zab _)) (zbd (zcl (us := [.int .i64 ((n.gs.getD (((k : Int) - n.fst).toNat) an0).a), .int .i64 ((n.gs.getD (((k : Int) - n.fst).toNat) an0).b)]) rfl rfl rfl rfl (zaa hr.an) (by omega) rfl (zde anC 2 (fun _ => rfl) n.gs an0 (show ((k : Int) - n.fst).toNat < _ by omega) rfl)))
    intro vf pf hR
    exact olQ rfl (zab _) (zbm (z := .agg #[.int .i64 0, .int .i64 0]) rfl rfl)
   intro vf pf hR
   have e7 := hR 7 (by decide)
   have e8 : IsBox #[.int .i64 0, .int .i64 0] 124 (vf 8) (pf 8) := hR 8 (by decide)
   obtain ⟨b19, vE8, pE8⟩ := e8
   have q0 := hR 0 (by decide)
   have q1 := hR 1 (by decide)
   have q2 := hR 2 (by decide)
   have q3 := hR 3 (by decide)
   have q4 := hR 4 (by decide)
   have q5 := hR 5 (by decide)
   have q6 := hR 6 (by decide)
   have q7 := hR 7 (by decide)
   refine zce (zbe [10, 9, 7, 6, 3, 2, 1, 0] _ (sk 11 (congrArg some vE8) (zbe [86, 82, 70, 36, 29] _ (sk 94 (congrArg some e7.1) (zab _)) rfl)) rfl) (by simp only [pE8, vE8, q0.2, q1.2, q2.2, q3.2, q4.2, q5.2, q6.2, q7.2, fS] <;> rfl) ?_
   simp only [List.drop_succ_cons, List.drop_zero]
   refine zbr (cs' := #[.int .i64 ((n.gs.getD (((k : Int) - n.fst).toNat) an0).a), .int .i64 ((n.gs.getD (((k : Int) - n.fst).toNat) an0).b)]) (i := 0) (off := 0) (us := [.int .i64 ((n.gs.getD (((k : Int) - n.fst).toNat) an0).a), .int .i64 ((n.gs.getD (((k : Int) - n.fst).toNat) an0).b)]) rfl rfl rfl rfl rfl rfl rfl (zae rfl (zae rfl zbj)) rfl rfl rfl (ntQ (zac (reQ 1 rfl (hvQ rfl (fdQ 0 rfl rfl rfl) (hvQ rfl (zag rfl rfl rfl (zad 0 rfl rfl)) ?_)))))
   refine hvQ rfl (zep rfl rfl rfl (by refine ⟨?_, ?_, ?_⟩ <;> omega)) ?_
   refine hvQ rfl (riQ 1 rfl rfl rfl rfl (zah 1 rfl)) (zcw (i := 1) (n' := (bs.set ((((n.gs.getD (((k : Int) - n.fst).toNat) an0).a) / 2).toNat) { bs.getD ((((n.gs.getD (((k : Int) - n.fst).toNat) an0).a) / 2).toNat) bl0 with b := true }).length) rfl rfl rfl rfl rfl rfl rfl rfl (by first | omega | (simp only [List.length_set]; omega)) List.length_set.symm (zdf blC (fun r => .bool r.b) (fun _ => rfl) _ ({ bs.getD ((((n.gs.getD (((k : Int) - n.fst).toNat) an0).a) / 2).toNat) bl0 with b := true }) rfl) rfl ?_)
   refine ntQ (reQ 1 rfl (hvQ rfl (fdQ 1 rfl rfl rfl) (hvQ rfl (zag rfl rfl rfl (zad 0 rfl rfl)) ?_)))
   refine hvQ rfl (zep rfl rfl rfl (by refine ⟨?_, ?_, ?_⟩ <;> omega)) ?_
   refine hvQ rfl (riQ 1 rfl rfl rfl rfl (zah 1 rfl) (by omega) (by first | omega | (simp only [List.length_set]; omega))) (zcw (i := 1) (n' := ((bs.set ((((n.gs.getD (((k : Int) - n.fst).toNat) an0).a) / 2).toNat) { bs.getD ((((n.gs.getD (((k : Int) - n.fst).toNat) an0).a) / 2).toNat) bl0 with b := true }).set ((((n.gs.getD (((k : Int) - n.fst).toNat) an0).b) / 2).toNat) { (bs.set ((((n.gs.getD (((k : Int) - n.fst).toNat) an0).a) / 2).toNat) { bs.getD ((((n.gs.getD (((k : Int) - n.fst).toNat) an0).a) / 2).toNat) bl0 with b := true }).getD ((((n.gs.getD (((k : Int) - n.fst).toNat) an0).b) / 2).toNat) bl0 with b := true }).length) rfl rfl rfl rfl rfl rfl rfl rfl (by first | omega | (simp only [List.length_set]; omega)) List.length_set.symm (zdf blC (fun r => .bool r.b) (fun _ => rfl) _ ({ (bs.set ((((n.gs.getD (((k : Int) - n.fst).toNat) an0).a) / 2).toNat) { bs.getD ((((n.gs.getD (((k : Int) - n.fst).toNat) an0).a) / 2).toNat) bl0 with b := true }).getD ((((n.gs.getD (((k : Int) - n.fst).toNat) an0).b) / 2).toNat) bl0 with b := true }) rfl) rfl ?_)
   refine zcb (zcv (reQ 1 rfl (hvQ rfl (vsQ rfl rfl rfl) (enQ 1 rfl ?_))))
   exact zbv (k - 1) ((bs.set ((((n.gs.getD (((k : Int) - n.fst).toNat) an0).a) / 2).toNat) { bs.getD ((((n.gs.getD (((k : Int) - n.fst).toNat) an0).a) / 2).toNat) bl0 with b := true }).set ((((n.gs.getD (((k : Int) - n.fst).toNat) an0).b) / 2).toNat) { (bs.set ((((n.gs.getD (((k : Int) - n.fst).toNat) an0).a) / 2).toNat) { bs.getD ((((n.gs.getD (((k : Int) - n.fst).toNat) an0).a) / 2).toNat) bl0 with b := true }).getD ((((n.gs.getD (((k : Int) - n.fst).toNat) an0).b) / 2).toNat) bl0 with b := true }) ⟨by omega, hop.trans (opn_step (by omega) hmk (by assumption) (by omega)), by first | omega | (simp only [List.length_set]; omega)⟩ (by omega) (zbe [9, 7, 6, 3, 2, 1, 0] _ (sk 10 (congrArg (fun x => some (Value.int .i64 x)) (by omega)) (zai [36, 29] rfl)) rfl) (slQ [1, 0, 0] rfl)
  have hmk := h16
  refine zbb 6 rfl (zao rfl ?_)
  refine zaz (zeg ?_)
  refine zaf (zax (reQ 1 rfl (hvQ rfl (vsQ rfl rfl rfl) (enQ 1 rfl ?_))))
  exact zbv (k - 1) bs ⟨by omega, hop.trans (opn_skip (by omega) (by first | exact .inl hmk | exact .inr (by assumption))), by first | omega | (simp only [List.length_set]; omega)⟩ (by omega) (zbe [9, 7, 6, 3, 2, 1, 0] _ (sk 10 (congrArg (fun x => some (Value.int .i64 x)) (by omega)) (zai [36, 29] rfl)) rfl) (pfQ rfl)
 refine ntQ (zaq rfl ?_)
 refine zaz (zdr ?_)
 refine zaf (zax (zbc 1 rfl ?_))
 exact zav (zbg rfl rfl (congrArg Value.bool (pBe_yes (p := CutP n node cut) ⟨by omega, fun i hi => hel i (by omega), by rw [hop, show k = 0 by omega]; rfl⟩).symm))
theorem MappingOk_ans (n : Nt) (rs : List CRow) (v : Value) (w : World) (hr : RdsNt w n) (hn : NtOk n) (hv : RdsCl w v rs) (h400 : ∀ r ∈ rs, r.xs.length ≤ 400) :
   Calls Try.prog 77 #[.agg #[.int .i64 n.ins, n.sv, n.av, n.ov], v] w (Ans w (.bool (pBe (MapP n rs)))) := by
 have hi0 := hn.i0
 have hi1 := hn.i1
 have hs1 := hn.s1
 have ha1 := hn.a1
 have ho1 := hn.o1
 have hcnt : n.cnt = 1 + n.ins + n.ss.length + n.gs.length := rfl
 have hfst : n.fst = 1 + n.ins + n.ss.length := rfl
 refine zbf (N := 45) (args := [.agg #[.int .i64 n.ins, n.sv, n.av, n.ov], v]) Try.func77 rfl rfl (srQ ?_)
 refine zdt rfl (zct rfl rfl) ?_
 intro b1
 refine zbb 1 rfl (zfl (hvQ rfl (zar (cs := [.int .i64 n.ins, n.sv, n.av, n.ov]) rfl rfl rfl rfl rfl (zam 0 rfl 0 rfl)) ?_))
 refine zdn rfl (zal rfl rfl (fun w hm => zas (zds n w (hr.below hm.bel) hn))) (zan 3 rfl (hvQ rfl (lnQ rfl rfl rfl (zaa hv.row)) (hvQ rfl (fdQ 2 rfl rfl rfl) (hvQ rfl (zag rfl rfl rfl (zad 0 rfl rfl)) (hvQ rfl (lnQ rfl rfl rfl (zaa hr.an)) ?_)))))
 refine hl_neq rfl rfl rfl rfl rfl rfl (fun h2 => ?_) (fun h2 => ?_)
 ·
  refine zbb 1 rfl (zao rfl (zbc 1 rfl ?_))
  refine zav (zap ?_)
  exact zbg rfl rfl (congrArg Value.bool (pBe_no (p := MapP n rs) (fun h => by have h9 := h.len; omega)).symm)
 refine zbb 1 rfl (zaq rfl (zcp (zac (zbc 1 rfl ?_))))
 refine zaw ?_
 refine lkQ1 (α := Nat) [0, 1, 2, 4, 16] rfl (fun i => [boxE b1 #[.int .i64 n.ins, n.sv, n.av, n.ov] 101]) (fun i => [(5, .int .i64 (i : Int))]) (fun i => i ≤ rs.length ∧ ∀ j, j < i → CutP n (n.fst + (j : Int)) (rs.getD j crow0).xs ∧ hasB (rs.getD j crow0).xs (n.fst + (j : Int)) = false) (fun i => rs.length - i) 0 ⟨Nat.zero_le _, fun i hi => absurd hi (by omega)⟩ (saQ rfl) (pfQ rfl) ?_
 intro i hi3
 obtain ⟨hi, hel⟩ := hi3
 refine zac (zac (reQ 2 rfl (hvQ rfl (lnQ rfl rfl rfl (zaa hv.row)) ?_)))
 refine zbh rfl rfl rfl rfl rfl rfl (fun h4 => ?_) (fun h4 => ?_)
 ·
  refine ntQ (zao rfl (zcp (sbQ (zac ?_))))
  have h4i := h400 _ (zcj (es := rs) (i := i) (d := crow0) (by omega))
  rcases Bool.eq_false_or_eq_true (pBe (CutP n (n.fst + (i : Int)) (rs.getD i crow0).xs)) with hb5 | hb5
  ·
   have h4i := h400 _ (zcj (es := rs) (i := i) (d := crow0) (by omega))
   rcases Bool.eq_false_or_eq_true (hasB ((rs.getD i crow0).xs) (n.fst + (i : Int))) with hb6 | hb6
   ·
    have h4i := h400 _ (zcj (es := rs) (i := i) (d := crow0) (by omega))
    refine zbk 22 [[], [], [1], [], [2, 3], [], [], [5, 6], [7], [0, 4, 8], [9], [10], [11], [11], [11, 12, 13], [11, 14], [11], [11, 16], [11], [11, 17, 18], [11, 15, 19], [11, 20]] [23, 24, 25, 26, 27, 28, 29, 30, 31, 32, 33, 34, 35, 36, 37, 38, 39, 40, 41, 42, 43, 44] [.agg #[.int .i64 n.ins, n.sv, n.av, n.ov], .agg #[.int .i64 n.ins, n.sv, n.av, n.ov], .int .i64 n.fst, .int .i64 (i : Int), .int .i64 (n.fst + (i : Int)), v, .int .i64 (i : Int), elP v (((i : Int)).toNat * 1), (rs.getD i crow0).v, .bool true, .bool false, .bool false, v, .int .i64 (i : Int), elP v (((i : Int)).toNat * 1), (rs.getD i crow0).v, .agg #[.int .i64 n.ins, n.sv, n.av, n.ov], .int .i64 n.fst, .int .i64 (i : Int), .int .i64 (n.fst + (i : Int)), .bool true, .bool true] (by kernel_rfl) rfl ?_ ?_
    ·
     exact ⟨iaQ rfl (zar (cs := [.int .i64 n.ins, n.sv, n.av, n.ov]) rfl rfl rfl rfl rfl (zam 0 rfl 0 rfl)) rfl, iaQ rfl (zar (cs := [.int .i64 n.ins, n.sv, n.av, n.ov]) rfl rfl rfl rfl rfl (zam 0 rfl 0 rfl)) rfl, .inl ⟨rfl, zal rfl rfl (fun w hm => zas (zbz n w (hr.below hm.bel) hn))⟩, iaQ rfl (zaj rfl) rfl, iaQ rfl (vaQ rfl rfl rfl) rfl, iaQ rfl (zaj rfl) rfl, iaQ rfl (zaj rfl) rfl, iaQ rfl (riQ 1 rfl rfl rfl rfl (zaa hv.row)) rfl, iaQ rfl (zat (u := (rs.getD i crow0).v) rfl rfl rfl (zaa hv.row) (zbn crowC (fun r => r.v) (fun _ => rfl) rs crow0 (show i < _ by omega))) rfl, .inl ⟨rfl, zfq (zal (by kernel_rfl) rfl (fun w hm => zas (CutOkE_ans n (n.fst + (i : Int)) (rs.getD i crow0).xs _ w (hr.below hm.bel) hn ((hv.at (k := i) (by omega)).below hm.bel) (by omega) (by omega)))) hb5⟩, iaQ rfl (zaj rfl) rfl, iaQ rfl (zaj rfl) rfl, iaQ rfl (zaj rfl) rfl, iaQ rfl (zaj rfl) rfl, iaQ rfl (riQ 1 rfl rfl rfl rfl (zaa hv.row)) rfl, iaQ rfl (zat (u := (rs.getD i crow0).v) rfl rfl rfl (zaa hv.row) (zbn crowC (fun r => r.v) (fun _ => rfl) rs crow0 (show i < _ by omega))) rfl, iaQ rfl (zar (cs := [.int .i64 n.ins, n.sv, n.av, n.ov]) rfl rfl rfl rfl rfl (zam 0 rfl 0 rfl)) rfl, .inl ⟨rfl, zal rfl rfl (fun w hm => zas (zbz n w (hr.below hm.bel) hn))⟩, iaQ rfl (zaj rfl) rfl, iaQ rfl (vaQ rfl rfl rfl) rfl, .inl ⟨rfl, zfq (zal (by kernel_rfl) rfl (fun w hm => zas (zes ((rs.getD i crow0).xs) (n.fst + (i : Int)) _ w ((zaa (hv.at (k := i) (by omega))) w hm) (by omega)))) hb6⟩, iaQ rfl (zaj rfl) rfl, trivial⟩
    simp only [List.drop_succ_cons, List.drop_zero]
    refine ntQ (zao rfl (zbc 1 rfl ?_))
    refine zav (zak ?_)
    refine zfs ?_
    refine zak (zap ?_)
    exact zbg rfl rfl (congrArg Value.bool (pBe_no (p := MapP n rs) (fun h => by have h9 := h.cut i (by omega); first | (exact absurd (pBe_yes h9.1) (by rw [show pBe (CutP n (n.fst + (i : Int)) (rs.getD i crow0).xs) = false by assumption]; decide)) | (exact absurd h9.2 (by rw [show hasB (rs.getD i crow0).xs (n.fst + (i : Int)) = true by assumption]; decide)))).symm)
   have h4i := h400 _ (zcj (es := rs) (i := i) (d := crow0) (by omega))
   refine zbk 22 [[], [], [1], [], [2, 3], [], [], [5, 6], [7], [0, 4, 8], [9], [10], [11], [11], [11, 12, 13], [11, 14], [11], [11, 16], [11], [11, 17, 18], [11, 15, 19], [11, 20]] [23, 24, 25, 26, 27, 28, 29, 30, 31, 32, 33, 34, 35, 36, 37, 38, 39, 40, 41, 42, 43, 44] [.agg #[.int .i64 n.ins, n.sv, n.av, n.ov], .agg #[.int .i64 n.ins, n.sv, n.av, n.ov], .int .i64 n.fst, .int .i64 (i : Int), .int .i64 (n.fst + (i : Int)), v, .int .i64 (i : Int), elP v (((i : Int)).toNat * 1), (rs.getD i crow0).v, .bool true, .bool false, .bool false, v, .int .i64 (i : Int), elP v (((i : Int)).toNat * 1), (rs.getD i crow0).v, .agg #[.int .i64 n.ins, n.sv, n.av, n.ov], .int .i64 n.fst, .int .i64 (i : Int), .int .i64 (n.fst + (i : Int)), .bool false, .bool false] (by kernel_rfl) rfl ?_ ?_
   ·
    exact ⟨iaQ rfl (zar (cs := [.int .i64 n.ins, n.sv, n.av, n.ov]) rfl rfl rfl rfl rfl (zam 0 rfl 0 rfl)) rfl, iaQ rfl (zar (cs := [.int .i64 n.ins, n.sv, n.av, n.ov]) rfl rfl rfl rfl rfl (zam 0 rfl 0 rfl)) rfl, .inl ⟨rfl, zal rfl rfl (fun w hm => zas (zbz n w (hr.below hm.bel) hn))⟩, iaQ rfl (zaj rfl) rfl, iaQ rfl (vaQ rfl rfl rfl) rfl, iaQ rfl (zaj rfl) rfl, iaQ rfl (zaj rfl) rfl, iaQ rfl (riQ 1 rfl rfl rfl rfl (zaa hv.row)) rfl, iaQ rfl (zat (u := (rs.getD i crow0).v) rfl rfl rfl (zaa hv.row) (zbn crowC (fun r => r.v) (fun _ => rfl) rs crow0 (show i < _ by omega))) rfl, .inl ⟨rfl, zfq (zal (by kernel_rfl) rfl (fun w hm => zas (CutOkE_ans n (n.fst + (i : Int)) (rs.getD i crow0).xs _ w (hr.below hm.bel) hn ((hv.at (k := i) (by omega)).below hm.bel) (by omega) (by omega)))) hb5⟩, iaQ rfl (zaj rfl) rfl, iaQ rfl (zaj rfl) rfl, iaQ rfl (zaj rfl) rfl, iaQ rfl (zaj rfl) rfl, iaQ rfl (riQ 1 rfl rfl rfl rfl (zaa hv.row)) rfl, iaQ rfl (zat (u := (rs.getD i crow0).v) rfl rfl rfl (zaa hv.row) (zbn crowC (fun r => r.v) (fun _ => rfl) rs crow0 (show i < _ by omega))) rfl, iaQ rfl (zar (cs := [.int .i64 n.ins, n.sv, n.av, n.ov]) rfl rfl rfl rfl rfl (zam 0 rfl 0 rfl)) rfl, .inl ⟨rfl, zal rfl rfl (fun w hm => zas (zbz n w (hr.below hm.bel) hn))⟩, iaQ rfl (zaj rfl) rfl, iaQ rfl (vaQ rfl rfl rfl) rfl, .inl ⟨rfl, zfq (zal (by kernel_rfl) rfl (fun w hm => zas (zes ((rs.getD i crow0).xs) (n.fst + (i : Int)) _ w ((zaa (hv.at (k := i) (by omega))) w hm) (by omega)))) hb6⟩, iaQ rfl (zaj rfl) rfl, trivial⟩
   simp only [List.drop_succ_cons, List.drop_zero]
   refine ntQ (fsQ rfl (zcv (reQ 1 rfl (hvQ rfl (vaQ rfl rfl rfl) (enQ 1 rfl ?_)))))
   exact zck (i + 1) ⟨by omega, fun j hj => by by_cases e : j = i; (subst e; exact ⟨of_pBe (by assumption), by assumption⟩); exact hel j (by omega)⟩ (by omega) (saQ rfl) (pfQ rfl)
  have h4i := h400 _ (zcj (es := rs) (i := i) (d := crow0) (by omega))
  refine zbk 22 [[], [], [1], [], [2, 3], [], [], [5, 6], [7], [0, 4, 8], [9], [10], [11], [11], [11], [11], [11], [11], [11], [11], [11], [11, 20]] [23, 24, 25, 26, 27, 28, 29, 30, 31, 32, 33, 34, 35, 36, 37, 38, 39, 40, 41, 42, 43, 44] [.agg #[.int .i64 n.ins, n.sv, n.av, n.ov], .agg #[.int .i64 n.ins, n.sv, n.av, n.ov], .int .i64 n.fst, .int .i64 (i : Int), .int .i64 (n.fst + (i : Int)), v, .int .i64 (i : Int), elP v (((i : Int)).toNat * 1), (rs.getD i crow0).v, .bool false, .bool true, .bool true, undef, undef, undef, undef, undef, undef, undef, undef, undef, .bool true] (by kernel_rfl) rfl ?_ ?_
  ·
   exact ⟨iaQ rfl (zar (cs := [.int .i64 n.ins, n.sv, n.av, n.ov]) rfl rfl rfl rfl rfl (zam 0 rfl 0 rfl)) rfl, iaQ rfl (zar (cs := [.int .i64 n.ins, n.sv, n.av, n.ov]) rfl rfl rfl rfl rfl (zam 0 rfl 0 rfl)) rfl, .inl ⟨rfl, zal rfl rfl (fun w hm => zas (zbz n w (hr.below hm.bel) hn))⟩, iaQ rfl (zaj rfl) rfl, iaQ rfl (vaQ rfl rfl rfl) rfl, iaQ rfl (zaj rfl) rfl, iaQ rfl (zaj rfl) rfl, iaQ rfl (riQ 1 rfl rfl rfl rfl (zaa hv.row)) rfl, iaQ rfl (zat (u := (rs.getD i crow0).v) rfl rfl rfl (zaa hv.row) (zbn crowC (fun r => r.v) (fun _ => rfl) rs crow0 (show i < _ by omega))) rfl, .inl ⟨rfl, zfq (zal (by kernel_rfl) rfl (fun w hm => zas (CutOkE_ans n (n.fst + (i : Int)) (rs.getD i crow0).xs _ w (hr.below hm.bel) hn ((hv.at (k := i) (by omega)).below hm.bel) (by omega) (by omega)))) hb5⟩, iaQ rfl (zaj rfl) rfl, iaQ rfl (zaj rfl) rfl, .inr ⟨rfl, rfl⟩, .inr ⟨rfl, rfl⟩, .inr ⟨rfl, rfl⟩, .inr ⟨rfl, rfl⟩, .inr ⟨rfl, rfl⟩, .inr ⟨rfl, rfl⟩, .inr ⟨rfl, rfl⟩, .inr ⟨rfl, rfl⟩, .inr ⟨rfl, rfl⟩, iaQ rfl (zaj rfl) rfl, trivial⟩
  simp only [List.drop_succ_cons, List.drop_zero]
  refine ntQ (zao rfl (zbc 1 rfl ?_))
  refine zav (zak ?_)
  refine zfs ?_
  refine zak (zap ?_)
  exact zbg rfl rfl (congrArg Value.bool (pBe_no (p := MapP n rs) (fun h => by have h9 := h.cut i (by omega); first | (exact absurd (pBe_yes h9.1) (by rw [show pBe (CutP n (n.fst + (i : Int)) (rs.getD i crow0).xs) = false by assumption]; decide)) | (exact absurd h9.2 (by rw [show hasB (rs.getD i crow0).xs (n.fst + (i : Int)) = true by assumption]; decide)))).symm)
 refine ntQ (zaq rfl ?_)
 refine zaz (zdr ?_)
 refine zaf (zax (zbc 1 rfl ?_))
 exact zav (zbg rfl rfl (congrArg Value.bool (pBe_yes (p := MapP n rs) ⟨by omega, fun j hj => hel j (by omega)⟩).symm))
theorem CutTableE_ret (n : Nt) (node : Int) (cut : List Int) (cv : Value) (w : World) (hr : RdsNt w n) (hn : NtOk n) (hcr : RdsW w cv 1 cut.length (cut.map (Value.int .i64))) (hnd : 0 ≤ node ∧ node < n.cnt) (hcp : CutP n node cut) :
   Calls Try.prog 80 #[.agg #[.int .i64 n.ins, n.sv, n.av, n.ov], .int .i64 node, cv] w (Ret w (fun u_ p_ => ∃ b : Int, u_ = .agg #[.int .i64 (cut.length : Int), .int .i64 b] ∧ p_ = [] ∧ TabOk (Tab.mk (cut.length : Int) b))) := by
 have hi0 := hn.i0
 have hi1 := hn.i1
 have hs1 := hn.s1
 have ha1 := hn.a1
 have ho1 := hn.o1
 have hcnt : n.cnt = 1 + n.ins + n.ss.length + n.gs.length := rfl
 have hfst : n.fst = 1 + n.ins + n.ss.length := rfl
 have hcl4 := hcp.len
 have hpn := pn_rng (n := (cut.length : Int)) (by omega)
 refine zbf (N := 96) (args := [.agg #[.int .i64 n.ins, n.sv, n.av, n.ov], .int .i64 node, cv]) Try.func80 rfl rfl (srQ ?_)
 refine zdt rfl (zct rfl rfl) ?_
 intro b1
 refine zdt rfl (zbm (z := .agg #[.int .i64 0, .int .i64 0]) rfl rfl) ?_
 intro b2
 refine ntQ (zfl (hvQ rfl (zar (cs := [.int .i64 n.ins, n.sv, n.av, n.ov]) rfl rfl rfl rfl rfl (zam 1 rfl 0 rfl)) (zan 2 rfl ?_)))
 refine zdn rfl (zal rfl rfl (fun w hm => zas (by have h9 := CutOkE_ans n node cut cv w (hr.below hm.bel) hn (hcr.below hm.bel) hnd (by omega); rw [pBe_yes hcp] at h9; exact h9))) (zan 1 rfl (zcb (zax (zaq rfl (zgs (zax (zac (zay (zan 1 rfl (hvQ rfl (lnQ rfl rfl rfl (zaa hcr)) (hvQ rfl (zda (cs := #[.int .i64 (cut.length : Int), .int .i64 0]) rfl rfl rfl) ?_)))))))))))
 refine zdt rfl (zbm (z := .agg #[.int .i64 0, .int .i64 0]) rfl rfl) ?_
 intro b3
 refine zbr (cs' := #[.int .i64 (cut.length : Int), .int .i64 0]) (i := 0) (off := 0) (us := [.int .i64 (cut.length : Int), .int .i64 0]) rfl rfl rfl rfl rfl rfl rfl (zae rfl (zae rfl zbj)) rfl rfl rfl (ntQ (zac (zbc 1 rfl (zaw ?_))))
 refine lkQ2 (α := Nat) (β := Int) [0, 1, 2, 3, 6, 7, 18] rfl (fun i b => [boxE b3 #[.int .i64 (cut.length : Int), .int .i64 b] 75, boxE b2 #[.int .i64 0, .int .i64 0] 75, boxE b1 #[.int .i64 n.ins, n.sv, n.av, n.ov] 101]) (fun i b => [(8, .int .i64 (i : Int))]) (fun i b => i ≤ pn (cut.length : Int) ∧ 0 ≤ b ∧ b < 2 ^ i) (fun i b => pn (cut.length : Int) - i) 0 0 ⟨Nat.zero_le _, Int.le_refl _, by decide⟩ (saQ rfl) (pfQ rfl) ?_
 intro i b hi4
 obtain ⟨hi, hb0, hb1⟩ := hi4
 have hp16 := pow16 (k := i) (by omega)
 refine zac (zac (zay (zan 2 rfl (hvQ rfl (lnQ rfl rfl rfl (zaa hcr)) (hvQ rfl (zga (k := .i64) (kk := .i64) (r := (pn (cut.length : Int) : Int)) rfl rfl rfl rfl (by omega) (wr1 (by omega))) ?_)))))
 refine zbh rfl rfl rfl rfl rfl rfl (fun h5 => ?_) (fun h5 => ?_)
 ·
  refine ntQ (zao rfl (zcp (sbQ (srQ (hvQ rfl (zar (cs := [.int .i64 n.ins, n.sv, n.av, n.ov]) rfl rfl rfl rfl rfl (zam 2 rfl 0 rfl)) ?_)))))
  refine zdn rfl (zal rfl rfl (fun w hm => zas (zbs n w (hr.below hm.bel) hn))) (zdu rfl (zei (z := .int .i64 0) (s := 1) (bytes := 8) (n := (List.replicate (n.cnt).toNat (0 : Int)).length) (cs := ((List.replicate (n.cnt).toNat (0 : Int)).map (Value.int .i64))) rfl Try.underlying26 rfl (by decide) rfl rfl (by first | (rw [List.length_replicate]; done) | (rw [List.length_replicate]; omega)) (by first | (rw [List.length_replicate]; done) | (rw [List.length_replicate]; omega)) (by rw [List.length_replicate]; omega) (zez _)) ?_)
  intro g6
  refine zbb 1 rfl (zac (zbc 1 rfl (zaw ?_)))
  refine lkQ2 (α := Nat) (β := List Int) [0, 1, 2, 3, 6, 7, 8, 9, 18, 27] rfl (fun k vs => [rowE 3 1 (.slice (some ⟨g6, 0, none⟩) ((List.replicate (n.cnt).toNat (0 : Int)).length) ((List.replicate (n.cnt).toNat (0 : Int)).length)) vs.length (vs.map (Value.int .i64)), boxE b3 #[.int .i64 (cut.length : Int), .int .i64 b] 75, boxE b2 #[.int .i64 0, .int .i64 0] 75, boxE b1 #[.int .i64 n.ins, n.sv, n.av, n.ov] 101]) (fun k vs => [(10, .int .i64 (k : Int))]) (fun k vs => (k : Int) ≤ node + 1 ∧ vs.length = n.cnt.toNat ∧ B01 vs) (fun k vs => node.toNat + 1 - k) 0 _ ⟨by omega, by rw [List.length_replicate], b01_rep _⟩ (saQ rfl) (pfQ rfl) ?_
  intro k vs hi7
  obtain ⟨hk, hvl, hv01⟩ := hi7
  refine zac (zac (reQ 2 rfl ?_))
  refine hl_leq rfl rfl rfl rfl rfl rfl (fun h8 => ?_) (fun h8 => ?_)
  ·
   refine ntQ (zao rfl (zcp (sbQ (zbc 1 rfl ?_))))
   refine zac (zbc 1 rfl (zaw ?_))
   refine lkQ3 (α := Nat) (β := List Int) (γ := Bool) [0, 1, 2, 3, 6, 7, 8, 9, 10, 18, 27, 35] rfl (fun j vs2 sb => [rowE 3 1 (.slice (some ⟨g6, 0, none⟩) ((List.replicate (n.cnt).toNat (0 : Int)).length) ((List.replicate (n.cnt).toNat (0 : Int)).length)) vs2.length (vs2.map (Value.int .i64)), boxE b3 #[.int .i64 (cut.length : Int), .int .i64 b] 75, boxE b2 #[.int .i64 0, .int .i64 0] 75, boxE b1 #[.int .i64 n.ins, n.sv, n.av, n.ov] 101]) (fun j vs2 sb => [(11, .bool sb), (12, .int .i64 (j : Int))]) (fun j vs2 sb => j ≤ cut.length ∧ vs2.length = n.cnt.toNat ∧ B01 vs2) (fun j vs2 sb => cut.length - j) 0 vs false ⟨Nat.zero_le _, hvl, hv01⟩ (saQ rfl) (pfQ rfl) ?_
   intro j vs2 sb hi9
   obtain ⟨hj, hvl2, hv02⟩ := hi9
   refine zac (zac (reQ 2 rfl (hvQ rfl (lnQ rfl rfl rfl (zaa hcr)) ?_)))
   refine zbh rfl rfl rfl rfl rfl rfl (fun h10 => ?_) (fun h10 => ?_)
   ·
    refine ntQ (zao rfl (zcp (sbQ (zac (reQ 2 rfl (hvQ rfl (riQ 1 rfl rfl rfl rfl (zaa hcr)) (hvQ rfl (liQ rfl rfl rfl (zaa hcr)) (zan 1 rfl ?_))))))))
    refine zcu rfl rfl rfl rfl rfl rfl (fun h11 => ?_) (fun h11 => ?_)
    ·
     refine (zcb (zax (zao rfl (zac (zay (zan 4 rfl (hvQ rfl (rv_shr rfl rfl rfl (by omega)) (hvQ rfl (zdg rfl (by decide) rfl rfl (r := ((i : Int) / 2 ^ ((j : Int)).toNat % 2)) (andB _ (by omega))) (hvQ rfl (riQ 1 rfl rfl rfl rfl (zah 0 rfl)) ?_)))))))))
     refine zcw (i := 0) (n' := (vs2.set k ((i : Int) / 2 ^ ((j : Int)).toNat % 2)).length) (xs' := ((vs2.set k ((i : Int) / 2 ^ ((j : Int)).toNat % 2)).map (Value.int .i64))) rfl rfl rfl rfl rfl rfl rfl rfl (by first | omega | (simp only [List.length_set]; omega)) List.length_set.symm (zdb _ _ _) rfl (ntQ (zay (enQ 1 rfl (zcv (reQ 1 rfl (hvQ rfl (vaQ rfl rfl rfl) (zan 1 rfl (?_))))))))
     exact zcb (zbi (j + 1) (vs2.set k ((i : Int) / 2 ^ ((j : Int)).toNat % 2)) true ⟨by omega, by rw [List.length_set]; exact hvl2, b01_set hv02 (by omega)⟩ (by omega) (saQ rfl) (pfQ rfl))
    refine ntQ (fsQ rfl (zcv (reQ 1 rfl (hvQ rfl (vaQ rfl rfl rfl) (enQ 1 rfl ?_)))))
    exact zbi (j + 1) vs2 sb ⟨by omega, hvl2, hv02⟩ (by omega) (saQ rfl) (pfQ rfl)
   refine ntQ (zaq rfl ?_)
   refine zaz (zdr ?_)
   refine zaf (zax (zac (reQ 1 rfl ?_)))
   refine zbl (fun h12 => ?_) (fun h12 => ?_)
   ·
    refine zbb 7 rfl (fsQ rfl (zcv (reQ 1 rfl ?_)))
    refine hvQ rfl (vaQ rfl rfl rfl) (enQ 1 rfl ?_)
    exact zbv (k + 1) vs2 ⟨by omega, hvl2, hv02⟩ (by omega) (saQ rfl) (pfQ rfl)
   refine zan 3 rfl (hvQ rfl (zar (cs := [.int .i64 n.ins, n.sv, n.av, n.ov]) rfl rfl rfl rfl rfl (zam 3 rfl 0 rfl)) ?_)
   refine zdn rfl (zal rfl rfl (fun w hm => zas (zbz n w (hr.below hm.bel) hn))) (zfh rfl rfl rfl rfl rfl rfl (fun h13 => ?_) (fun h13 => ?_))
   ·
    refine zbb 1 rfl (zao rfl (zac ?_))
    have hani := hn.an ((k : Int) - n.fst).toNat (by omega)
    unfold LtOk at hani
    refine zdq rfl 9 [0, 1, 2, 3, 4, 5, 6, 7, 8] (List.take 9 _) (List.drop 9 _) [[], [0], [], [], [3], [2, 4], [1, 5], [6], []] [65, 66, 67, 68, 69, 70, 71, 72, 13] (fun i_ vs_ v_ p_ => match i_ with | 0 => v_ = .pointer (some ⟨b1, 0 + 2, none⟩) ∧ p_ = [] | 1 => v_ = n.av ∧ p_ = [] | 2 => v_ = .int .i64 (k : Int) ∧ p_ = [] | 3 => v_ = .agg #[.int .i64 n.ins, n.sv, n.av, n.ov] ∧ p_ = [] | 4 => v_ = .int .i64 n.fst ∧ p_ = [] | 5 => v_ = .int .i64 ((k : Int) - n.fst) ∧ p_ = [] | 6 => v_ = elP n.av (((k : Int) - n.fst).toNat * 2) ∧ p_ = [] | 7 => v_ = .agg #[.int .i64 ((n.gs.getD (((k : Int) - n.fst).toNat) an0).a), .int .i64 ((n.gs.getD (((k : Int) - n.fst).toNat) an0).b)] ∧ p_ = [] | 8 => IsBox #[.int .i64 0, .int .i64 0] 124 v_ p_ | _ => True) (List.take_append_drop 9 _).symm (by kernel_rfl) (by kernel_rfl) rfl rfl ?_ ?_
    ·
     refine ⟨?_, ?_, ?_, ?_, ?_, ?_, ?_, ?_, ?_, trivial⟩
     ·
      intro vf pf hR
      exact ovQ rfl (zai [3] rfl) (zbd (fdQ 2 rfl rfl rfl))
     ·
      intro vf pf hR
      have e0 := hR 0 (by decide)
      exact olQ rfl (sk 65 (congrArg some e0.1) (zab _)) (zbd (zag rfl rfl rfl (zad 3 rfl rfl)))
     ·
      intro vf pf hR
      exact ovQ rfl (zai [10] rfl) (zbd (zaj rfl))
     ·
      intro vf pf hR
      exact olQ rfl (zai [3] rfl) (zbd (zar (cs := [.int .i64 n.ins, n.sv, n.av, n.ov]) rfl rfl rfl rfl rfl (zam 3 rfl 0 rfl)))
     ·
      intro vf pf hR
      have e3 := hR 3 (by decide)
      exact olQ rfl (sk 68 (congrArg some e3.1) (zab _)) (zal rfl rfl (fun w hm => zas (zbz n w (hr.below hm.bel) hn)))
     ·
      intro vf pf hR
      have e2 := hR 2 (by decide)
      have e4 := hR 4 (by decide)
      exact ovQ rfl (sk 67 (congrArg some e2.1) (sk 69 (congrArg some e4.1) (zab _))) (zbd (vsQ rfl rfl rfl))
     ·
      intro vf pf hR
      have e1 := hR 1 (by decide)
      have e5 := hR 5 (by decide)
      exact olQ rfl (sk 66 (congrArg some e1.1) (sk 70 (congrArg some e5.1) (zab _))) (zbd (riQ 2 rfl rfl rfl rfl (zaa hr.an)))
     ·
      intro vf pf hR
      have e6 := hR 6 (by decide)
      exact olQ rfl (sk 71 (congrArg some e6.1) (zab _)) (zbd (zcl (us := [.int .i64 ((n.gs.getD (((k : Int) - n.fst).toNat) an0).a), .int .i64 ((n.gs.getD (((k : Int) - n.fst).toNat) an0).b)]) rfl rfl rfl rfl (zaa hr.an) (by omega) rfl (zde anC 2 (fun _ => rfl) n.gs an0 (show ((k : Int) - n.fst).toNat < _ by omega) rfl)))
     intro vf pf hR
     exact olQ rfl (zab _) (zbm (z := .agg #[.int .i64 0, .int .i64 0]) rfl rfl)
    intro vf pf hR
    have e7 := hR 7 (by decide)
    have e8 : IsBox #[.int .i64 0, .int .i64 0] 124 (vf 8) (pf 8) := hR 8 (by decide)
    obtain ⟨b14, vE8, pE8⟩ := e8
    have q0 := hR 0 (by decide)
    have q1 := hR 1 (by decide)
    have q2 := hR 2 (by decide)
    have q3 := hR 3 (by decide)
    have q4 := hR 4 (by decide)
    have q5 := hR 5 (by decide)
    have q6 := hR 6 (by decide)
    have q7 := hR 7 (by decide)
    refine zce (zbe [12, 11, 10, 9, 8, 7, 6, 3, 2, 1, 0] _ (sk 13 (congrArg some vE8) (zbe [64, 41, 35, 27, 18] _ (sk 72 (congrArg some e7.1) (zab _)) rfl)) rfl) (by simp only [pE8, vE8, q0.2, q1.2, q2.2, q3.2, q4.2, q5.2, q6.2, q7.2, fS] <;> rfl) ?_
    simp only [List.drop_succ_cons, List.drop_zero]
    refine zbr (cs' := #[.int .i64 ((n.gs.getD (((k : Int) - n.fst).toNat) an0).a), .int .i64 ((n.gs.getD (((k : Int) - n.fst).toNat) an0).b)]) (i := 0) (off := 0) (us := [.int .i64 ((n.gs.getD (((k : Int) - n.fst).toNat) an0).a), .int .i64 ((n.gs.getD (((k : Int) - n.fst).toNat) an0).b)]) rfl rfl rfl rfl rfl rfl rfl (zae rfl (zae rfl zbj)) rfl rfl rfl (ntQ ?_)
    refine zbk 12 [[], [], [], [], [3], [2, 4], [], [], [7], [6, 8], [5, 9], [0, 1]] [73, 74, 75, 76, 77, 78, 79, 80, 81, 82, 83, 84] [.slice (some ⟨g6, 0, none⟩) ((List.replicate (n.cnt).toNat (0 : Int)).length) ((List.replicate (n.cnt).toNat (0 : Int)).length), .int .i64 (k : Int), .slice (some ⟨g6, 0, none⟩) ((List.replicate (n.cnt).toNat (0 : Int)).length) ((List.replicate (n.cnt).toNat (0 : Int)).length), .pointer (some ⟨b14, 0 + 0, none⟩), .int .i64 ((n.gs.getD (((k : Int) - n.fst).toNat) an0).a), .int .i64 (bitL vs2 ((n.gs.getD (((k : Int) - n.fst).toNat) an0).a)), .slice (some ⟨g6, 0, none⟩) ((List.replicate (n.cnt).toNat (0 : Int)).length) ((List.replicate (n.cnt).toNat (0 : Int)).length), .pointer (some ⟨b14, 0 + 1, none⟩), .int .i64 ((n.gs.getD (((k : Int) - n.fst).toNat) an0).b), .int .i64 (bitL vs2 ((n.gs.getD (((k : Int) - n.fst).toNat) an0).b)), .int .i64 ((bitL vs2 ((n.gs.getD (((k : Int) - n.fst).toNat) an0).a)) * (bitL vs2 ((n.gs.getD (((k : Int) - n.fst).toNat) an0).b))), elP (.slice (some ⟨g6, 0, none⟩) ((List.replicate (n.cnt).toNat (0 : Int)).length) ((List.replicate (n.cnt).toNat (0 : Int)).length)) (((k : Int)).toNat * 1)] (by kernel_rfl) rfl ?_ ?_
    ·
     exact ⟨iaQ rfl (zaj rfl) rfl, iaQ rfl (zaj rfl) rfl, iaQ rfl (zaj rfl) rfl, iaQ rfl (fdQ 0 rfl rfl rfl) rfl, iaQ rfl (zag rfl rfl rfl (zad 0 rfl rfl)) rfl, .inl ⟨rfl, zal (by kernel_rfl) rfl (fun w hm => zas (l09Bit_ans vs2 ((n.gs.getD (((k : Int) - n.fst).toNat) an0).a) _ w ((zah 1 rfl) w hm) (by omega) (hv02 _ (by omega)) (by omega)))⟩, iaQ rfl (zaj rfl) rfl, iaQ rfl (fdQ 1 rfl rfl rfl) rfl, iaQ rfl (zag rfl rfl rfl (zad 0 rfl rfl)) rfl, .inl ⟨rfl, zal (by kernel_rfl) rfl (fun w hm => zas (l09Bit_ans vs2 ((n.gs.getD (((k : Int) - n.fst).toNat) an0).b) _ w ((zah 1 rfl) w hm) (by omega) (hv02 _ (by omega)) (by omega)))⟩, iaQ rfl (zdg rfl (by decide) rfl rfl (r := (bitL vs2 ((n.gs.getD (((k : Int) - n.fst).toNat) an0).a)) * (bitL vs2 ((n.gs.getD (((k : Int) - n.fst).toNat) an0).b))) (and01 (bit01 hv02 (by omega) (by omega)) (bit01 hv02 (by omega) (by omega)))) rfl, iaQ rfl (riQ 1 rfl rfl rfl rfl (zah 1 rfl)) rfl, trivial⟩
    simp only [List.drop_succ_cons, List.drop_zero]
    refine zcw (i := 1) (n' := (vs2.set k ((bitL vs2 ((n.gs.getD (((k : Int) - n.fst).toNat) an0).a)) * (bitL vs2 ((n.gs.getD (((k : Int) - n.fst).toNat) an0).b)))).length) (xs' := ((vs2.set k ((bitL vs2 ((n.gs.getD (((k : Int) - n.fst).toNat) an0).a)) * (bitL vs2 ((n.gs.getD (((k : Int) - n.fst).toNat) an0).b)))).map (Value.int .i64))) rfl rfl rfl rfl rfl rfl rfl rfl (by first | omega | (simp only [List.length_set]; omega)) List.length_set.symm (zdb _ _ _) rfl (zcb (zcv (reQ 1 rfl (hvQ rfl (vaQ rfl rfl rfl) (enQ 1 rfl ?_)))))
    exact zbv (k + 1) (vs2.set k ((bitL vs2 ((n.gs.getD (((k : Int) - n.fst).toNat) an0).a)) * (bitL vs2 ((n.gs.getD (((k : Int) - n.fst).toNat) an0).b)))) ⟨by omega, by rw [List.length_set]; exact hvl2, b01_set hv02 (mul_01 (bit01 hv02 (by omega) (by omega)) (bit01 hv02 (by omega) (by omega)))⟩ (by omega) (saQ rfl) (slQ [1, 0, 0, 0] rfl)
   refine zbb 1 rfl (fsQ rfl (zcv (reQ 1 rfl (hvQ rfl (vaQ rfl rfl rfl) (enQ 1 rfl ?_)))))
   exact zbv (k + 1) vs2 ⟨by omega, hvl2, hv02⟩ (by omega) (saQ rfl) (pfQ rfl)
  refine ntQ (zaq rfl ?_)
  refine zaz (zdr ?_)
  refine zaf (zax ?_)
  have hvb := hv01 (node).toNat (by omega)
  refine zbk 10 [[], [0], [], [], [2, 3], [4], [], [5, 6], [1, 7], []] [85, 86, 87, 88, 89, 90, 91, 92, 93, 94] [.pointer (some ⟨b3, 0 + 1, none⟩), .int .i64 b, .slice (some ⟨g6, 0, none⟩) ((List.replicate (n.cnt).toNat (0 : Int)).length) ((List.replicate (n.cnt).toNat (0 : Int)).length), .int .i64 node, elP (.slice (some ⟨g6, 0, none⟩) ((List.replicate (n.cnt).toNat (0 : Int)).length) ((List.replicate (n.cnt).toNat (0 : Int)).length)) ((node).toNat * 1), .int .i64 (vs.getD ((node).toNat) 0), .int .i64 (i : Int), .int .i64 ((vs.getD (node).toNat 0) * 2 ^ i), .int .i64 (b + ((vs.getD (node).toNat 0) * 2 ^ i)), .pointer (some ⟨b3, 0 + 1, none⟩)] (by kernel_rfl) rfl ?_ ?_
  ·
   exact ⟨iaQ rfl (fdQ 1 rfl rfl rfl) rfl, iaQ rfl (zag rfl rfl rfl (zad 1 rfl rfl)) rfl, iaQ rfl (zaj rfl) rfl, iaQ rfl (zaj rfl) rfl, iaQ rfl (riQ 1 rfl rfl rfl rfl (zah 0 rfl)) rfl, iaQ rfl (lzQ rfl rfl rfl (zah 0 rfl)) rfl, iaQ rfl (zaj rfl) rfl, iaQ rfl (zga (k := .i64) (kk := .i64) (r := (vs.getD (node).toNat 0) * 2 ^ i) rfl rfl rfl rfl (by omega) (shl_bitE hvb (by omega))) rfl, iaQ rfl (rv_add rfl rfl rfl (by rcases hvb with e9 | e9 <;> rw [e9] <;> constructor <;> omega)) rfl, iaQ rfl (fdQ 1 rfl rfl rfl) rfl, trivial⟩
  simp only [List.drop_succ_cons, List.drop_zero]
  refine zed (i := 1) (cs' := #[.int .i64 (cut.length : Int), .int .i64 (b + ((vs.getD (node).toNat 0) * 2 ^ i))]) rfl rfl rfl rfl rfl rfl rfl rfl rfl rfl rfl (zcb (zcv (reQ 1 rfl (hvQ rfl (vaQ rfl rfl rfl) (enQ 1 rfl ?_)))))
  exact zbv (i + 1) (b + ((vs.getD (node).toNat 0) * 2 ^ i)) ⟨by omega, (bits_next ⟨hb0, hb1⟩ hvb).1, (bits_next ⟨hb0, hb1⟩ hvb).2⟩ (by omega) (saQ rfl) (slQ [1, 0, 0] rfl)
 refine ntQ (zaq rfl ?_)
 refine zaz (zdr ?_)
 refine zaf (zax (zac (zay (hvQ rfl (zar (cs := [.int .i64 (cut.length : Int), .int .i64 b]) rfl rfl rfl rfl rfl (zam 0 rfl 0 rfl)) ?_))))
 refine zbr (cs' := #[.int .i64 (cut.length : Int), .int .i64 b]) (i := 1) (off := 0) (us := [.int .i64 (cut.length : Int), .int .i64 b]) rfl rfl rfl rfl rfl rfl rfl (zae rfl (zae rfl zbj)) rfl rfl rfl (ntQ ?_)
 exact zav (zdp (rs := [.cell 6 75]) (vs := [.agg #[.int .i64 (cut.length : Int), .int .i64 b]]) (post := []) rfl ⟨⟨b2, 0, [.int .i64 (cut.length : Int), .int .i64 b], rfl, rfl, by kernel_rfl, by kernel_rfl, zam 1 rfl 0 rfl⟩, trivial⟩ rfl (slQ [] rfl) ⟨b, rfl, rfl, bits_all (by omega) (by omega) ⟨hb0, hb1⟩⟩)
def ndL (to xs : List Int) : List Int := xs.map fun x => to.getD x.toNat 0
theorem ndL_len (to xs : List Int) : (ndL to xs).length = xs.length := by simp [ndL]
theorem ndL_at {to xs : List Int} {j : Nat} (h : j < xs.length) : (ndL to xs).getD j 0 = to.getD (xs.getD j 0).toNat 0 := by
  unfold ndL; rw [List.getD_eq_getElem?_getD, List.getElem?_map, List.getElem?_eq_getElem h, List.getD_eq_getElem?_getD (l := xs), List.getElem?_eq_getElem h]; rfl
def rtN (to no : List Int) (l : Int) : Int := if l % 2 = 0 then to.getD (l / 2).toNat 0 else no.getD (l / 2).toNat 0
def rtL (to no ls : List Int) : List Int := ls.map (rtN to no)
theorem rtL_len (to no xs : List Int) : (rtL to no xs).length = xs.length := by simp [rtL]
theorem rtN_even {to no : List Int} {l : Int} (h : l % 2 = 0) : rtN to no l = to.getD (l / 2).toNat 0 := if_pos h
theorem rtN_odd {to no : List Int} {l : Int} (h : ¬ l % 2 = 0) : rtN to no l = no.getD (l / 2).toNat 0 := if_neg h
abbrev On (bs : List Bl) (k : Int) : Prop := (bs.getD k.toNat bl0).b = true
theorem on_set {bs : List Bl} {k : Int} {j : Nat} (h : On bs k) : On (bs.set j ⟨true⟩) k := by
  unfold On at *
  by_cases e : j = k.toNat
  · subst e
    by_cases hl : k.toNat < bs.length
    · rw [zcg hl]
    · rw [List.set_eq_of_length_le (by omega)]; exact h
  · rw [List.getD_eq_getElem?_getD, List.getElem?_set_ne e, ← List.getD_eq_getElem?_getD]; exact h
theorem on_new {bs : List Bl} {k : Int} {j : Nat} (hj : j = k.toNat) (h : j < bs.length) : On (bs.set j ⟨true⟩) k := by
  subst hj; unfold On; rw [zcg h]
theorem on_old {bs : List Bl} {k : Int} {j : Nat} (hj : j ≠ k.toNat) (h : On (bs.set j ⟨true⟩) k) : On bs k := by
  unfold On at *
  rwa [List.getD_eq_getElem?_getD, List.getElem?_set_ne hj, ← List.getD_eq_getElem?_getD] at h
def RtU (pos neg : List Bl) (l : Int) : Prop := (l % 2 = 0 → On pos (l / 2)) ∧ (¬ l % 2 = 0 → On neg (l / 2))
theorem RtU.pos {pos neg : List Bl} {l : Int} (h : RtU pos neg l) (j : Nat) : RtU (pos.set j ⟨true⟩) neg l := ⟨fun e => on_set (h.1 e), h.2⟩
theorem RtU.neg {pos neg : List Bl} {l : Int} (h : RtU pos neg l) (j : Nat) : RtU pos (neg.set j ⟨true⟩) l := ⟨h.1, fun e => on_set (h.2 e)⟩
def RtsU (pos neg : List Bl) (R : List Int) (k : Nat) : Prop := ∀ j, j < k → RtU pos neg (R.getD j 0)
theorem RtsU.even {pos neg : List Bl} {R : List Int} {k : Nat} (h : RtsU pos neg R k) {j : Nat} (hj : j = (R.getD k 0 / 2).toNat) (hl : j < pos.length) (he : R.getD k 0 % 2 = 0) : RtsU (pos.set j ⟨true⟩) neg R (k + 1) := fun q hq => by
  by_cases e : q = k
  · subst e; exact ⟨fun _ => on_new hj hl, fun h9 => absurd he h9⟩
  · exact (h q (by omega)).pos j
theorem RtsU.odd {pos neg : List Bl} {R : List Int} {k : Nat} (h : RtsU pos neg R k) {j : Nat} (hj : j = (R.getD k 0 / 2).toNat) (hl : j < neg.length) (he : ¬ R.getD k 0 % 2 = 0) : RtsU pos (neg.set j ⟨true⟩) R (k + 1) := fun q hq => by
  by_cases e : q = k
  · subst e; exact ⟨fun h9 => absurd h9 he, fun _ => on_new hj hl⟩
  · exact (h q (by omega)).neg j
theorem RtsU.set {pos neg : List Bl} {R : List Int} {k : Nat} (h : RtsU pos neg R k) (j : Nat) : RtsU (pos.set j ⟨true⟩) neg R k := fun q hq => (h q hq).pos j
def UseP (f : Int) (rs : List CRow) (pos neg : List Bl) (q : Nat) : Prop := (On pos (f + q) ∨ On neg (f + q)) → ∀ k, k < (rs.getD q crow0).xs.length → On pos ((rs.getD q crow0).xs.getD k 0)
theorem UseP.set {f : Int} {rs : List CRow} {pos neg : List Bl} {q : Nat} (h : UseP f rs pos neg q) {j : Nat} (hj : j ≠ (f + q).toNat) : UseP f rs (pos.set j ⟨true⟩) neg q := fun h9 k hk => on_set (h (h9.imp (on_old hj) id) k hk)
def TosOk (pos : List Bl) (f : Int) (L : Nat) (tos : List Int) : Prop := ∀ j, j < tos.length → ((j : Int) < f ∨ On pos j) → 0 ≤ tos.getD j 0 ∧ tos.getD j 0 < f + L
theorem TosOk.nil (pos : List Bl) (f : Int) : TosOk pos f 0 [] := fun j hj => absurd hj (by simp)
theorem TosOk.app {pos : List Bl} {f x : Int} {L L' : Nat} {tos : List Int} (h : TosOk pos f L tos) (hl : L ≤ L') (hx : ((tos.length : Int) < f ∨ On pos tos.length) → 0 ≤ x ∧ x < f + L') : TosOk pos f L' (tos ++ [x]) := fun j hj hp => by
  rw [List.length_append, List.length_singleton] at hj
  by_cases e : j < tos.length
  · rw [zdl e]; have := h j e hp; omega
  · have e2 : j = tos.length := by omega
    subst e2
    rw [zdk (Nat.le_refl _), Nat.sub_self]; exact hx hp
theorem TosOk.up {pos : List Bl} {f : Int} {L L' : Nat} {tos : List Int} (h : TosOk pos f L tos) (hl : L ≤ L') : TosOk pos f L' tos := fun j hj hp => by have := h j hj hp; omega
def NosOk (neg : List Bl) (f : Int) (L k : Nat) (nos : List Int) : Prop := ∀ j, j < k → On neg j → 0 ≤ nos.getD j 0 ∧ nos.getD j 0 < f + L
theorem NosOk.skip {neg : List Bl} {f : Int} {L k : Nat} {nos : List Int} (h : NosOk neg f L k nos) (hn : (neg.getD k bl0).b = false) : NosOk neg f L (k + 1) nos := fun j hj ho => by
  by_cases e : j = k
  · subst e; unfold On at ho; rw [Int.toNat_natCast, hn] at ho; cases ho
  · exact h j (by omega) ho
theorem NosOk.put {neg : List Bl} {f x : Int} {L L' k : Nat} {nos : List Int} (h : NosOk neg f L k nos) (hk : k < nos.length) (hl : L ≤ L') (hx : 0 ≤ x ∧ x < f + L') : NosOk neg f L' (k + 1) (nos.set k x) := fun j hj ho => by
  by_cases e : j = k
  · subst e; rw [zcg hk]; exact hx
  · rw [List.getD_eq_getElem?_getD, List.getElem?_set_ne (by omega), ← List.getD_eq_getElem?_getD]
    have := h j (by omega) ho; omega
def LutsOk (f : Int) (ls : List Lt) : Prop := ∀ i, i < ls.length → LutP (f + i) (ls.getD i lt0)
theorem LutsOk.nil (f : Int) : LutsOk f [] := fun i hi => absurd hi (by simp)
theorem LutsOk.app {f : Int} {ls : List Lt} {x : Lt} (h : LutsOk f ls) (hx : LutP (f + ls.length) x) : LutsOk f (ls ++ [x]) := fun j hj => by
  rw [List.length_append, List.length_singleton] at hj
  by_cases e : j < ls.length
  · rw [zdl e]; exact h j e
  · have e2 : j = ls.length := by omega
    subst e2
    rw [zdk (Nat.le_refl _), Nat.sub_self]; exact hx
theorem tabP_of {t : Tab} (h : TabOk t) {n : Int} (hn : t.N = n) : TabP n t.B := by subst hn; exact h
theorem LutP.one {f k : Int} {v : Value} (h0 : 0 ≤ k) (h1 : k < f) : LutP f (Lt.mk v [k] 1) := ⟨⟨by simp, fun j hj => by
  have : j = 0 := by simp at hj; omega
  subst this; exact ⟨h0, h1⟩⟩, by show TabP 1 1; unfold TabP; decide⟩
theorem LutP.none {f : Int} {v : Value} : LutP f (Lt.mk v [] 1) := ⟨⟨by simp, fun j hj => absurd hj (by simp)⟩, by show TabP 0 1; unfold TabP; decide⟩
theorem below_nd {pos : List Bl} {f : Int} {L : Nat} {tos xs : List Int} (h : TosOk pos f L tos) (hx : ∀ k, k < xs.length → 0 ≤ xs.getD k 0 ∧ xs.getD k 0 < tos.length) (ho : ∀ k, k < xs.length → On pos (xs.getD k 0)) : BelowP (ndL tos xs) (f + L) := fun j hj => by
  rw [ndL_len] at hj
  rw [ndL_at hj]
  have h1 := hx j hj
  have h2 := ho j hj
  exact h _ (by omega) (.inr (by unfold On at *; rwa [Int.toNat_natCast]))
theorem ndL_app {tos xs : List Int} {x : Int} (hx : ∀ k, k < xs.length → 0 ≤ xs.getD k 0 ∧ xs.getD k 0 < tos.length) : ndL (tos ++ [x]) xs = ndL tos xs := by
  unfold ndL
  refine List.map_congr_left fun y hy => ?_
  obtain ⟨i, hi, rfl⟩ := List.mem_iff_getElem.1 hy
  have := hx i hi
  rw [List.getD_eq_getElem?_getD, List.getElem?_eq_getElem hi] at this
  exact zdl (by simp only [Option.getD_some] at this; omega)
theorem lutP_mk {t : Tab} {f : Int} {v : Value} {xs : List Int} (ht : TabOk t) (hn : t.N = xs.length) (h4 : xs.length ≤ 4) (hb : BelowP xs f) : LutP f (Lt.mk v xs t.B) := ⟨⟨h4, hb⟩, tabP_of ht hn⟩
theorem below_rt {pos neg : List Bl} {f c : Int} {L : Nat} {tos nos ls : List Int} (h : TosOk pos f L tos) (h2 : NosOk neg f L nos.length nos) (hl : (tos.length : Int) = c) (hl2 : (nos.length : Int) = c) (hx : ∀ l ∈ ls, LtOk l c ∧ RtU pos neg l) : BelowP (rtL tos nos ls) (f + L) := fun j hj => by
  rw [rtL_len] at hj
  have h9 := hx _ (zch (d := (0 : Int)) hj)
  have e : (rtL tos nos ls).getD j 0 = rtN tos nos (ls.getD j 0) := by
    unfold rtL; rw [List.getD_eq_getElem?_getD, List.getElem?_map, List.getElem?_eq_getElem hj, List.getD_eq_getElem?_getD (l := ls), List.getElem?_eq_getElem hj]; rfl
  rw [e]
  obtain ⟨h91, h92⟩ := h9
  unfold LtOk at h91
  by_cases he : ls.getD j 0 % 2 = 0
  · rw [rtN_even he]
    have := h92.1 he
    exact h _ (by omega) (.inr (by unfold On at *; rwa [Int.toNat_natCast]))
  · rw [rtN_odd he]
    have := h92.2 he
    exact h2 _ (by omega) (by unfold On at *; rwa [Int.toNat_natCast])
theorem RtsU.all {pos neg : List Bl} {R : List Int} (h : RtsU pos neg R R.length) : ∀ l ∈ R, RtU pos neg l := fun l hl => by
  obtain ⟨i, hi, rfl⟩ := List.mem_iff_getElem.1 hl
  have := h i hi
  rwa [List.getD_eq_getElem?_getD, List.getElem?_eq_getElem hi] at this
theorem rts_os {n : Nt} {l : Int} (h : l ∈ n.os) : l ∈ rtsL n n.ss.length := by unfold rtsL; exact List.mem_append.2 (.inl h)
theorem rts_sq {n : Nt} {s : Sq} (hs : s ∈ n.ss) {l : Int} (h : l ∈ s.xs) : l ∈ rtsL n n.ss.length := by
  unfold rtsL; rw [List.take_length]; exact List.mem_append.2 (.inr (List.mem_flatMap.2 ⟨s, hs, h⟩))
def RdsLuts (w : World) (ls : List Lt) : Prop := ∀ r ∈ ls, RdsW w r.iv 1 r.xs.length (r.xs.map (Value.int .i64))
theorem RdsLuts.nil (w : World) : RdsLuts w [] := fun r hr => by cases hr
theorem RdsLuts.app {w : World} {ls : List Lt} {r : Lt} (h : RdsLuts w ls) (hr : RdsW w r.iv 1 r.xs.length (r.xs.map (Value.int .i64))) : RdsLuts w (ls ++ [r]) := fun q hq => by
  rcases List.mem_append.1 hq with hq | hq
  · exact h q hq
  · rw [List.mem_singleton] at hq; subst hq; exact hr
def SqsN (c : Int) (ss : List Sq) : Prop := ∀ k, k < ss.length → SqOk (ss.getD k sq0) ∧ BelowP (ss.getD k sq0).xs c
theorem SqsN.nil (c : Int) : SqsN c [] := fun i hi => absurd hi (by simp)
theorem SqsN.app {c : Int} {ss : List Sq} {x : Sq} (h : SqsN c ss) (h1 : SqOk x) (h2 : BelowP x.xs c) : SqsN c (ss ++ [x]) := fun j hj => by
  rw [List.length_append, List.length_singleton] at hj
  by_cases e : j < ss.length
  · rw [zdl e]; exact h j e
  · have e2 : j = ss.length := by omega
    subst e2
    rw [zdk (Nat.le_refl _), Nat.sub_self]; exact ⟨h1, h2⟩
theorem sqOk_len {s : Sq} (h : SqOk s) {xs : List Int} (hl : xs.length = s.xs.length) (v : Value) : SqOk (Sq.mk s.kd s.it v xs) := ⟨by rw [show (Sq.mk s.kd s.it v xs).xs.length = s.xs.length from hl]; exact h.kind⟩
def ln00 : Ln := Ln.mk 0 (.slice none 0 0) (.slice none 0 0) (.slice none 0 0) [] [] []
theorem ln00_ok : LnOk ln00 := ⟨⟨by decide, by decide, by decide, by decide⟩, fun j hj => absurd hj (by simp [ln00]), fun j hj => absurd hj (by simp [ln00]), fun j hj => absurd hj (by simp [ln00])⟩
theorem ln_mk {n : Nt} {sv lv ov : Value} {ss : List Sq} {ls : List Lt} {os : List Int} (hn : NtOk n) (hs : ss.length = n.ss.length) (hl : ls.length ≤ 400) (ho : os.length ≤ 16) (h1 : BelowP os (n.fst + ls.length)) (h2 : SqsN (n.fst + ls.length) ss) (h3 : LutsOk n.fst ls) : LnOk (Ln.mk n.ins sv lv ov ss ls os) := by
  have e1 : (Ln.mk n.ins sv lv ov ss ls os).cnt = n.fst + ls.length := by show 1 + n.ins + (ss.length : Int) + ls.length = 1 + n.ins + (n.ss.length : Int) + ls.length; rw [hs]
  have e2 : (Ln.mk n.ins sv lv ov ss ls os).fst = n.fst := by show 1 + n.ins + (ss.length : Int) = 1 + n.ins + (n.ss.length : Int); rw [hs]
  exact ⟨⟨⟨hn.i0, hn.i1⟩, by rw [hs]; exact hn.s1, hl, ho⟩, by rw [e1]; exact h1, fun k hk => by rw [e1]; exact h2 k hk, fun i hi => by rw [e2]; exact h3 i hi⟩
theorem built_lutT (x0 : Value) (x1 : Int) (h0 : x0.oneCell' = true) : Try.prog.built 72 [(0, x0), (1, .int .i64 x1)] = some #[x0, .int .i64 x1] := by
  (cases x0 <;> first | (exact absurd h0 Bool.false_ne_true) | kernel_rfl)
theorem l20Nodes_ret (to xs : List Int) (u v : Value) (w : World) (hu : RdsW w u 1 to.length (to.map (Value.int .i64))) (hv : RdsW w v 1 xs.length (xs.map (Value.int .i64))) (hx : ∀ k, k < xs.length → 0 ≤ xs.getD k 0 ∧ xs.getD k 0 < to.length) (hl : xs.length ≤ 1000) :
   Calls Try.prog 81 #[u, v] w (Ret w (fun v' post => post = [rowE 3 1 v' ((ndL to xs)).length (((ndL to xs)).map (Value.int .i64))])) := by
 have hsu := sml hu
 refine zbf (N := 25) (args := [u, v]) Try.func81 rfl rfl (zbc 1 rfl (srQ ?_))
 refine zdu rfl (zcq (s := 1) rfl Try.underlying26 rfl) ?_
 intro g1
 refine zbb 1 rfl (zac (zbc 1 rfl (zaw ?_)))
 refine lkQ3 (α := Nat) (β := Value) (γ := List Int) [0, 1, 4] rfl (fun i gu zs => [rowE 3 1 gu zs.length (zs.map (Value.int .i64))]) (fun i gu zs => [(5, gu), (6, .int .i64 (i : Int))]) (fun i gu zs => i ≤ xs.length ∧ zs = ndL to (xs.take i)) (fun i gu zs => xs.length - i) 0 _ [] ⟨by omega, rfl⟩ (saQ rfl) (pfQ rfl) ?_
 intro i gu zs hi2
 obtain ⟨hi, hz⟩ := hi2
 have hzl : zs.length = i := by rw [hz]; unfold ndL; rw [List.length_map, List.length_take]; omega
 refine zac (zac (reQ 2 rfl (hvQ rfl (lnQ rfl rfl rfl (zaa hv)) ?_)))
 refine zbh rfl rfl rfl rfl rfl rfl (fun h3 => ?_) (fun h3 => ?_)
 ·
  refine ntQ (zao rfl (zcp (sbQ (zay ?_))))
  have hxi := hx i (by omega)
  refine zan 4 rfl (hvQ rfl (riQ 1 rfl rfl rfl rfl (zaa hv)) (hvQ rfl (liQ rfl rfl rfl (zaa hv)) (hvQ rfl (riQ 1 rfl rfl rfl rfl (zaa hu)) (hvQ rfl (lzQ rfl rfl rfl (zaa hu)) ?_))))
  refine zdu rfl (zau (z := .int .i64 0) (s := 1) (cs := ([to.getD ((xs.getD i 0).toNat) 0].map (Value.int .i64))) rfl Try.underlying26 rfl (by decide) rfl (by kernel_rfl) rfl) ?_
  intro g4
  refine zcf (i := 1) (z := .int .i64 0) (bytes := 8) rfl rfl rfl rfl Try.underlying26 (by kernel_rfl) rfl rfl rfl rfl (zah 0 rfl) (zbw _) (by first | omega | (simp; done) | (simp; omega)) (zbt zs ([to.getD ((xs.getD i 0).toNat) 0])) (zcn zs ([to.getD ((xs.getD i 0).toNat) 0])) (fun _ => rfl) ?_
  intro v5
  refine enQ 1 rfl (zcv (reQ 1 rfl (hvQ rfl (vaQ rfl rfl rfl) (enQ 1 rfl ?_))))
  exact zbi (i + 1) v5 (zs ++ ([to.getD ((xs.getD i 0).toNat) 0])) ⟨by omega, by rw [hz]; unfold ndL; rw [zfd 0 (show i < xs.length by omega), List.map_append]; rfl⟩ (by omega) (saQ rfl) (slQ [1] rfl)
 refine ntQ (zaq rfl ?_)
 refine zaz (zdr ?_)
 refine zaf (zax (zbc 2 rfl ?_))
 exact zav (zdc (post := [rowE 3 1 gu zs.length (zs.map (Value.int .i64))]) rfl rfl (pfQ rfl) (by rw [hz, List.take_of_length_le (by omega)]))
theorem l20Roots_ret (to no xs : List Int) (u t v : Value) (w : World) (hu : RdsW w u 1 to.length (to.map (Value.int .i64))) (ht : RdsW w t 1 no.length (no.map (Value.int .i64))) (hv : RdsW w v 1 xs.length (xs.map (Value.int .i64))) (hx : ∀ k, k < xs.length → 0 ≤ xs.getD k 0 ∧ xs.getD k 0 < 2 * to.length) (hl : xs.length ≤ 1000) (hto : to.length ≤ 1000 ∧ no.length = to.length) :
   Calls Try.prog 83 #[u, t, v] w (Ret w (fun v' post => post = [rowE 3 1 v' ((rtL to no xs)).length (((rtL to no xs)).map (Value.int .i64))])) := by
 refine zbf (N := 45) (args := [u, t, v]) Try.func83 rfl rfl (zbc 1 rfl (srQ ?_))
 refine zdu rfl (zcq (s := 1) rfl Try.underlying26 rfl) ?_
 intro g1
 refine zbb 1 rfl (zac (zbc 1 rfl (zaw ?_)))
 refine lkQ3 (α := Nat) (β := Value) (γ := List Int) [0, 1, 2, 6] rfl (fun i gu zs => [rowE 3 1 gu zs.length (zs.map (Value.int .i64))]) (fun i gu zs => [(7, gu), (8, .int .i64 (i : Int))]) (fun i gu zs => i ≤ xs.length ∧ zs = rtL to no (xs.take i)) (fun i gu zs => xs.length - i) 0 _ [] ⟨by omega, rfl⟩ (saQ rfl) (pfQ rfl) ?_
 intro i gu zs hi2
 obtain ⟨hi, hz⟩ := hi2
 have hzl : zs.length = i := by rw [hz]; unfold rtL; rw [List.length_map, List.length_take]; omega
 refine zac (zac (reQ 2 rfl (hvQ rfl (lnQ rfl rfl rfl (zaa hv)) ?_)))
 refine zbh rfl rfl rfl rfl rfl rfl (fun h3 => ?_) (fun h3 => ?_)
 ·
  refine ntQ (zao rfl (zcp (sbQ (srQ ?_))))
  have hxi := hx i (by omega)
  refine zan 2 rfl (hvQ rfl (riQ 1 rfl rfl rfl rfl (zaa hv)) (hvQ rfl (liQ rfl rfl rfl (zaa hv)) (hvQ rfl (rv_rem rfl rfl rfl (by constructor <;> omega)) ?_)))
  refine zcu rfl rfl rfl rfl rfl rfl (fun h4 => ?_) (fun h4 => ?_)
  ·
   refine ntQ (zao rfl (reQ 4 rfl (hvQ rfl (riQ 1 rfl rfl rfl rfl (zaa hv)) (hvQ rfl (liQ rfl rfl rfl (zaa hv)) ?_))))
   refine hvQ rfl (zep rfl rfl rfl (by refine ⟨?_, ?_, ?_⟩ <;> omega)) ?_
   refine hvQ rfl (riQ 1 rfl rfl rfl rfl (zaa hu)) (hvQ rfl (lzQ rfl rfl rfl (zaa hu)) ?_)
   refine zdu rfl (zau (z := .int .i64 0) (s := 1) (cs := ([to.getD (((xs.getD i 0) / 2).toNat) 0].map (Value.int .i64))) rfl Try.underlying26 rfl (by decide) rfl (by kernel_rfl) rfl) ?_
   intro g5
   refine zcf (i := 1) (z := .int .i64 0) (bytes := 8) rfl rfl rfl rfl Try.underlying26 (by kernel_rfl) rfl rfl rfl rfl (zah 0 rfl) (zbw _) (by first | omega | (simp; done) | (simp; omega)) (zbt zs ([to.getD (((xs.getD i 0) / 2).toNat) 0])) (zcn zs ([to.getD (((xs.getD i 0) / 2).toNat) 0])) (fun _ => rfl) ?_
   intro v6
   refine enQ 1 rfl (zcv (reQ 1 rfl (hvQ rfl (vaQ rfl rfl rfl) (enQ 1 rfl ?_))))
   exact zbi (i + 1) v6 (zs ++ ([to.getD (((xs.getD i 0) / 2).toNat) 0])) ⟨by omega, by rw [hz]; unfold rtL; rw [zfd 0 (show i < xs.length by omega), List.map_append]; first | (rw [← rtN_even (to := to) (no := no) (by assumption)]; rfl) | (rw [← rtN_odd (to := to) (no := no) (by assumption)]; rfl)⟩ (by omega) (saQ rfl) (slQ [1] rfl)
  refine ntQ (zaq rfl (reQ 4 rfl (hvQ rfl (riQ 1 rfl rfl rfl rfl (zaa hv)) (hvQ rfl (liQ rfl rfl rfl (zaa hv)) ?_))))
  refine hvQ rfl (zep rfl rfl rfl (by refine ⟨?_, ?_, ?_⟩ <;> omega)) ?_
  refine hvQ rfl (riQ 1 rfl rfl rfl rfl (zaa ht)) (hvQ rfl (lzQ rfl rfl rfl (zaa ht)) ?_)
  refine zdu rfl (zau (z := .int .i64 0) (s := 1) (cs := ([no.getD (((xs.getD i 0) / 2).toNat) 0].map (Value.int .i64))) rfl Try.underlying26 rfl (by decide) rfl (by kernel_rfl) rfl) ?_
  intro g7
  refine zcf (i := 1) (z := .int .i64 0) (bytes := 8) rfl rfl rfl rfl Try.underlying26 (by kernel_rfl) rfl rfl rfl rfl (zah 0 rfl) (zbw _) (by first | omega | (simp; done) | (simp; omega)) (zbt zs ([no.getD (((xs.getD i 0) / 2).toNat) 0])) (zcn zs ([no.getD (((xs.getD i 0) / 2).toNat) 0])) (fun _ => rfl) ?_
  intro v8
  refine enQ 1 rfl (zcv (reQ 1 rfl (hvQ rfl (vaQ rfl rfl rfl) (enQ 1 rfl ?_))))
  exact zbi (i + 1) v8 (zs ++ ([no.getD (((xs.getD i 0) / 2).toNat) 0])) ⟨by omega, by rw [hz]; unfold rtL; rw [zfd 0 (show i < xs.length by omega), List.map_append]; first | (rw [← rtN_even (to := to) (no := no) (by assumption)]; rfl) | (rw [← rtN_odd (to := to) (no := no) (by assumption)]; rfl)⟩ (by omega) (saQ rfl) (slQ [1] rfl)
 refine ntQ (zaq rfl ?_)
 refine zaz (zdr ?_)
 refine zaf (zax (zbc 2 rfl ?_))
 exact zav (zdc (post := [rowE 3 1 gu zs.length (zs.map (Value.int .i64))]) rfl rfl (pfQ rfl) (by rw [hz, List.take_of_length_le (by omega)]))
theorem ToLuts_ret (n : Nt) (rs : List CRow) (v : Value) (w : World) (hr : RdsNt w n) (hn : NtOk n) (hv : RdsCl w v rs) (h400 : ∀ r ∈ rs, r.xs.length ≤ 400) (hg100 : n.gs.length ≤ 100) :
   Calls Try.prog 59 #[.agg #[.int .i64 n.ins, n.sv, n.av, n.ov], v] w (Ret w (fun u_ p_ => ∃ (ps : List HP) (m : Ln) (b : Bool), u_ = .tuple #[m.agg, .bool b] ∧ p_ = [bigE ps] ∧ (∀ w, (bigE ps).holds w → RdsLn w m) ∧ (m.sv.oneCell' = true ∧ m.lv.oneCell' = true ∧ m.ov.oneCell' = true) ∧ LnOk m)) := by
 have hi0 := hn.i0
 have hi1 := hn.i1
 have hs1 := hn.s1
 have ha1 := hn.a1
 have ho1 := hn.o1
 have hcnt : n.cnt = 1 + n.ins + n.ss.length + n.gs.length := rfl
 have hfst : n.fst = 1 + n.ins + n.ss.length := rfl
 have hrt := rts_len hn n.ss.length (Nat.le_refl _)
 refine zbf (N := 259) (args := [.agg #[.int .i64 n.ins, n.sv, n.av, n.ov], v]) Try.func59 rfl rfl (srQ ?_)
 refine zdt rfl (zct rfl rfl) ?_
 intro b1
 refine zdt rfl (zbm (z := .agg #[.int .i64 0, .slice none 0 0, .slice none 0 0, .slice none 0 0]) rfl rfl) ?_
 intro b2
 refine zbb 1 rfl (zfl (hvQ rfl (zar (cs := [.int .i64 n.ins, n.sv, n.av, n.ov]) rfl rfl rfl rfl rfl (zam 1 rfl 0 rfl)) (zan 1 rfl ?_)))
 refine zdn rfl (zal rfl rfl (fun w hm => zas (MappingOk_ans n rs _ w (hr.below hm.bel) hn (hv.below hm.bel) h400))) (zbl (fun h3 => ?_) (fun h3 => ?_))
 ·
  have hmp := of_pBe h3
  have hmpl := hmp.len
  refine zbb 1 rfl (zaq rfl (zcp (srQ (hvQ rfl (zar (cs := [.int .i64 n.ins, n.sv, n.av, n.ov]) rfl rfl rfl rfl rfl (zam 1 rfl 0 rfl)) ?_))))
  refine zdn rfl (zal rfl rfl (fun w hm => zas (zbs n w (hr.below hm.bel) hn))) (zbb 1 rfl (srQ (hvQ rfl (zar (cs := [.int .i64 n.ins, n.sv, n.av, n.ov]) rfl rfl rfl rfl rfl (zam 1 rfl 0 rfl)) ?_)))
  refine zdn rfl (zal rfl rfl (fun w hm => zas (zbz n w (hr.below hm.bel) hn))) (zbb 1 rfl (zac (reQ 1 rfl ?_)))
  refine zdu rfl (zei (z := .bool false) (s := 1) (bytes := 1) (n := (List.replicate (n.cnt).toNat bl0).length) (cs := ((List.replicate (n.cnt).toNat bl0).flatMap blC)) rfl Try.underlying80 rfl (by decide) rfl rfl (by first | (rw [List.length_replicate]; done) | (rw [List.length_replicate]; omega)) (by first | (rw [List.length_replicate]; done) | (rw [List.length_replicate]; omega)) (by rw [List.length_replicate]; omega) (zey blC 1 (fun _ => rfl) bl0 _ rfl (n.cnt).toNat)) ?_
  intro g4
  refine zbb 1 rfl (zac (reQ 1 rfl ?_))
  refine zdu rfl (zei (z := .bool false) (s := 1) (bytes := 1) (n := (List.replicate (n.cnt).toNat bl0).length) (cs := ((List.replicate (n.cnt).toNat bl0).flatMap blC)) rfl Try.underlying80 rfl (by decide) rfl rfl (by first | (rw [List.length_replicate]; done) | (rw [List.length_replicate]; omega)) (by first | (rw [List.length_replicate]; done) | (rw [List.length_replicate]; omega)) (by rw [List.length_replicate]; omega) (zey blC 1 (fun _ => rfl) bl0 _ rfl (n.cnt).toNat)) ?_
  intro g5
  refine zbb 1 rfl (srQ (hvQ rfl (zar (cs := [.int .i64 n.ins, n.sv, n.av, n.ov]) rfl rfl rfl rfl rfl (zam 3 rfl 0 rfl)) ?_))
  refine hl_q rfl rfl rfl (zal rfl rfl (fun w hm => l08Roots_ret n w (hr.below hm.bel) hn)) ?_
  intro v6 p7 hR8
  subst hR8
  refine zbb 1 rfl (zac (zbc 1 rfl (zaw ?_)))
  refine lkQ3 (α := Nat) (β := List Bl) (γ := List Bl) [0, 1, 2, 4, 5, 6, 7, 8, 9, 10, 27] rfl (fun i ps ng => [rowE 3 1 v6 ((rtsL n n.ss.length).length) ((rtsL n n.ss.length).map (Value.int .i64)), rowE 4 1 (.slice (some ⟨g5, 0, none⟩) ((List.replicate (n.cnt).toNat bl0).length) ((List.replicate (n.cnt).toNat bl0).length)) ng.length (ng.flatMap blC), rowE 4 1 (.slice (some ⟨g4, 0, none⟩) ((List.replicate (n.cnt).toNat bl0).length) ((List.replicate (n.cnt).toNat bl0).length)) ps.length (ps.flatMap blC), boxE b2 #[.int .i64 0, .slice none 0 0, .slice none 0 0, .slice none 0 0] 28, boxE b1 #[.int .i64 n.ins, n.sv, n.av, n.ov] 101]) (fun i ps ng => [(11, .int .i64 (i : Int))]) (fun i ps ng => i ≤ (rtsL n n.ss.length).length ∧ ps.length = n.cnt.toNat ∧ ng.length = n.cnt.toNat ∧ RtsU ps ng (rtsL n n.ss.length) i) (fun i ps ng => (rtsL n n.ss.length).length - i) 0 _ _ ⟨Nat.zero_le _, by rw [List.length_replicate], by rw [List.length_replicate], fun j hj => absurd hj (Nat.not_lt_zero _)⟩ (saQ rfl) (pfQ rfl) ?_
  intro i ps ng hi9
  obtain ⟨hi, hpl, hnl, hru⟩ := hi9
  refine zac (zac (reQ 2 rfl (hvQ rfl (lnQ rfl rfl rfl (zah 0 rfl)) ?_)))
  refine zbh rfl rfl rfl rfl rfl rfl (fun h10 => ?_) (fun h10 => ?_)
  ·
   refine ntQ (zao rfl (zcp (sbQ (srQ ?_))))
   have hlk := rts_ok hn (i := i) (by omega)
   unfold LtOk at hlk
   refine zan 2 rfl (hvQ rfl (riQ 1 rfl rfl rfl rfl (zah 0 rfl)) (hvQ rfl (zat (u := .int .i64 ((rtsL n n.ss.length).getD i 0)) rfl rfl rfl (zah 0 rfl) (zdi (show _ < (rtsL n n.ss.length).length by omega))) (hvQ rfl (rv_rem rfl rfl rfl (by constructor <;> omega)) ?_)))
   refine zcu rfl rfl rfl rfl rfl rfl (fun h11 => ?_) (fun h11 => ?_)
   ·
    refine ntQ (zao rfl (reQ 3 rfl (hvQ rfl (riQ 1 rfl rfl rfl rfl (zah 0 rfl)) (hvQ rfl (zat (u := .int .i64 ((rtsL n n.ss.length).getD i 0)) rfl rfl rfl (zah 0 rfl) (zdi (show _ < (rtsL n n.ss.length).length by omega))) ?_))))
    refine hvQ rfl (zep rfl rfl rfl (by refine ⟨?_, ?_, ?_⟩ <;> omega)) ?_
    refine hvQ rfl (riQ 1 rfl rfl rfl rfl (zah 2 rfl)) (zcw (i := 2) (n' := (ps.set ((((rtsL n n.ss.length).getD i 0) / 2).toNat) { ps.getD ((((rtsL n n.ss.length).getD i 0) / 2).toNat) bl0 with b := true }).length) rfl rfl rfl rfl rfl rfl rfl rfl (by first | omega | (simp only [List.length_set]; omega)) List.length_set.symm (zdf blC (fun r => .bool r.b) (fun _ => rfl) _ ({ ps.getD ((((rtsL n n.ss.length).getD i 0) / 2).toNat) bl0 with b := true }) rfl) rfl ?_)
    refine zcb (zcv (reQ 1 rfl (hvQ rfl (vaQ rfl rfl rfl) (enQ 1 rfl ?_))))
    exact zbi (i + 1) (ps.set ((((rtsL n n.ss.length).getD i 0) / 2).toNat) { ps.getD ((((rtsL n n.ss.length).getD i 0) / 2).toNat) bl0 with b := true }) ng ⟨by omega, by rw [List.length_set]; exact hpl, hnl, hru.even rfl (by omega) (by assumption)⟩ (by omega) (saQ rfl) (pfQ rfl)
   refine ntQ (zaq rfl (reQ 3 rfl (hvQ rfl (riQ 1 rfl rfl rfl rfl (zah 0 rfl)) (hvQ rfl (zat (u := .int .i64 ((rtsL n n.ss.length).getD i 0)) rfl rfl rfl (zah 0 rfl) (zdi (show _ < (rtsL n n.ss.length).length by omega))) ?_))))
   refine hvQ rfl (zep rfl rfl rfl (by refine ⟨?_, ?_, ?_⟩ <;> omega)) ?_
   refine hvQ rfl (riQ 1 rfl rfl rfl rfl (zah 1 rfl)) (zcw (i := 1) (n' := (ng.set ((((rtsL n n.ss.length).getD i 0) / 2).toNat) { ng.getD ((((rtsL n n.ss.length).getD i 0) / 2).toNat) bl0 with b := true }).length) rfl rfl rfl rfl rfl rfl rfl rfl (by first | omega | (simp only [List.length_set]; omega)) List.length_set.symm (zdf blC (fun r => .bool r.b) (fun _ => rfl) _ ({ ng.getD ((((rtsL n n.ss.length).getD i 0) / 2).toNat) bl0 with b := true }) rfl) rfl ?_)
   refine zcb (zcv (reQ 1 rfl (hvQ rfl (vaQ rfl rfl rfl) (enQ 1 rfl ?_))))
   exact zbi (i + 1) ps (ng.set ((((rtsL n n.ss.length).getD i 0) / 2).toNat) { ng.getD ((((rtsL n n.ss.length).getD i 0) / 2).toNat) bl0 with b := true }) ⟨by omega, hpl, by rw [List.length_set]; exact hnl, hru.odd rfl (by omega) (by assumption)⟩ (by omega) (saQ rfl) (pfQ rfl)
  refine ntQ (zaq rfl ?_)
  refine zaz (zdr ?_)
  refine zaf (zax (zac (zac (reQ 1 rfl (hvQ rfl (lnQ rfl rfl rfl (zaa hv.row)) (hvQ rfl (vsQ rfl rfl rfl) (zbb 1 rfl (zaw ?_))))))))
  refine lkQ2 (α := Int) (β := List Bl) [0, 1, 2, 4, 5, 6, 7, 8, 9, 10, 27, 42] rfl (fun c9 p2 => [rowE 3 1 v6 ((rtsL n n.ss.length).length) ((rtsL n n.ss.length).map (Value.int .i64)), rowE 4 1 (.slice (some ⟨g5, 0, none⟩) ((List.replicate (n.cnt).toNat bl0).length) ((List.replicate (n.cnt).toNat bl0).length)) ng.length (ng.flatMap blC), rowE 4 1 (.slice (some ⟨g4, 0, none⟩) ((List.replicate (n.cnt).toNat bl0).length) ((List.replicate (n.cnt).toNat bl0).length)) p2.length (p2.flatMap blC), boxE b2 #[.int .i64 0, .slice none 0 0, .slice none 0 0, .slice none 0 0] 28, boxE b1 #[.int .i64 n.ins, n.sv, n.av, n.ov] 101]) (fun c9 p2 => [(12, .int .i64 c9)]) (fun c9 p2 => -1 ≤ c9 ∧ c9 < (rs.length : Int) ∧ p2.length = n.cnt.toNat ∧ RtsU p2 ng (rtsL n n.ss.length) (rtsL n n.ss.length).length ∧ ∀ q : Nat, c9 < q → q < rs.length → UseP n.fst rs p2 ng q) (fun c9 p2 => (c9 + 1).toNat) _ _ ⟨by omega, by omega, hpl, (by rw [show i = (rtsL n n.ss.length).length by omega] at hru; exact hru), fun q h1 h2 => absurd h1 (by omega)⟩ (saQ rfl) (pfQ rfl) ?_
  intro c9 p2 hi12
  obtain ⟨hc0, hc1, hpl2, hru2, hus2⟩ := hi12
  refine zac (zac (reQ 1 rfl ?_))
  refine zfh rfl rfl rfl rfl rfl rfl (fun h13 => ?_) (fun h13 => ?_)
  ·
   refine ntQ (zao rfl (zcp (sbQ (zbc 1 rfl ?_))))
   refine zaw ?_
   refine lkQ2 (α := Nat) (β := List Bl) [0, 1, 2, 4, 5, 6, 7, 8, 9, 10, 12, 27, 42, 69] rfl (fun k9 p3 => [rowE 3 1 v6 ((rtsL n n.ss.length).length) ((rtsL n n.ss.length).map (Value.int .i64)), rowE 4 1 (.slice (some ⟨g5, 0, none⟩) ((List.replicate (n.cnt).toNat bl0).length) ((List.replicate (n.cnt).toNat bl0).length)) ng.length (ng.flatMap blC), rowE 4 1 (.slice (some ⟨g4, 0, none⟩) ((List.replicate (n.cnt).toNat bl0).length) ((List.replicate (n.cnt).toNat bl0).length)) p3.length (p3.flatMap blC), boxE b2 #[.int .i64 0, .slice none 0 0, .slice none 0 0, .slice none 0 0] 28, boxE b1 #[.int .i64 n.ins, n.sv, n.av, n.ov] 101]) (fun k9 p3 => [(13, .int .i64 (k9 : Int))]) (fun k9 p3 => k9 ≤ (rs.getD ((c9).toNat) crow0).xs.length ∧ p3.length = n.cnt.toNat ∧ RtsU p3 ng (rtsL n n.ss.length) (rtsL n n.ss.length).length ∧ (∀ q : Nat, c9 < q → q < rs.length → UseP n.fst rs p3 ng q) ∧ ∀ j, j < k9 → On p3 ((rs.getD ((c9).toNat) crow0).xs.getD j 0)) (fun k9 p3 => (rs.getD ((c9).toNat) crow0).xs.length - k9) 0 _ ⟨Nat.zero_le _, hpl2, hru2, hus2, fun j hj => absurd hj (Nat.not_lt_zero _)⟩ (saQ rfl) (pfQ rfl) ?_
   intro k9 p3 hi14
   obtain ⟨hk9, hpl3, hru3, hus3, hon⟩ := hi14
   have hx4 := h400 _ (zcj (es := rs) (i := c9.toNat) (d := crow0) (by omega))
   refine zac (zac (reQ 3 rfl (hvQ rfl (riQ 1 rfl rfl rfl rfl (zaa hv.row)) ?_)))
   refine hvQ rfl (zat (u := (rs.getD ((c9).toNat) crow0).v) rfl rfl rfl (zaa hv.row) (zbn crowC (fun r => r.v) (fun _ => rfl) rs crow0 (show (c9).toNat < _ by omega))) (hvQ rfl (lnQ rfl rfl rfl (zaa (hv.at (k := ((c9).toNat)) (by omega)))) ?_)
   refine zbh rfl rfl rfl rfl rfl rfl (fun h15 => ?_) (fun h15 => ?_)
   ·
    refine zan 4 rfl (hvQ rfl (vaQ rfl rfl rfl) (hvQ rfl (riQ 1 rfl rfl rfl rfl (zah 2 rfl)) ?_))
    refine hvQ rfl (zat (u := .bool ((p3.getD ((n.fst + c9).toNat) bl0).b)) rfl rfl rfl (zah 2 rfl) (zbn blC (fun r => .bool r.b) (fun _ => rfl) p3 bl0 (show (n.fst + c9).toNat < _ by omega))) (zbl (fun h16 => ?_) (fun h16 => ?_))
    ·
     refine zbb 9 rfl (zao rfl (zcp (sbQ (zay ?_))))
     have hbk := hmp.below hn (i := c9.toNat) (by omega) (k := k9) (by omega)
     refine zan 3 rfl (hvQ rfl (riQ 1 rfl rfl rfl rfl (zaa hv.row)) ?_)
     refine hvQ rfl (zat (u := (rs.getD ((c9).toNat) crow0).v) rfl rfl rfl (zaa hv.row) (zbn crowC (fun r => r.v) (fun _ => rfl) rs crow0 (show (c9).toNat < _ by omega))) (zan 1 rfl (hvQ rfl (riQ 1 rfl rfl rfl rfl (zaa (hv.at (k := ((c9).toNat)) (by omega)))) (hvQ rfl (zat (u := .int .i64 (((rs.getD ((c9).toNat) crow0).xs).getD k9 0)) rfl rfl rfl (zaa (hv.at (k := ((c9).toNat)) (by omega))) (zdi (show _ < ((rs.getD ((c9).toNat) crow0).xs).length by omega))) (hvQ rfl (riQ 1 rfl rfl rfl rfl (zah 2 rfl)) ?_))))
     refine zcw (i := 2) (n' := (p3.set ((((rs.getD ((c9).toNat) crow0).xs).getD k9 0).toNat) { p3.getD ((((rs.getD ((c9).toNat) crow0).xs).getD k9 0).toNat) bl0 with b := true }).length) rfl rfl rfl rfl rfl rfl rfl rfl (by first | omega | (simp only [List.length_set]; omega)) List.length_set.symm (zdf blC (fun r => .bool r.b) (fun _ => rfl) _ ({ p3.getD ((((rs.getD ((c9).toNat) crow0).xs).getD k9 0).toNat) bl0 with b := true }) rfl) rfl (zcb (zcv (reQ 1 rfl (hvQ rfl (vaQ rfl rfl rfl) (enQ 1 rfl ?_)))))
     exact zbv (k9 + 1) (p3.set ((((rs.getD ((c9).toNat) crow0).xs).getD k9 0).toNat) { p3.getD ((((rs.getD ((c9).toNat) crow0).xs).getD k9 0).toNat) bl0 with b := true }) ⟨by omega, by rw [List.length_set]; exact hpl3, hru3.set _, fun q h1 h2 => (hus3 q h1 h2).set (by omega), fun j hj => by by_cases e : j = k9; (subst e; exact on_new rfl (by omega)); exact on_set (hon j (by omega))⟩ (by omega) (saQ rfl) (pfQ rfl)
    refine zan 4 rfl (hvQ rfl (vaQ rfl rfl rfl) (hvQ rfl (riQ 1 rfl rfl rfl rfl (zah 1 rfl)) ?_))
    refine hvQ rfl (zat (u := .bool ((ng.getD ((n.fst + c9).toNat) bl0).b)) rfl rfl rfl (zah 1 rfl) (zbn blC (fun r => .bool r.b) (fun _ => rfl) ng bl0 (show (n.fst + c9).toNat < _ by omega))) (zbl (fun h17 => ?_) (fun h17 => ?_))
    ·
     refine zbb 2 rfl (zao rfl (zcp (sbQ (zay ?_))))
     have hbk := hmp.below hn (i := c9.toNat) (by omega) (k := k9) (by omega)
     refine zan 3 rfl (hvQ rfl (riQ 1 rfl rfl rfl rfl (zaa hv.row)) ?_)
     refine hvQ rfl (zat (u := (rs.getD ((c9).toNat) crow0).v) rfl rfl rfl (zaa hv.row) (zbn crowC (fun r => r.v) (fun _ => rfl) rs crow0 (show (c9).toNat < _ by omega))) (zan 1 rfl (hvQ rfl (riQ 1 rfl rfl rfl rfl (zaa (hv.at (k := ((c9).toNat)) (by omega)))) (hvQ rfl (zat (u := .int .i64 (((rs.getD ((c9).toNat) crow0).xs).getD k9 0)) rfl rfl rfl (zaa (hv.at (k := ((c9).toNat)) (by omega))) (zdi (show _ < ((rs.getD ((c9).toNat) crow0).xs).length by omega))) (hvQ rfl (riQ 1 rfl rfl rfl rfl (zah 2 rfl)) ?_))))
     refine zcw (i := 2) (n' := (p3.set ((((rs.getD ((c9).toNat) crow0).xs).getD k9 0).toNat) { p3.getD ((((rs.getD ((c9).toNat) crow0).xs).getD k9 0).toNat) bl0 with b := true }).length) rfl rfl rfl rfl rfl rfl rfl rfl (by first | omega | (simp only [List.length_set]; omega)) List.length_set.symm (zdf blC (fun r => .bool r.b) (fun _ => rfl) _ ({ p3.getD ((((rs.getD ((c9).toNat) crow0).xs).getD k9 0).toNat) bl0 with b := true }) rfl) rfl (zcb (zcv (reQ 1 rfl (hvQ rfl (vaQ rfl rfl rfl) (enQ 1 rfl ?_)))))
     exact zbv (k9 + 1) (p3.set ((((rs.getD ((c9).toNat) crow0).xs).getD k9 0).toNat) { p3.getD ((((rs.getD ((c9).toNat) crow0).xs).getD k9 0).toNat) bl0 with b := true }) ⟨by omega, by rw [List.length_set]; exact hpl3, hru3.set _, fun q h1 h2 => (hus3 q h1 h2).set (by omega), fun j hj => by by_cases e : j = k9; (subst e; exact on_new rfl (by omega)); exact on_set (hon j (by omega))⟩ (by omega) (saQ rfl) (pfQ rfl)
    refine zbb 2 rfl (zaq rfl ?_)
    refine zaz (zdr ?_)
    refine zaf (zcv (reQ 1 rfl (hvQ rfl (vsQ rfl rfl rfl) (enQ 1 rfl ?_))))
    exact zbv (c9 - 1) p3 ⟨by omega, by omega, hpl3, hru3, fun q h1 h2 => by by_cases e : q = c9.toNat; (subst e; intro h9; first | (exact fun k hk => hon k (by omega)) | (exfalso; revert h9; intro h9; exact absurd h9 (by intro h9; rw [show (Int.toNat c9 : Int) = c9 by omega] at h9; unfold On at h9; rcases h9 with h9 | h9; (rw [show (p3.getD (n.fst + c9).toNat bl0).b = false by assumption] at h9; cases h9); (rw [show (ng.getD (n.fst + c9).toNat bl0).b = false by assumption] at h9; cases h9)))); exact hus3 q (by omega) h2⟩ (by omega) (saQ rfl) (pfQ rfl)
   refine zbb 16 rfl (zaq rfl ?_)
   refine zaz (zdr ?_)
   refine zaf (zcv (reQ 1 rfl (hvQ rfl (vsQ rfl rfl rfl) (enQ 1 rfl ?_))))
   exact zbv (c9 - 1) p3 ⟨by omega, by omega, hpl3, hru3, fun q h1 h2 => by by_cases e : q = c9.toNat; (subst e; intro h9; first | (exact fun k hk => hon k (by omega)) | (exfalso; revert h9; intro h9; exact absurd h9 (by intro h9; rw [show (Int.toNat c9 : Int) = c9 by omega] at h9; unfold On at h9; rcases h9 with h9 | h9; (rw [show (p3.getD (n.fst + c9).toNat bl0).b = false by assumption] at h9; cases h9); (rw [show (ng.getD (n.fst + c9).toNat bl0).b = false by assumption] at h9; cases h9)))); exact hus3 q (by omega) h2⟩ (by omega) (saQ rfl) (pfQ rfl)
  refine ntQ (zaq rfl ?_)
  refine zaz (zdr ?_)
  refine zaf (zax (srQ (hvQ rfl (fdQ 0 rfl rfl rfl) (hvQ rfl (zag rfl rfl rfl (zad 4 rfl rfl)) (hvQ rfl (zda (cs := #[.int .i64 n.ins, .slice none 0 0, .slice none 0 0, .slice none 0 0]) rfl rfl rfl) ?_)))))
  refine zdt rfl (zbm (z := .agg #[.int .i64 0, .slice none 0 0, .slice none 0 0, .slice none 0 0]) rfl rfl) ?_
  intro b18
  refine zbr (cs' := #[.int .i64 n.ins, .slice none 0 0, .slice none 0 0, .slice none 0 0]) (i := 0) (off := 0) (us := [.int .i64 n.ins, .slice none 0 0, .slice none 0 0, .slice none 0 0]) rfl rfl rfl rfl rfl rfl rfl (zae rfl (zae rfl (zae rfl (zae rfl zbj)))) rfl rfl rfl (ntQ (srQ ?_))
  refine zdu rfl (zcq (s := 1) rfl Try.underlying26 rfl) ?_
  intro g19
  refine zbb 1 rfl (zac (reQ 1 rfl ?_))
  refine zdu rfl (zei (z := .int .i64 0) (s := 1) (bytes := 8) (n := (List.replicate (n.cnt).toNat (0 : Int)).length) (cs := ((List.replicate (n.cnt).toNat (0 : Int)).map (Value.int .i64))) rfl Try.underlying26 rfl (by decide) rfl rfl (by first | (rw [List.length_replicate]; done) | (rw [List.length_replicate]; omega)) (by first | (rw [List.length_replicate]; done) | (rw [List.length_replicate]; omega)) (by rw [List.length_replicate]; omega) (zez _)) ?_
  intro g20
  refine zbb 1 rfl (zac (zbc 1 rfl (zaw ?_)))
  refine lkQ3 (α := Nat) (β := Value) (γ := List Int) [0, 1, 2, 4, 5, 6, 7, 8, 9, 10, 14, 16, 27, 42, 69] rfl (fun k1 u1 to1 => [rowE 3 1 (.slice (some ⟨g20, 0, none⟩) ((List.replicate (n.cnt).toNat (0 : Int)).length) ((List.replicate (n.cnt).toNat (0 : Int)).length)) ((List.replicate (n.cnt).toNat (0 : Int)).length) ((List.replicate (n.cnt).toNat (0 : Int)).map (Value.int .i64)), rowE 3 1 u1 to1.length (to1.map (Value.int .i64)), boxE b18 #[.int .i64 n.ins, .slice none 0 0, .slice none 0 0, .slice none 0 0] 28, rowE 3 1 v6 ((rtsL n n.ss.length).length) ((rtsL n n.ss.length).map (Value.int .i64)), rowE 4 1 (.slice (some ⟨g5, 0, none⟩) ((List.replicate (n.cnt).toNat bl0).length) ((List.replicate (n.cnt).toNat bl0).length)) ng.length (ng.flatMap blC), rowE 4 1 (.slice (some ⟨g4, 0, none⟩) ((List.replicate (n.cnt).toNat bl0).length) ((List.replicate (n.cnt).toNat bl0).length)) p2.length (p2.flatMap blC), boxE b2 #[.int .i64 0, .slice none 0 0, .slice none 0 0, .slice none 0 0] 28, boxE b1 #[.int .i64 n.ins, n.sv, n.av, n.ov] 101]) (fun k1 u1 to1 => [(15, u1), (17, .int .i64 (k1 : Int))]) (fun k1 u1 to1 => (k1 : Int) ≤ n.fst ∧ to1.length = k1 ∧ TosOk p2 n.fst 0 to1) (fun k1 u1 to1 => n.fst.toNat - k1) 0 _ [] ⟨by omega, rfl, TosOk.nil _ _⟩ (saQ rfl) (pfQ rfl) ?_
  intro k1 u1 to1 hi21
  obtain ⟨hk1, htl1, hto1⟩ := hi21
  refine zac (zac (reQ 2 rfl ?_))
  refine zbh rfl rfl rfl rfl rfl rfl (fun h22 => ?_) (fun h22 => ?_)
  ·
   refine ntQ (zao rfl (zcp (sbQ (reQ 2 rfl ?_))))
   refine zdu rfl (zau (z := .int .i64 0) (s := 1) (cs := ([(k1 : Int)].map (Value.int .i64))) rfl Try.underlying26 rfl (by decide) rfl (by kernel_rfl) rfl) ?_
   intro g23
   refine zcf (i := 2) (z := .int .i64 0) (bytes := 8) rfl rfl rfl rfl Try.underlying26 (by kernel_rfl) rfl rfl rfl rfl (zah 0 rfl) (zbw _) (by first | omega | (simp; done) | (simp; omega)) (zbt to1 ([(k1 : Int)])) (zcn to1 ([(k1 : Int)])) (fun _ => rfl) ?_
   intro v24
   refine enQ 1 rfl (zcv (reQ 1 rfl (hvQ rfl (vaQ rfl rfl rfl) (enQ 1 rfl ?_))))
   exact zbi (k1 + 1) v24 (to1 ++ ([(k1 : Int)])) ⟨by omega, by rw [List.length_append, List.length_singleton]; omega, hto1.app (Nat.le_refl _) (fun _ => by omega)⟩ (by omega) (saQ rfl) (slQ [1, 0, 0, 0, 0, 0, 0, 0] rfl)
  refine ntQ (zaq rfl ?_)
  refine zaz (zdr ?_)
  refine zaf (zax (zac (zbc 1 rfl (zaw ?_))))
  refine zdo [rowE 72 2 (.slice none 0 0) (([] : List Lt).length) (([] : List Lt).flatMap ltC), rowE 3 1 (.slice (some ⟨g20, 0, none⟩) ((List.replicate (n.cnt).toNat (0 : Int)).length) ((List.replicate (n.cnt).toNat (0 : Int)).length)) ((List.replicate (n.cnt).toNat (0 : Int)).length) ((List.replicate (n.cnt).toNat (0 : Int)).map (Value.int .i64)), rowE 3 1 u1 to1.length (to1.map (Value.int .i64)), boxE b18 #[.int .i64 n.ins, .slice none 0 0, .slice none 0 0, .slice none 0 0] 28, rowE 3 1 v6 ((rtsL n n.ss.length).length) ((rtsL n n.ss.length).map (Value.int .i64)), rowE 4 1 (.slice (some ⟨g5, 0, none⟩) ((List.replicate (n.cnt).toNat bl0).length) ((List.replicate (n.cnt).toNat bl0).length)) ng.length (ng.flatMap blC), rowE 4 1 (.slice (some ⟨g4, 0, none⟩) ((List.replicate (n.cnt).toNat bl0).length) ((List.replicate (n.cnt).toNat bl0).length)) p2.length (p2.flatMap blC), boxE b2 #[.int .i64 0, .slice none 0 0, .slice none 0 0, .slice none 0 0] 28, boxE b1 #[.int .i64 n.ins, n.sv, n.av, n.ov] 101] (fun w hm => hm.nilRow 72 2) ?_
  refine zdo [rowE 35 3 (.slice none 0 0) (([] : List Sq).length) (([] : List Sq).flatMap sqC), rowE 72 2 (.slice none 0 0) (([] : List Lt).length) (([] : List Lt).flatMap ltC), rowE 3 1 (.slice (some ⟨g20, 0, none⟩) ((List.replicate (n.cnt).toNat (0 : Int)).length) ((List.replicate (n.cnt).toNat (0 : Int)).length)) ((List.replicate (n.cnt).toNat (0 : Int)).length) ((List.replicate (n.cnt).toNat (0 : Int)).map (Value.int .i64)), rowE 3 1 u1 to1.length (to1.map (Value.int .i64)), boxE b18 #[.int .i64 n.ins, .slice none 0 0, .slice none 0 0, .slice none 0 0] 28, rowE 3 1 v6 ((rtsL n n.ss.length).length) ((rtsL n n.ss.length).map (Value.int .i64)), rowE 4 1 (.slice (some ⟨g5, 0, none⟩) ((List.replicate (n.cnt).toNat bl0).length) ((List.replicate (n.cnt).toNat bl0).length)) ng.length (ng.flatMap blC), rowE 4 1 (.slice (some ⟨g4, 0, none⟩) ((List.replicate (n.cnt).toNat bl0).length) ((List.replicate (n.cnt).toNat bl0).length)) p2.length (p2.flatMap blC), boxE b2 #[.int .i64 0, .slice none 0 0, .slice none 0 0, .slice none 0 0] 28, boxE b1 #[.int .i64 n.ins, n.sv, n.av, n.ov] 101] (fun w hm => hm.nilRow 35 3) ?_
  refine zdo _ zfx ?_
  refine lkQ4 (α := Nat) (β := List Int) (γ := List Lt) (δ := (Value × Value) × List HP) [0, 1, 2, 4, 5, 6, 7, 8, 9, 10, 14, 16, 27, 42, 69, 114] rfl (fun j2 to2 ls zt9 => [bigE zt9.2, rowE 35 3 (.slice none 0 0) (([] : List Sq).length) (([] : List Sq).flatMap sqC), rowE 72 2 zt9.1.2 ls.length (ls.flatMap ltC), rowE 3 1 (.slice (some ⟨g20, 0, none⟩) ((List.replicate (n.cnt).toNat (0 : Int)).length) ((List.replicate (n.cnt).toNat (0 : Int)).length)) ((List.replicate (n.cnt).toNat (0 : Int)).length) ((List.replicate (n.cnt).toNat (0 : Int)).map (Value.int .i64)), rowE 3 1 zt9.1.1 to2.length (to2.map (Value.int .i64)), boxE b18 #[.int .i64 n.ins, .slice none 0 0, zt9.1.2, .slice none 0 0] 28, rowE 4 1 (.slice (some ⟨g5, 0, none⟩) ((List.replicate (n.cnt).toNat bl0).length) ((List.replicate (n.cnt).toNat bl0).length)) ng.length (ng.flatMap blC), rowE 4 1 (.slice (some ⟨g4, 0, none⟩) ((List.replicate (n.cnt).toNat bl0).length) ((List.replicate (n.cnt).toNat bl0).length)) p2.length (p2.flatMap blC), boxE b2 #[.int .i64 0, .slice none 0 0, .slice none 0 0, .slice none 0 0] 28, boxE b1 #[.int .i64 n.ins, n.sv, n.av, n.ov] 101]) (fun j2 to2 ls zt9 => [(15, zt9.1.1), (18, .int .i64 (j2 : Int))]) (fun j2 to2 ls zt9 => j2 ≤ rs.length ∧ (to2.length : Int) = n.fst + (j2 : Int) ∧ ls.length ≤ j2 ∧ LutsOk n.fst ls ∧ TosOk p2 n.fst ls.length to2 ∧ ∀ w, (bigE zt9.2).holds w → RdsLuts w ls) (fun j2 to2 ls zt9 => rs.length - j2) 0 _ [] ((_, _), []) ⟨Nat.zero_le _, by omega, Nat.le_refl _, LutsOk.nil _, hto1, fun w _ => RdsLuts.nil w⟩ (saQ rfl) (slQ [0, 0, 0, 0, 0, 0, 1, 0, 0, 0] rfl) ?_
  intro j2 to2 ls zt9 hi25
  obtain ⟨hj2, htl2, hll, hlo, hto2, hbs⟩ := hi25
  refine zac (zac (reQ 2 rfl (hvQ rfl (lnQ rfl rfl rfl (zaa hv.row)) ?_)))
  refine zbh rfl rfl rfl rfl rfl rfl (fun h26 => ?_) (fun h26 => ?_)
  ·
   refine ntQ (zao rfl (zcp (sbQ (zac (reQ 2 rfl (hvQ rfl (fdQ 2 rfl rfl rfl) (hvQ rfl (zag rfl rfl rfl (zad 5 rfl rfl)) (hvQ rfl (lnQ rfl rfl rfl (zah 2 rfl)) ?_))))))))
   refine hvQ rfl (vaQ rfl rfl rfl) (zdu rfl (zau (z := .int .i64 0) (s := 1) (cs := ([n.fst + (ls.length : Int)].map (Value.int .i64))) rfl Try.underlying26 rfl (by decide) rfl (by kernel_rfl) rfl) ?_)
   intro g27
   refine zcf (i := 5) (z := .int .i64 0) (bytes := 8) rfl rfl rfl rfl Try.underlying26 (by kernel_rfl) rfl rfl rfl rfl (zah 0 rfl) (zbw _) (by first | omega | (simp; done) | (simp; omega)) (zbt to2 ([n.fst + (ls.length : Int)])) (zcn to2 ([n.fst + (ls.length : Int)])) (fun _ => rfl) ?_
   intro v28
   refine zbb 1 rfl (srQ ?_)
   have hcp := (hmp.cut j2 (by omega)).1
   have hcl4 := hcp.len
   have hbl9 : ∀ k, k < (rs.getD j2 crow0).xs.length → 0 ≤ (rs.getD j2 crow0).xs.getD k 0 ∧ (rs.getD j2 crow0).xs.getD k 0 < to2.length := fun k hk => by have := hmp.below hn (i := j2) (by omega) hk; omega
   refine zan 3 rfl (hvQ rfl (vaQ rfl rfl rfl) (hvQ rfl (riQ 1 rfl rfl rfl rfl (zah 8 rfl)) ?_))
   refine hvQ rfl (zat (u := .bool ((p2.getD ((n.fst + (j2 : Int)).toNat) bl0).b)) rfl rfl rfl (zah 8 rfl) (zbn blC (fun r => .bool r.b) (fun _ => rfl) p2 bl0 (show (n.fst + (j2 : Int)).toNat < _ by omega))) (zbl (fun h29 => ?_) (fun h29 => ?_))
   ·
    refine ntQ (zao rfl (zac ?_))
    have huse := hus2 j2 (by omega) (by omega) (.inl (by assumption))
    refine zdq rfl 10 [0, 1, 2, 3, 4, 5, 6, 7, 8, 9] (List.take 10 _) (List.drop 10 _) [[], [], [], [1, 2], [], [], [4, 5], [6], [0, 3, 7], []] [141, 142, 143, 144, 145, 146, 147, 148, 149, 19] (fun i_ vs_ v_ p_ => match i_ with | 0 => v_ = .agg #[.int .i64 n.ins, n.sv, n.av, n.ov] ∧ p_ = [] | 1 => v_ = .int .i64 n.fst ∧ p_ = [] | 2 => v_ = .int .i64 (j2 : Int) ∧ p_ = [] | 3 => v_ = .int .i64 (n.fst + (j2 : Int)) ∧ p_ = [] | 4 => v_ = v ∧ p_ = [] | 5 => v_ = .int .i64 (j2 : Int) ∧ p_ = [] | 6 => v_ = elP v (((j2 : Int)).toNat * 1) ∧ p_ = [] | 7 => v_ = (rs.getD j2 crow0).v ∧ p_ = [] | 8 => (fun u_ p_ => ∃ b : Int, u_ = .agg #[.int .i64 (((rs.getD j2 crow0).xs).length : Int), .int .i64 b] ∧ p_ = [] ∧ TabOk (Tab.mk (((rs.getD j2 crow0).xs).length : Int) b)) v_ p_ | 9 => IsBox #[.int .i64 0, .int .i64 0] 75 v_ p_ | _ => True) (List.take_append_drop 10 _).symm (by kernel_rfl) (by kernel_rfl) rfl rfl ?_ ?_
    ·
     refine ⟨?_, ?_, ?_, ?_, ?_, ?_, ?_, ?_, ?_, ?_, trivial⟩
     ·
      intro vf pf hR
      exact olQ rfl (zai [2] rfl) (zbd (zar (cs := [.int .i64 n.ins, n.sv, n.av, n.ov]) rfl rfl rfl rfl rfl (zam 10 rfl 0 rfl)))
     ·
      intro vf pf hR
      exact ovQ rfl (zai [7] rfl) (zbd (zaj rfl))
     ·
      intro vf pf hR
      exact ovQ rfl (zai [18] rfl) (zbd (zaj rfl))
     ·
      intro vf pf hR
      have e1 := hR 1 (by decide)
      have e2 := hR 2 (by decide)
      exact ovQ rfl (sk 142 (congrArg some e1.1) (sk 143 (congrArg some e2.1) (zab _))) (zbd (vaQ rfl rfl rfl))
     ·
      intro vf pf hR
      exact ovQ rfl (zai [1] rfl) (zbd (zaj rfl))
     ·
      intro vf pf hR
      exact ovQ rfl (zai [18] rfl) (zbd (zaj rfl))
     ·
      intro vf pf hR
      have e4 := hR 4 (by decide)
      have e5 := hR 5 (by decide)
      exact olQ rfl (sk 145 (congrArg some e4.1) (sk 146 (congrArg some e5.1) (zab _))) (zbd (riQ 1 rfl rfl rfl rfl (zaa hv.row)))
     ·
      intro vf pf hR
      have e6 := hR 6 (by decide)
      exact olQ rfl (sk 147 (congrArg some e6.1) (zab _)) (zbd (zat (u := (rs.getD j2 crow0).v) rfl rfl rfl (zaa hv.row) (zbn crowC (fun r => r.v) (fun _ => rfl) rs crow0 (show j2 < _ by omega))))
     ·
      intro vf pf hR
      have e0 := hR 0 (by decide)
      have e3 := hR 3 (by decide)
      have e7 := hR 7 (by decide)
      exact olQ rfl (sk 141 (congrArg some e0.1) (sk 144 (congrArg some e3.1) (sk 148 (congrArg some e7.1) (zab _)))) (zal rfl rfl (fun w hm => CutTableE_ret n (n.fst + (j2 : Int)) ((rs.getD j2 crow0).xs) _ w (hr.below hm.bel) hn ((zaa (hv.at (k := j2) (by omega))) w hm) (by omega) hcp))
     intro vf pf hR
     exact olQ rfl (zab _) (zbm (z := .agg #[.int .i64 0, .int .i64 0]) rfl rfl)
    intro vf pf hR
    have e8 : (fun u_ p_ => ∃ b : Int, u_ = .agg #[.int .i64 (((rs.getD j2 crow0).xs).length : Int), .int .i64 b] ∧ p_ = [] ∧ TabOk (Tab.mk (((rs.getD j2 crow0).xs).length : Int) b)) (vf 8) (pf 8) := hR 8 (by decide)
    obtain ⟨v30, vE8⟩ : ∃ x, vf 8 = x := ⟨_, rfl⟩
    obtain ⟨p31, pE8⟩ : ∃ x, pf 8 = x := ⟨_, rfl⟩
    have hR32 := e8
    rw [vE8, pE8] at hR32
    obtain ⟨bq, rfl, rfl, hbq⟩ := hR32
    have e9 : IsBox #[.int .i64 0, .int .i64 0] 75 (vf 9) (pf 9) := hR 9 (by decide)
    obtain ⟨b33, vE9, pE9⟩ := e9
    have q0 := hR 0 (by decide)
    have q1 := hR 1 (by decide)
    have q2 := hR 2 (by decide)
    have q3 := hR 3 (by decide)
    have q4 := hR 4 (by decide)
    have q5 := hR 5 (by decide)
    have q6 := hR 6 (by decide)
    have q7 := hR 7 (by decide)
    refine zce (zbe [18, 16, 15, 14, 10, 9, 8, 7, 6, 5, 4, 2, 1, 0] _ (sk 19 (congrArg some vE9) (zbe [140, 124, 114, 69, 42, 27] _ (sk 149 (congrArg some vE8) (zab _)) rfl)) rfl) (by simp only [pE8, vE8, pE9, vE9, q0.2, q1.2, q2.2, q3.2, q4.2, q5.2, q6.2, q7.2, fS] <;> rfl) ?_
    simp only [List.drop_succ_cons, List.drop_zero]
    refine zbr (cs' := #[.int .i64 (((rs.getD j2 crow0).xs).length : Int), .int .i64 bq]) (i := 0) (off := 0) (us := [.int .i64 (((rs.getD j2 crow0).xs).length : Int), .int .i64 bq]) rfl rfl rfl rfl rfl rfl rfl (zae rfl (zae rfl zbj)) rfl rfl rfl (ntQ ?_)
    refine zdq rfl 12 [0, 1, 2, 3, 4, 5, 6, 7, 8, 9, 10, 11] (List.take 12 _) (List.drop 12 _) [[], [0], [], [], [], [3, 4], [5], [2, 6], [], [8], [7, 9], [7, 10]] [150, 151, 152, 153, 154, 155, 156, 157, 158, 159, 160, 161] (fun i_ vs_ v_ p_ => match i_ with | 0 => v_ = .pointer (some ⟨b18, 0 + 2, none⟩) ∧ p_ = [] | 1 => v_ = zt9.1.2 ∧ p_ = [] | 2 => v_ = v28 ∧ p_ = [] | 3 => v_ = v ∧ p_ = [] | 4 => v_ = .int .i64 (j2 : Int) ∧ p_ = [] | 5 => v_ = elP v (((j2 : Int)).toNat * 1) ∧ p_ = [] | 6 => v_ = (rs.getD j2 crow0).v ∧ p_ = [] | 7 => (fun v' post => post = [rowE 3 1 v' ((ndL (to2 ++ ([n.fst + (ls.length : Int)])) ((rs.getD j2 crow0).xs))).length (((ndL (to2 ++ ([n.fst + (ls.length : Int)])) ((rs.getD j2 crow0).xs))).map (Value.int .i64))]) v_ p_ | 8 => v_ = .pointer (some ⟨b33, 0 + 1, none⟩) ∧ p_ = [] | 9 => v_ = .int .i64 bq ∧ p_ = [] | 10 => v_ = .agg #[(List.getD vs_ 0 undef), .int .i64 bq] ∧ p_ = [] | 11 => IsRow 72 2 1 ([(List.getD vs_ 0 undef), .int .i64 bq]) v_ p_ | _ => True) (List.take_append_drop 12 _).symm (by kernel_rfl) (by kernel_rfl) rfl rfl ?_ ?_
    ·
     refine ⟨?_, ?_, ?_, ?_, ?_, ?_, ?_, ?_, ?_, ?_, ?_, ?_, trivial⟩
     ·
      intro vf pf hR
      exact ovQ rfl (zai [14] rfl) (zbd (fdQ 2 rfl rfl rfl))
     ·
      intro vf pf hR
      have e0 := hR 0 (by decide)
      exact olQ rfl (sk 150 (congrArg some e0.1) (zab _)) (zbd (zag rfl rfl rfl (zad 7 rfl rfl)))
     ·
      intro vf pf hR
      exact ovQ rfl (zai [15] rfl) (zbd (zaj rfl))
     ·
      intro vf pf hR
      exact ovQ rfl (zai [1] rfl) (zbd (zaj rfl))
     ·
      intro vf pf hR
      exact ovQ rfl (zai [18] rfl) (zbd (zaj rfl))
     ·
      intro vf pf hR
      have e3 := hR 3 (by decide)
      have e4 := hR 4 (by decide)
      exact olQ rfl (sk 153 (congrArg some e3.1) (sk 154 (congrArg some e4.1) (zab _))) (zbd (riQ 1 rfl rfl rfl rfl (zaa hv.row)))
     ·
      intro vf pf hR
      have e5 := hR 5 (by decide)
      exact olQ rfl (sk 155 (congrArg some e5.1) (zab _)) (zbd (zat (u := (rs.getD j2 crow0).v) rfl rfl rfl (zaa hv.row) (zbn crowC (fun r => r.v) (fun _ => rfl) rs crow0 (show j2 < _ by omega))))
     ·
      intro vf pf hR
      have e2 := hR 2 (by decide)
      have e6 := hR 6 (by decide)
      exact olQ rfl (sk 152 (congrArg some e2.1) (sk 156 (congrArg some e6.1) (zab _))) (zal rfl rfl (fun w hm => l20Nodes_ret (to2 ++ ([n.fst + (ls.length : Int)])) ((rs.getD j2 crow0).xs) _ _ w ((zah 6 rfl) w hm) ((zaa (hv.at (k := j2) (by omega))) w hm) (fun k hk => by have := hbl9 k hk; rw [List.length_append]; omega) (by omega)))
     ·
      intro vf pf hR
      exact ovQ rfl (zai [19] rfl) (zbd (fdQ 1 rfl rfl rfl))
     ·
      intro vf pf hR
      have e8 := hR 8 (by decide)
      exact olQ rfl (sk 158 (congrArg some e8.1) (zab _)) (zbd (zag rfl rfl rfl (zad 0 rfl rfl)))
     ·
      intro vf pf hR
      have e7 : (fun v' post => post = [rowE 3 1 v' ((ndL (to2 ++ ([n.fst + (ls.length : Int)])) ((rs.getD j2 crow0).xs))).length (((ndL (to2 ++ ([n.fst + (ls.length : Int)])) ((rs.getD j2 crow0).xs))).map (Value.int .i64))]) (vf 7) (pf 7) := hR 7 (by decide)
      obtain ⟨v34, vE7⟩ : ∃ x, vf 7 = x := ⟨_, rfl⟩
      obtain ⟨p35, pE7⟩ : ∃ x, pf 7 = x := ⟨_, rfl⟩
      have hR36 := e7
      rw [vE7, pE7] at hR36
      subst hR36
      have e9 := hR 9 (by decide)
      refine Or.inl ⟨rfl, ?_⟩
      exact zcc (sk 157 (congrArg some vE7) (sk 159 (congrArg some e9.1) (zab _))) (by simp only [pE7, vE7, e9.2, fS] <;> rfl) (zco (zbd (zfj (cs := #[v34, .int .i64 bq]) rfl rfl (fun w hm => built_lutT v34 bq ((zah 0 rfl w hm).one)))) (fun _ _ h => ⟨h.1.trans (by show _ = (.agg #[(vf 7), .int .i64 bq] : Value); first | (rw [vE7]; done) | (rw [vE7]; rfl)), h.2⟩))
     intro vf pf hR
     have e7 : (fun v' post => post = [rowE 3 1 v' ((ndL (to2 ++ ([n.fst + (ls.length : Int)])) ((rs.getD j2 crow0).xs))).length (((ndL (to2 ++ ([n.fst + (ls.length : Int)])) ((rs.getD j2 crow0).xs))).map (Value.int .i64))]) (vf 7) (pf 7) := hR 7 (by decide)
     obtain ⟨v34, vE7⟩ : ∃ x, vf 7 = x := ⟨_, rfl⟩
     obtain ⟨p35, pE7⟩ : ∃ x, pf 7 = x := ⟨_, rfl⟩
     have hR36 := e7
     rw [vE7, pE7] at hR36
     subst hR36
     have e10 : (vf 10) = .agg #[(vf 7), .int .i64 bq] ∧ (pf 10) = [] := hR 10 (by decide)
     rw [vE7] at e10
     refine Or.inl ⟨rfl, ?_⟩
     exact zcc (sk 160 (congrArg some e10.1) (zab _)) (by simp only [pE7, vE7, e10.2, fS] <;> rfl) (zco (zau (z := .agg #[.slice none 0 0, .int .i64 0]) (s := 2) (cs := [v34, .int .i64 bq]) rfl Try.underlying25 rfl (by decide) rfl (by kernel_rfl) rfl) (fun v_ p_ h => by show IsRow 72 2 1 ([(vf 7), .int .i64 bq]) v_ p_; rw [vE7]; exact h))
    intro vf pf hR
    have e1 := hR 1 (by decide)
    have e7 : (fun v' post => post = [rowE 3 1 v' ((ndL (to2 ++ ([n.fst + (ls.length : Int)])) ((rs.getD j2 crow0).xs))).length (((ndL (to2 ++ ([n.fst + (ls.length : Int)])) ((rs.getD j2 crow0).xs))).map (Value.int .i64))]) (vf 7) (pf 7) := hR 7 (by decide)
    obtain ⟨v34, vE7⟩ : ∃ x, vf 7 = x := ⟨_, rfl⟩
    obtain ⟨p35, pE7⟩ : ∃ x, pf 7 = x := ⟨_, rfl⟩
    have hR36 := e7
    rw [vE7, pE7] at hR36
    subst hR36
    have e11 : IsRow 72 2 1 ([(vf 7), .int .i64 bq]) (vf 11) (pf 11) := hR 11 (by decide)
    rw [vE7] at e11
    obtain ⟨g37, vE11, pE11⟩ := e11
    have q0 := hR 0 (by decide)
    have q1 := hR 1 (by decide)
    have q2 := hR 2 (by decide)
    have q3 := hR 3 (by decide)
    have q4 := hR 4 (by decide)
    have q5 := hR 5 (by decide)
    have q6 := hR 6 (by decide)
    have q8 := hR 8 (by decide)
    have q9 := hR 9 (by decide)
    have q10 := hR 10 (by decide)
    refine zce (zbe [140, 124, 114, 69, 42, 27, 19, 18, 16, 15, 14, 10, 9, 8, 7, 6, 5, 4, 2, 1, 0] _ (sk 151 (congrArg some e1.1) (sk 161 (congrArg some vE11) (zab _))) rfl) (by simp only [pE7, vE7, pE11, vE11, q0.2, q1.2, q2.2, q3.2, q4.2, q5.2, q6.2, q8.2, q9.2, q10.2, fS] <;> rfl) ?_
    simp only [List.drop_succ_cons, List.drop_zero]
    refine zcr (i := 0) rfl (fun ho38 => ?_)
    refine zcf (i := 6) (z := .agg #[.slice none 0 0, .int .i64 0]) (bytes := 32) rfl rfl rfl rfl Try.underlying25 (by kernel_rfl) rfl rfl rfl rfl (zah 1 rfl) (zae ho38 (zae rfl zbj)) (by first | omega | (simp only [List.length_append, List.length_cons, List.length_nil]; omega)) (zbt ls [(Lt.mk v34 (ndL (to2 ++ ([n.fst + (ls.length : Int)])) ((rs.getD j2 crow0).xs)) bq)]) (zcs ltC ls (Lt.mk v34 (ndL (to2 ++ ([n.fst + (ls.length : Int)])) ((rs.getD j2 crow0).xs)) bq) _ rfl) (fun _ => rfl) ?_
    intro v39
    refine hvQ rfl (fdQ 2 rfl rfl rfl) (zcr (i := 6) rfl (fun ho40 => ?_))
    refine zed (i := 9) (cs' := #[.int .i64 n.ins, .slice none 0 0, v39, .slice none 0 0]) rfl rfl rfl rfl rfl rfl ho40 rfl rfl rfl rfl (zcb (zcv (reQ 1 rfl (hvQ rfl (vaQ rfl rfl rfl) (enQ 1 rfl ?_)))))
    refine zbo 14 [13, 12, 11, 10, 9, 8, 7, 6, 5, 0, 4] rfl rfl (by decide) ?_
    refine zcx 2 rfl ?_
    exact zca (j2 + 1) (to2 ++ ([n.fst + (ls.length : Int)])) (ls ++ [(Lt.mk v34 (ndL (to2 ++ ([n.fst + (ls.length : Int)])) ((rs.getD j2 crow0).xs)) bq)]) ((v28, v39), [bigE zt9.2, rowE 3 1 v34 ((ndL (to2 ++ ([n.fst + (ls.length : Int)])) ((rs.getD j2 crow0).xs)).length) ((ndL (to2 ++ ([n.fst + (ls.length : Int)])) ((rs.getD j2 crow0).xs)).map (Value.int .i64))]) ⟨by omega, by rw [List.length_append, List.length_singleton]; omega, by rw [List.length_append, List.length_singleton]; omega, hlo.app (lutP_mk hbq (by show (_ : Int) = _; rw [ndL_len]) (by rw [ndL_len]; exact hcp.len) (by rw [ndL_app hbl9]; exact below_nd hto2 hbl9 huse)), (by rw [List.length_append, List.length_singleton]; exact hto2.app (Nat.le_succ _) (fun _ => by omega)), fun w hw => (hbs w (zba hw List.mem_cons_self)).app (zbp (zba hw (List.mem_cons_of_mem _ List.mem_cons_self)))⟩ (by omega) (saQ rfl) (pfQ rfl)
   refine ntQ (fsQ rfl (zcv (reQ 1 rfl (hvQ rfl (vaQ rfl rfl rfl) (enQ 1 rfl ?_)))))
   exact zca (j2 + 1) (to2 ++ ([n.fst + (ls.length : Int)])) ls ((v28, zt9.1.2), zt9.2) ⟨by omega, by rw [List.length_append, List.length_singleton]; omega, by omega, hlo, hto2.app (Nat.le_refl _) (fun h9 => by rcases h9 with h9 | h9; (omega); (unfold On at h9; rw [show ((to2.length : Int)) = n.fst + (j2 : Int) by omega] at h9; rw [show (p2.getD (n.fst + (j2 : Int)).toNat bl0).b = false by assumption] at h9; cases h9)), hbs⟩ (by omega) (saQ rfl) (slQ [1, 0, 0, 0, 0, 0, 0, 0, 0, 0] rfl)
  refine ntQ (zaq rfl ?_)
  refine zaz (zdr ?_)
  refine zaf (zax (zac (zbc 1 rfl (zaw ?_))))
  refine lkQ4 (α := Nat) (β := List Int) (γ := List Lt) (δ := Value × List HP) [0, 1, 2, 4, 5, 6, 7, 8, 9, 10, 14, 15, 16, 27, 42, 69, 114, 124] rfl (fun k3 nos ls2 yt9 => [bigE yt9.2, rowE 35 3 (.slice none 0 0) (([] : List Sq).length) (([] : List Sq).flatMap sqC), rowE 72 2 yt9.1 ls2.length (ls2.flatMap ltC), rowE 3 1 (.slice (some ⟨g20, 0, none⟩) ((List.replicate (n.cnt).toNat (0 : Int)).length) ((List.replicate (n.cnt).toNat (0 : Int)).length)) nos.length (nos.map (Value.int .i64)), rowE 3 1 zt9.1.1 to2.length (to2.map (Value.int .i64)), boxE b18 #[.int .i64 n.ins, .slice none 0 0, yt9.1, .slice none 0 0] 28, rowE 4 1 (.slice (some ⟨g5, 0, none⟩) ((List.replicate (n.cnt).toNat bl0).length) ((List.replicate (n.cnt).toNat bl0).length)) ng.length (ng.flatMap blC), rowE 4 1 (.slice (some ⟨g4, 0, none⟩) ((List.replicate (n.cnt).toNat bl0).length) ((List.replicate (n.cnt).toNat bl0).length)) p2.length (p2.flatMap blC), boxE b2 #[.int .i64 0, .slice none 0 0, .slice none 0 0, .slice none 0 0] 28, boxE b1 #[.int .i64 n.ins, n.sv, n.av, n.ov] 101]) (fun k3 nos ls2 yt9 => [(20, .int .i64 (k3 : Int))]) (fun k3 nos ls2 yt9 => (k3 : Int) ≤ n.cnt ∧ nos.length = n.cnt.toNat ∧ ls2.length ≤ rs.length + k3 ∧ LutsOk n.fst ls2 ∧ TosOk p2 n.fst ls2.length to2 ∧ NosOk ng n.fst ls2.length k3 nos ∧ ∀ w, (bigE yt9.2).holds w → RdsLuts w ls2) (fun k3 nos ls2 yt9 => n.cnt.toNat - k3) 0 _ _ (_, _) ⟨by omega, by rw [List.length_replicate], by omega, hlo, hto2, fun j hj => absurd hj (Nat.not_lt_zero _), hbs⟩ (saQ rfl) (pfQ rfl) ?_
  intro k3 nos ls2 yt9 hi41
  obtain ⟨hk3, hnol, hll2, hlo2, hto3, hno, hbs2⟩ := hi41
  refine zac (zac (reQ 2 rfl ?_))
  refine zbh rfl rfl rfl rfl rfl rfl (fun h42 => ?_) (fun h42 => ?_)
  ·
   refine ntQ (zao rfl (zcp (sbQ (zac (zac (reQ 2 rfl (hvQ rfl (riQ 1 rfl rfl rfl rfl (zah 6 rfl)) ?_)))))))
   refine hvQ rfl (zat (u := .bool ((ng.getD k3 bl0).b)) rfl rfl rfl (zah 6 rfl) (zbn blC (fun r => .bool r.b) (fun _ => rfl) ng bl0 (show k3 < _ by omega))) (zbl (fun h43 => ?_) (fun h43 => ?_))
   ·
    refine zbb 1 rfl (zaq rfl (zcp (zac (reQ 3 rfl (hvQ rfl (fdQ 2 rfl rfl rfl) (hvQ rfl (zag rfl rfl rfl (zad 5 rfl rfl)) (hvQ rfl (lnQ rfl rfl rfl (zah 2 rfl)) (hvQ rfl (vaQ rfl rfl rfl) ?_))))))))
    refine hvQ rfl (riQ 1 rfl rfl rfl rfl (zah 3 rfl)) (zcw (i := 3) (n' := (nos.set k3 (n.fst + (ls2.length : Int))).length) (xs' := ((nos.set k3 (n.fst + (ls2.length : Int))).map (Value.int .i64))) rfl rfl rfl rfl rfl rfl rfl rfl (by first | omega | (simp only [List.length_set]; omega)) List.length_set.symm (zdb _ _ _) rfl ?_)
    refine ntQ (srQ (hvQ rfl (zda (cs := #[.slice none 0 0, .int .i64 1]) rfl rfl rfl) ?_))
    refine zdt rfl (zbm (z := .agg #[.slice none 0 0, .int .i64 0]) rfl rfl) ?_
    intro b44
    refine zbr (cs' := #[.slice none 0 0, .int .i64 1]) (i := 0) (off := 0) (us := [.slice none 0 0, .int .i64 1]) rfl rfl rfl rfl rfl rfl rfl (zae rfl (zae rfl zbj)) rfl rfl rfl (ntQ (zac (zac (reQ 2 rfl ?_))))
    refine zfh rfl rfl rfl rfl rfl rfl (fun h45 => ?_) (fun h45 => ?_)
    ·
     refine ntQ (zao rfl (zac ?_))
     have hcp : CutP n (k3 : Int) (rs.getD (((k3 : Int) - n.fst).toNat) crow0).xs := by have h9 := (hmp.cut (((k3 : Int) - n.fst).toNat) (by omega)).1; rwa [show n.fst + ((((k3 : Int) - n.fst).toNat) : Int) = (k3 : Int) by omega] at h9
     have hcl4 := hcp.len
     have hbl9 : ∀ k, k < (rs.getD (((k3 : Int) - n.fst).toNat) crow0).xs.length → 0 ≤ (rs.getD (((k3 : Int) - n.fst).toNat) crow0).xs.getD k 0 ∧ (rs.getD (((k3 : Int) - n.fst).toNat) crow0).xs.getD k 0 < to2.length := fun k hk => by have := hmp.below hn (i := (((k3 : Int) - n.fst).toNat)) (by omega) hk; omega
     have huse := hus2 (((k3 : Int) - n.fst).toNat) (by omega) (by omega) (.inr (by rw [show n.fst + ((((k3 : Int) - n.fst).toNat) : Int) = (k3 : Int) by omega]; unfold On; rw [Int.toNat_natCast]; assumption))
     refine zdq rfl 11 [0, 1, 2, 3, 4, 5, 6, 7, 8, 9, 10] (List.take 11 _) (List.drop 11 _) [[], [], [], [], [], [3, 4], [2, 5], [6], [0, 1, 7], [8], []] [186, 187, 188, 189, 190, 191, 192, 193, 194, 195, 22] (fun i_ vs_ v_ p_ => match i_ with | 0 => v_ = .agg #[.int .i64 n.ins, n.sv, n.av, n.ov] ∧ p_ = [] | 1 => v_ = .int .i64 (k3 : Int) ∧ p_ = [] | 2 => v_ = v ∧ p_ = [] | 3 => v_ = .int .i64 (k3 : Int) ∧ p_ = [] | 4 => v_ = .int .i64 n.fst ∧ p_ = [] | 5 => v_ = .int .i64 ((k3 : Int) - n.fst) ∧ p_ = [] | 6 => v_ = elP v (((k3 : Int) - n.fst).toNat * 1) ∧ p_ = [] | 7 => v_ = (rs.getD (((k3 : Int) - n.fst).toNat) crow0).v ∧ p_ = [] | 8 => (fun u_ p_ => ∃ b : Int, u_ = .agg #[.int .i64 (((rs.getD (((k3 : Int) - n.fst).toNat) crow0).xs).length : Int), .int .i64 b] ∧ p_ = [] ∧ TabOk (Tab.mk (((rs.getD (((k3 : Int) - n.fst).toNat) crow0).xs).length : Int) b)) v_ p_ | 9 => (fun u_ p_ => p_ = [] ∧ ∃ t : Tab, TabOk t ∧ t.N = (((rs.getD (((k3 : Int) - n.fst).toNat) crow0).xs).length : Int) ∧ u_ = .agg #[.int .i64 t.N, .int .i64 t.B]) v_ p_ | 10 => IsBox #[.int .i64 0, .int .i64 0] 75 v_ p_ | _ => True) (List.take_append_drop 11 _).symm (by kernel_rfl) (by kernel_rfl) rfl rfl ?_ ?_
     ·
      refine ⟨?_, ?_, ?_, ?_, ?_, ?_, ?_, ?_, ?_, ?_, ?_, trivial⟩
      ·
       intro vf pf hR
       exact olQ rfl (zai [2] rfl) (zbd (zar (cs := [.int .i64 n.ins, n.sv, n.av, n.ov]) rfl rfl rfl rfl rfl (zam 10 rfl 0 rfl)))
      ·
       intro vf pf hR
       exact ovQ rfl (zai [20] rfl) (zbd (zaj rfl))
      ·
       intro vf pf hR
       exact ovQ rfl (zai [1] rfl) (zbd (zaj rfl))
      ·
       intro vf pf hR
       exact ovQ rfl (zai [20] rfl) (zbd (zaj rfl))
      ·
       intro vf pf hR
       exact ovQ rfl (zai [7] rfl) (zbd (zaj rfl))
      ·
       intro vf pf hR
       have e3 := hR 3 (by decide)
       have e4 := hR 4 (by decide)
       exact ovQ rfl (sk 189 (congrArg some e3.1) (sk 190 (congrArg some e4.1) (zab _))) (zbd (vsQ rfl rfl rfl))
      ·
       intro vf pf hR
       have e2 := hR 2 (by decide)
       have e5 := hR 5 (by decide)
       exact olQ rfl (sk 188 (congrArg some e2.1) (sk 191 (congrArg some e5.1) (zab _))) (zbd (riQ 1 rfl rfl rfl rfl (zaa hv.row)))
      ·
       intro vf pf hR
       have e6 := hR 6 (by decide)
       exact olQ rfl (sk 192 (congrArg some e6.1) (zab _)) (zbd (zat (u := (rs.getD (((k3 : Int) - n.fst).toNat) crow0).v) rfl rfl rfl (zaa hv.row) (zbn crowC (fun r => r.v) (fun _ => rfl) rs crow0 (show ((k3 : Int) - n.fst).toNat < _ by omega))))
      ·
       intro vf pf hR
       have e0 := hR 0 (by decide)
       have e1 := hR 1 (by decide)
       have e7 := hR 7 (by decide)
       exact olQ rfl (sk 186 (congrArg some e0.1) (sk 187 (congrArg some e1.1) (sk 193 (congrArg some e7.1) (zab _)))) (zal rfl rfl (fun w hm => CutTableE_ret n (k3 : Int) ((rs.getD (((k3 : Int) - n.fst).toNat) crow0).xs) _ w (hr.below hm.bel) hn ((zaa (hv.at (k := (((k3 : Int) - n.fst).toNat)) (by omega))) w hm) (by omega) hcp))
      ·
       intro vf pf hR
       have e8 : (fun u_ p_ => ∃ b : Int, u_ = .agg #[.int .i64 (((rs.getD (((k3 : Int) - n.fst).toNat) crow0).xs).length : Int), .int .i64 b] ∧ p_ = [] ∧ TabOk (Tab.mk (((rs.getD (((k3 : Int) - n.fst).toNat) crow0).xs).length : Int) b)) (vf 8) (pf 8) := hR 8 (by decide)
       obtain ⟨v46, vE8⟩ : ∃ x, vf 8 = x := ⟨_, rfl⟩
       obtain ⟨p47, pE8⟩ : ∃ x, pf 8 = x := ⟨_, rfl⟩
       have hR48 := e8
       rw [vE8, pE8] at hR48
       obtain ⟨bq, rfl, rfl, hbq⟩ := hR48
       exact olQ rfl (sk 194 (congrArg some vE8) (zab _)) (zal rfl rfl (fun w hm => TableNot_ret (((rs.getD (((k3 : Int) - n.fst).toNat) crow0).xs).length : Int) bq w hbq.1 hbq.2))
      intro vf pf hR
      exact olQ rfl (zab _) (zbm (z := .agg #[.int .i64 0, .int .i64 0]) rfl rfl)
     intro vf pf hR
     have e8 : (fun u_ p_ => ∃ b : Int, u_ = .agg #[.int .i64 (((rs.getD (((k3 : Int) - n.fst).toNat) crow0).xs).length : Int), .int .i64 b] ∧ p_ = [] ∧ TabOk (Tab.mk (((rs.getD (((k3 : Int) - n.fst).toNat) crow0).xs).length : Int) b)) (vf 8) (pf 8) := hR 8 (by decide)
     obtain ⟨v46, vE8⟩ : ∃ x, vf 8 = x := ⟨_, rfl⟩
     obtain ⟨p47, pE8⟩ : ∃ x, pf 8 = x := ⟨_, rfl⟩
     have hR48 := e8
     rw [vE8, pE8] at hR48
     obtain ⟨bq, rfl, rfl, hbq⟩ := hR48
     have e9 : (fun u_ p_ => p_ = [] ∧ ∃ t : Tab, TabOk t ∧ t.N = (((rs.getD (((k3 : Int) - n.fst).toNat) crow0).xs).length : Int) ∧ u_ = .agg #[.int .i64 t.N, .int .i64 t.B]) (vf 9) (pf 9) := hR 9 (by decide)
     obtain ⟨v49, vE9⟩ : ∃ x, vf 9 = x := ⟨_, rfl⟩
     obtain ⟨p50, pE9⟩ : ∃ x, pf 9 = x := ⟨_, rfl⟩
     have hR51 := e9
     rw [vE9, pE9] at hR51
     obtain ⟨rfl, tq, htq, htn, rfl⟩ := hR51
     have e10 : IsBox #[.int .i64 0, .int .i64 0] 75 (vf 10) (pf 10) := hR 10 (by decide)
     obtain ⟨b52, vE10, pE10⟩ := e10
     have q0 := hR 0 (by decide)
     have q1 := hR 1 (by decide)
     have q2 := hR 2 (by decide)
     have q3 := hR 3 (by decide)
     have q4 := hR 4 (by decide)
     have q5 := hR 5 (by decide)
     have q6 := hR 6 (by decide)
     have q7 := hR 7 (by decide)
     refine zce (zbe [21, 20, 16, 15, 14, 10, 9, 8, 7, 6, 5, 4, 2, 1, 0] _ (sk 22 (congrArg some vE10) (zbe [185, 173, 166, 124, 114, 69, 42, 27] _ (sk 195 (congrArg some vE9) (zab _)) rfl)) rfl) (by simp only [pE8, vE8, pE9, vE9, pE10, vE10, q0.2, q1.2, q2.2, q3.2, q4.2, q5.2, q6.2, q7.2, fS] <;> rfl) ?_
     simp only [List.drop_succ_cons, List.drop_zero]
     refine zbr (cs' := #[.int .i64 tq.N, .int .i64 tq.B]) (i := 0) (off := 0) (us := [.int .i64 tq.N, .int .i64 tq.B]) rfl rfl rfl rfl rfl rfl rfl (zae rfl (zae rfl zbj)) rfl rfl rfl (ntQ ?_)
     refine zdq rfl 11 [0, 1, 2, 3, 4, 5, 6, 7, 8, 9, 10] (List.take 11 _) (List.drop 11 _) [[], [], [], [], [2, 3], [1, 4], [5], [0, 6], [], [8], [7, 9]] [196, 197, 198, 199, 200, 201, 202, 203, 204, 205, 206] (fun i_ vs_ v_ p_ => match i_ with | 0 => v_ = zt9.1.1 ∧ p_ = [] | 1 => v_ = v ∧ p_ = [] | 2 => v_ = .int .i64 (k3 : Int) ∧ p_ = [] | 3 => v_ = .int .i64 n.fst ∧ p_ = [] | 4 => v_ = .int .i64 ((k3 : Int) - n.fst) ∧ p_ = [] | 5 => v_ = elP v (((k3 : Int) - n.fst).toNat * 1) ∧ p_ = [] | 6 => v_ = (rs.getD (((k3 : Int) - n.fst).toNat) crow0).v ∧ p_ = [] | 7 => (fun v' post => post = [rowE 3 1 v' ((ndL to2 ((rs.getD (((k3 : Int) - n.fst).toNat) crow0).xs))).length (((ndL to2 ((rs.getD (((k3 : Int) - n.fst).toNat) crow0).xs))).map (Value.int .i64))]) v_ p_ | 8 => v_ = .pointer (some ⟨b52, 0 + 1, none⟩) ∧ p_ = [] | 9 => v_ = .int .i64 tq.B ∧ p_ = [] | 10 => v_ = .agg #[(List.getD vs_ 0 undef), .int .i64 tq.B] ∧ p_ = [] | _ => True) (List.take_append_drop 11 _).symm (by kernel_rfl) (by kernel_rfl) rfl rfl ?_ ?_
     ·
      refine ⟨?_, ?_, ?_, ?_, ?_, ?_, ?_, ?_, ?_, ?_, ?_, trivial⟩
      ·
       intro vf pf hR
       exact ovQ rfl (zai [15] rfl) (zbd (zaj rfl))
      ·
       intro vf pf hR
       exact ovQ rfl (zai [1] rfl) (zbd (zaj rfl))
      ·
       intro vf pf hR
       exact ovQ rfl (zai [20] rfl) (zbd (zaj rfl))
      ·
       intro vf pf hR
       exact ovQ rfl (zai [7] rfl) (zbd (zaj rfl))
      ·
       intro vf pf hR
       have e2 := hR 2 (by decide)
       have e3 := hR 3 (by decide)
       exact ovQ rfl (sk 198 (congrArg some e2.1) (sk 199 (congrArg some e3.1) (zab _))) (zbd (vsQ rfl rfl rfl))
      ·
       intro vf pf hR
       have e1 := hR 1 (by decide)
       have e4 := hR 4 (by decide)
       exact olQ rfl (sk 197 (congrArg some e1.1) (sk 200 (congrArg some e4.1) (zab _))) (zbd (riQ 1 rfl rfl rfl rfl (zaa hv.row)))
      ·
       intro vf pf hR
       have e5 := hR 5 (by decide)
       exact olQ rfl (sk 201 (congrArg some e5.1) (zab _)) (zbd (zat (u := (rs.getD (((k3 : Int) - n.fst).toNat) crow0).v) rfl rfl rfl (zaa hv.row) (zbn crowC (fun r => r.v) (fun _ => rfl) rs crow0 (show ((k3 : Int) - n.fst).toNat < _ by omega))))
      ·
       intro vf pf hR
       have e0 := hR 0 (by decide)
       have e6 := hR 6 (by decide)
       exact olQ rfl (sk 196 (congrArg some e0.1) (sk 202 (congrArg some e6.1) (zab _))) (zal rfl rfl (fun w hm => l20Nodes_ret to2 ((rs.getD (((k3 : Int) - n.fst).toNat) crow0).xs) _ _ w ((zah 6 rfl) w hm) ((zaa (hv.at (k := (((k3 : Int) - n.fst).toNat)) (by omega))) w hm) hbl9 (by omega)))
      ·
       intro vf pf hR
       exact ovQ rfl (zai [22] rfl) (zbd (fdQ 1 rfl rfl rfl))
      ·
       intro vf pf hR
       have e8 := hR 8 (by decide)
       exact olQ rfl (sk 204 (congrArg some e8.1) (zab _)) (zbd (zag rfl rfl rfl (zad 0 rfl rfl)))
      intro vf pf hR
      have e7 : (fun v' post => post = [rowE 3 1 v' ((ndL to2 ((rs.getD (((k3 : Int) - n.fst).toNat) crow0).xs))).length (((ndL to2 ((rs.getD (((k3 : Int) - n.fst).toNat) crow0).xs))).map (Value.int .i64))]) (vf 7) (pf 7) := hR 7 (by decide)
      obtain ⟨v53, vE7⟩ : ∃ x, vf 7 = x := ⟨_, rfl⟩
      obtain ⟨p54, pE7⟩ : ∃ x, pf 7 = x := ⟨_, rfl⟩
      have hR55 := e7
      rw [vE7, pE7] at hR55
      subst hR55
      have e9 := hR 9 (by decide)
      refine Or.inl ⟨rfl, ?_⟩
      exact zcc (sk 203 (congrArg some vE7) (sk 205 (congrArg some e9.1) (zab _))) (by simp only [pE7, vE7, e9.2, fS] <;> rfl) (zco (zbd (zfj (cs := #[v53, .int .i64 tq.B]) rfl rfl (fun w hm => built_lutT v53 tq.B ((zah 0 rfl w hm).one)))) (fun _ _ h => ⟨h.1.trans (by show _ = (.agg #[(vf 7), .int .i64 tq.B] : Value); first | (rw [vE7]; done) | (rw [vE7]; rfl)), h.2⟩))
     intro vf pf hR
     have e7 : (fun v' post => post = [rowE 3 1 v' ((ndL to2 ((rs.getD (((k3 : Int) - n.fst).toNat) crow0).xs))).length (((ndL to2 ((rs.getD (((k3 : Int) - n.fst).toNat) crow0).xs))).map (Value.int .i64))]) (vf 7) (pf 7) := hR 7 (by decide)
     obtain ⟨v53, vE7⟩ : ∃ x, vf 7 = x := ⟨_, rfl⟩
     obtain ⟨p54, pE7⟩ : ∃ x, pf 7 = x := ⟨_, rfl⟩
     have hR55 := e7
     rw [vE7, pE7] at hR55
     subst hR55
     have e10 : (vf 10) = .agg #[(vf 7), .int .i64 tq.B] ∧ (pf 10) = [] := hR 10 (by decide)
     rw [vE7] at e10
     have q0 := hR 0 (by decide)
     have q1 := hR 1 (by decide)
     have q2 := hR 2 (by decide)
     have q3 := hR 3 (by decide)
     have q4 := hR 4 (by decide)
     have q5 := hR 5 (by decide)
     have q6 := hR 6 (by decide)
     have q8 := hR 8 (by decide)
     have q9 := hR 9 (by decide)
     have q10 := hR 10 (by decide)
     refine zce (zbe [185, 173, 166, 124, 114, 69, 42, 27, 22, 21, 20, 16, 15, 14, 10, 9, 8, 7, 6, 5, 4, 2, 1, 0] _ (sk 206 (congrArg some e10.1) (zab _)) rfl) (by simp only [pE7, vE7, q0.2, q1.2, q2.2, q3.2, q4.2, q5.2, q6.2, q8.2, q9.2, q10.2, fS] <;> rfl) ?_
     simp only [List.drop_succ_cons, List.drop_zero]
     refine zcr (i := 0) rfl (fun ho56 => ?_)
     refine zbr (cs' := #[v53, .int .i64 tq.B]) (i := 2) (off := 0) (us := [v53, .int .i64 tq.B]) rfl rfl rfl rfl rfl rfl rfl (zae ho56 (zae rfl zbj)) rfl rfl rfl (ntQ (zay (hvQ rfl (fdQ 2 rfl rfl rfl) (hvQ rfl (zag rfl rfl rfl (zad 8 rfl rfl)) (hvQ rfl (zar (cs := [v53, .int .i64 tq.B]) rfl rfl rfl rfl rfl (zam 2 rfl 0 rfl)) ?_)))))
     refine zdu rfl (zau (z := .agg #[.slice none 0 0, .int .i64 0]) (s := 2) (cs := [v53, .int .i64 tq.B]) rfl Try.underlying25 rfl (by decide) rfl (by kernel_rfl) rfl) ?_
     intro g57
     refine zcf (i := 6) (z := .agg #[.slice none 0 0, .int .i64 0]) (bytes := 32) rfl rfl rfl rfl Try.underlying25 (by kernel_rfl) rfl rfl rfl rfl (zah 0 rfl) (zae ho56 (zae rfl zbj)) (by first | omega | (simp only [List.length_append, List.length_cons, List.length_nil]; omega)) (zbt ls2 [(Lt.mk v53 (ndL to2 ((rs.getD (((k3 : Int) - n.fst).toNat) crow0).xs)) tq.B)]) (zcs ltC ls2 (Lt.mk v53 (ndL to2 ((rs.getD (((k3 : Int) - n.fst).toNat) crow0).xs)) tq.B) _ rfl) (fun _ => rfl) ?_
     intro v58
     refine hvQ rfl (fdQ 2 rfl rfl rfl) (zcr (i := 6) rfl (fun ho59 => ?_))
     refine zed (i := 9) (cs' := #[.int .i64 n.ins, .slice none 0 0, v58, .slice none 0 0]) rfl rfl rfl rfl rfl rfl ho59 rfl rfl rfl rfl (zcb (zcv (reQ 1 rfl (hvQ rfl (vaQ rfl rfl rfl) (enQ 1 rfl ?_)))))
     refine zbo 14 [13, 12, 11, 10, 9, 8, 7, 6, 5, 1, 4] rfl rfl (by decide) ?_
     refine zcx 2 rfl ?_
     exact zca (k3 + 1) (nos.set k3 (n.fst + (ls2.length : Int))) (ls2 ++ [(Lt.mk v53 (ndL to2 ((rs.getD (((k3 : Int) - n.fst).toNat) crow0).xs)) tq.B)]) (v58, [bigE yt9.2, rowE 3 1 v53 ((ndL to2 ((rs.getD (((k3 : Int) - n.fst).toNat) crow0).xs)).length) ((ndL to2 ((rs.getD (((k3 : Int) - n.fst).toNat) crow0).xs)).map (Value.int .i64))]) ⟨by omega, by rw [List.length_set]; exact hnol, by rw [List.length_append, List.length_singleton]; omega, hlo2.app (lutP_mk htq (by rw [htn, ndL_len]) (by rw [ndL_len]; exact hcp.len) (below_nd hto3 hbl9 huse)), (by rw [List.length_append, List.length_singleton]; exact hto3.up (Nat.le_succ _)), (by rw [List.length_append, List.length_singleton]; exact hno.put (by omega) (Nat.le_succ _) ⟨by omega, by omega⟩), fun w hw => (hbs2 w (zba hw List.mem_cons_self)).app (zbp (zba hw (List.mem_cons_of_mem _ List.mem_cons_self)))⟩ (by omega) (saQ rfl) (pfQ rfl)
    refine ntQ (zaq rfl (zac (reQ 1 rfl ?_)))
    refine zfa rfl rfl rfl rfl rfl rfl (fun h60 => ?_) (fun h60 => ?_)
    ·
     refine ntQ (zao rfl (reQ 1 rfl ?_))
     refine zdu rfl (zau (z := .int .i64 0) (s := 1) (cs := ([(k3 : Int)].map (Value.int .i64))) rfl Try.underlying26 rfl (by decide) rfl (by kernel_rfl) rfl) ?_
     intro g61
     refine hvQ rfl (fdQ 0 rfl rfl rfl) (zed (i := 1) (cs' := #[.slice (some ⟨g61, 0, none⟩) 1 1, .int .i64 1]) rfl rfl rfl rfl rfl rfl rfl rfl rfl rfl rfl ?_)
     refine ntQ (zay (hvQ rfl (fdQ 2 rfl rfl rfl) (hvQ rfl (zag rfl rfl rfl (zad 7 rfl rfl)) (hvQ rfl (zar (cs := [.slice (some ⟨g61, 0, none⟩) 1 1, .int .i64 1]) rfl rfl rfl rfl rfl (zam 1 rfl 0 rfl)) ?_))))
     refine zdu rfl (zau (z := .agg #[.slice none 0 0, .int .i64 0]) (s := 2) (cs := [.slice (some ⟨g61, 0, none⟩) 1 1, .int .i64 1]) rfl Try.underlying25 rfl (by decide) rfl (by kernel_rfl) rfl) ?_
     intro g62
     refine zcf (i := 5) (z := .agg #[.slice none 0 0, .int .i64 0]) (bytes := 32) rfl rfl rfl rfl Try.underlying25 (by kernel_rfl) rfl rfl rfl rfl (zah 0 rfl) (by simp [Value.oneCell']) (by first | omega | (simp only [List.length_append, List.length_cons, List.length_nil]; omega)) (zbt ls2 [(Lt.mk (.slice (some ⟨g61, 0, none⟩) 1 1) ([(k3 : Int)]) 1)]) (zcs ltC ls2 (Lt.mk (.slice (some ⟨g61, 0, none⟩) 1 1) ([(k3 : Int)]) 1) _ rfl) (fun _ => rfl) ?_
     intro v63
     refine hvQ rfl (fdQ 2 rfl rfl rfl) (zcr (i := 5) rfl (fun ho64 => ?_))
     refine zed (i := 8) (cs' := #[.int .i64 n.ins, .slice none 0 0, v63, .slice none 0 0]) rfl rfl rfl rfl rfl rfl ho64 rfl rfl rfl rfl (zcb (zcv (reQ 1 rfl (hvQ rfl (vaQ rfl rfl rfl) (enQ 1 rfl ?_)))))
     refine zbo 13 [12, 11, 10, 9, 8, 7, 6, 5, 4, 1, 3] rfl rfl (by decide) ?_
     refine zcx 2 rfl ?_
     exact zca (k3 + 1) (nos.set k3 (n.fst + (ls2.length : Int))) (ls2 ++ [(Lt.mk (.slice (some ⟨g61, 0, none⟩) 1 1) ([(k3 : Int)]) 1)]) (v63, [bigE yt9.2, rowE 3 1 (.slice (some ⟨g61, 0, none⟩) 1 1) 1 ([(k3 : Int)].map (Value.int .i64))]) ⟨by omega, by rw [List.length_set]; exact hnol, by rw [List.length_append, List.length_singleton]; omega, hlo2.app (LutP.one (by omega) (by omega)), (by rw [List.length_append, List.length_singleton]; exact hto3.up (Nat.le_succ _)), (by rw [List.length_append, List.length_singleton]; exact hno.put (by omega) (Nat.le_succ _) ⟨by omega, by omega⟩), fun w hw => (hbs2 w (zba hw List.mem_cons_self)).app (zbp (zba hw (List.mem_cons_of_mem _ List.mem_cons_self)))⟩ (by omega) (saQ rfl) (pfQ rfl)
    refine ntQ (zaq rfl (zcp (zay (hvQ rfl (fdQ 2 rfl rfl rfl) (hvQ rfl (zag rfl rfl rfl (zad 6 rfl rfl)) (hvQ rfl (zar (cs := [.slice none 0 0, .int .i64 1]) rfl rfl rfl rfl rfl (zam 0 rfl 0 rfl)) ?_))))))
    refine zdu rfl (zau (z := .agg #[.slice none 0 0, .int .i64 0]) (s := 2) (cs := [.slice none 0 0, .int .i64 1]) rfl Try.underlying25 rfl (by decide) rfl (by kernel_rfl) rfl) ?_
    intro g65
    refine zcf (i := 4) (z := .agg #[.slice none 0 0, .int .i64 0]) (bytes := 32) rfl rfl rfl rfl Try.underlying25 (by kernel_rfl) rfl rfl rfl rfl (zah 0 rfl) (by simp [Value.oneCell']) (by first | omega | (simp only [List.length_append, List.length_cons, List.length_nil]; omega)) (zbt ls2 [(Lt.mk (.slice none 0 0) ([]) 1)]) (zcs ltC ls2 (Lt.mk (.slice none 0 0) ([]) 1) _ rfl) (fun _ => rfl) ?_
    intro v66
    refine hvQ rfl (fdQ 2 rfl rfl rfl) (zcr (i := 4) rfl (fun ho67 => ?_))
    refine zed (i := 7) (cs' := #[.int .i64 n.ins, .slice none 0 0, v66, .slice none 0 0]) rfl rfl rfl rfl rfl rfl ho67 rfl rfl rfl rfl (zcb (zcv (reQ 1 rfl (hvQ rfl (vaQ rfl rfl rfl) (enQ 1 rfl ?_)))))
    refine zbo 12 [11, 10, 9, 8, 7, 6, 5, 4, 3, 2] rfl rfl (by decide) ?_
    refine zcx 1 rfl ?_
    exact zca (k3 + 1) (nos.set k3 (n.fst + (ls2.length : Int))) (ls2 ++ [(Lt.mk (.slice none 0 0) ([]) 1)]) (v66, [bigE yt9.2]) ⟨by omega, by rw [List.length_set]; exact hnol, by rw [List.length_append, List.length_singleton]; omega, hlo2.app (LutP.none), (by rw [List.length_append, List.length_singleton]; exact hto3.up (Nat.le_succ _)), (by rw [List.length_append, List.length_singleton]; exact hno.put (by omega) (Nat.le_succ _) ⟨by omega, by omega⟩), fun w hw => (hbs2 w (zba hw List.mem_cons_self)).app (rd_nil (w0 := w) (l := []) w (Mem.refl w))⟩ (by omega) (saQ rfl) (pfQ rfl)
   refine zbb 1 rfl (zao rfl ?_)
   refine zaz (zeg ?_)
   refine zaf (zax (reQ 1 rfl (hvQ rfl (vaQ rfl rfl rfl) (enQ 1 rfl ?_))))
   exact zca (k3 + 1) nos ls2 (yt9.1, yt9.2) ⟨by omega, hnol, by omega, hlo2, hto3, hno.skip (by assumption), hbs2⟩ (by omega) (saQ rfl) (pfQ rfl)
  refine ntQ (zaq rfl ?_)
  refine zaz (zdr ?_)
  refine zaf (zax (zac (zbc 1 rfl (zaw ?_))))
  refine lkQ4 (α := Nat) (β := Value) (γ := List Sq) (δ := List HP) [0, 1, 2, 4, 5, 6, 7, 8, 9, 10, 14, 15, 16, 27, 42, 69, 114, 124, 166] rfl (fun j4 u5 ss bs3 => [bigE bs3, rowE 35 3 u5 ss.length (ss.flatMap sqC), rowE 72 2 yt9.1 ls2.length (ls2.flatMap ltC), rowE 3 1 (.slice (some ⟨g20, 0, none⟩) ((List.replicate (n.cnt).toNat (0 : Int)).length) ((List.replicate (n.cnt).toNat (0 : Int)).length)) nos.length (nos.map (Value.int .i64)), rowE 3 1 zt9.1.1 to2.length (to2.map (Value.int .i64)), boxE b18 #[.int .i64 n.ins, u5, yt9.1, .slice none 0 0] 28, rowE 4 1 (.slice (some ⟨g5, 0, none⟩) ((List.replicate (n.cnt).toNat bl0).length) ((List.replicate (n.cnt).toNat bl0).length)) ng.length (ng.flatMap blC), rowE 4 1 (.slice (some ⟨g4, 0, none⟩) ((List.replicate (n.cnt).toNat bl0).length) ((List.replicate (n.cnt).toNat bl0).length)) p2.length (p2.flatMap blC), boxE b2 #[.int .i64 0, .slice none 0 0, .slice none 0 0, .slice none 0 0] 28, boxE b1 #[.int .i64 n.ins, n.sv, n.av, n.ov] 101]) (fun j4 u5 ss bs3 => [(23, .int .i64 (j4 : Int))]) (fun j4 u5 ss bs3 => j4 ≤ n.ss.length ∧ ss.length = j4 ∧ SqsN (n.fst + (ls2.length : Int)) ss ∧ ∀ w, (bigE bs3).holds w → RdsLuts w ls2 ∧ RdsSqs w ss) (fun j4 u5 ss bs3 => n.ss.length - j4) 0 _ [] _ ⟨Nat.zero_le _, rfl, SqsN.nil _, fun w hw => ⟨hbs2 w hw, RdsSqs.nil w⟩⟩ (saQ rfl) (pfQ rfl) ?_
  intro j4 u5 ss bs3 hi68
  obtain ⟨hj4, hsl4, hsn, hbs3⟩ := hi68
  have hnoF : NosOk ng n.fst ls2.length nos.length nos := by rw [show nos.length = k3 by omega]; exact hno
  refine zac (zac (reQ 1 rfl (hvQ rfl (fdQ 1 rfl rfl rfl) (hvQ rfl (zag rfl rfl rfl (zad 9 rfl rfl)) (hvQ rfl (lnQ rfl rfl rfl (zaa hr.sq)) ?_)))))
  refine zbh rfl rfl rfl rfl rfl rfl (fun h69 => ?_) (fun h69 => ?_)
  ·
   refine ntQ (zao rfl (zcp (sbQ ?_)))
   refine zdq rfl 25 [0, 1, 2, 3, 4, 5, 6, 7, 8, 9, 10, 11, 12, 13, 14, 15, 16, 17, 18, 19, 20, 21, 22, 23, 24] (List.take 25 _) (List.drop 25 _) [[], [0], [], [2], [], [3, 4], [5], [6], [], [8], [], [9, 10], [11], [12], [], [], [], [16], [], [17, 18], [19], [20], [14, 15, 21], [7, 13, 22], [22, 23]] [225, 226, 227, 228, 229, 230, 231, 232, 233, 234, 235, 236, 237, 238, 239, 240, 241, 242, 243, 244, 245, 246, 247, 248, 249] (fun i_ vs_ v_ p_ => match i_ with | 0 => v_ = .pointer (some ⟨b18, 0 + 1, none⟩) ∧ p_ = [] | 1 => v_ = u5 ∧ p_ = [] | 2 => v_ = .pointer (some ⟨b1, 0 + 1, none⟩) ∧ p_ = [] | 3 => v_ = n.sv ∧ p_ = [] | 4 => v_ = .int .i64 (j4 : Int) ∧ p_ = [] | 5 => v_ = elP n.sv (((j4 : Int)).toNat * 3) ∧ p_ = [] | 6 => v_ = elP n.sv (((j4 : Int)).toNat * 3 + 0) ∧ p_ = [] | 7 => v_ = .int .i64 ((n.ss.getD j4 sq0).kd) ∧ p_ = [] | 8 => v_ = .pointer (some ⟨b1, 0 + 1, none⟩) ∧ p_ = [] | 9 => v_ = n.sv ∧ p_ = [] | 10 => v_ = .int .i64 (j4 : Int) ∧ p_ = [] | 11 => v_ = elP n.sv (((j4 : Int)).toNat * 3) ∧ p_ = [] | 12 => v_ = elP n.sv (((j4 : Int)).toNat * 3 + 1) ∧ p_ = [] | 13 => v_ = .int .i64 ((n.ss.getD j4 sq0).it) ∧ p_ = [] | 14 => v_ = zt9.1.1 ∧ p_ = [] | 15 => v_ = .slice (some ⟨g20, 0, none⟩) ((List.replicate (n.cnt).toNat (0 : Int)).length) ((List.replicate (n.cnt).toNat (0 : Int)).length) ∧ p_ = [] | 16 => v_ = .pointer (some ⟨b1, 0 + 1, none⟩) ∧ p_ = [] | 17 => v_ = n.sv ∧ p_ = [] | 18 => v_ = .int .i64 (j4 : Int) ∧ p_ = [] | 19 => v_ = elP n.sv (((j4 : Int)).toNat * 3) ∧ p_ = [] | 20 => v_ = elP n.sv (((j4 : Int)).toNat * 3 + 2) ∧ p_ = [] | 21 => v_ = (n.ss.getD j4 sq0).iv ∧ p_ = [] | 22 => (fun v' post => post = [rowE 3 1 v' ((rtL to2 nos ((n.ss.getD j4 sq0).xs))).length (((rtL to2 nos ((n.ss.getD j4 sq0).xs))).map (Value.int .i64))]) v_ p_ | 23 => v_ = .agg #[.int .i64 ((n.ss.getD j4 sq0).kd), .int .i64 ((n.ss.getD j4 sq0).it), (List.getD vs_ 2 undef)] ∧ p_ = [] | 24 => IsRow 35 3 1 ([.int .i64 ((n.ss.getD j4 sq0).kd), .int .i64 ((n.ss.getD j4 sq0).it), (List.getD vs_ 0 undef)]) v_ p_ | _ => True) (List.take_append_drop 25 _).symm (by kernel_rfl) (by kernel_rfl) rfl rfl ?_ ?_
   ·
    refine ⟨?_, ?_, ?_, ?_, ?_, ?_, ?_, ?_, ?_, ?_, ?_, ?_, ?_, ?_, ?_, ?_, ?_, ?_, ?_, ?_, ?_, ?_, ?_, ?_, ?_, trivial⟩
    ·
     intro vf pf hR
     exact ovQ rfl (zai [14] rfl) (zbd (fdQ 1 rfl rfl rfl))
    ·
     intro vf pf hR
     have e0 := hR 0 (by decide)
     exact olQ rfl (sk 225 (congrArg some e0.1) (zab _)) (zbd (zag rfl rfl rfl (zad 5 rfl rfl)))
    ·
     intro vf pf hR
     exact ovQ rfl (zai [2] rfl) (zbd (fdQ 1 rfl rfl rfl))
    ·
     intro vf pf hR
     have e2 := hR 2 (by decide)
     exact olQ rfl (sk 227 (congrArg some e2.1) (zab _)) (zbd (zag rfl rfl rfl (zad 9 rfl rfl)))
    ·
     intro vf pf hR
     exact ovQ rfl (zai [23] rfl) (zbd (zaj rfl))
    ·
     intro vf pf hR
     have e3 := hR 3 (by decide)
     have e4 := hR 4 (by decide)
     exact olQ rfl (sk 228 (congrArg some e3.1) (sk 229 (congrArg some e4.1) (zab _))) (zbd (riQ 3 rfl rfl rfl rfl (zaa hr.sq)))
    ·
     intro vf pf hR
     have e5 := hR 5 (by decide)
     exact olQ rfl (sk 230 (congrArg some e5.1) (zab _)) (zbd (zbx (k0 := 0) rfl rfl rfl (zaa hr.sq) (by omega)))
    ·
     intro vf pf hR
     have e6 := hR 6 (by decide)
     exact olQ rfl (sk 231 (congrArg some e6.1) (zab _)) (zbd (zat (u := .int .i64 ((n.ss.getD j4 sq0).kd)) rfl rfl rfl (zaa hr.sq) ((zcy sqC 3 (fun _ => rfl) n.ss sq0 (show j4 < _ by omega) (by decide)).trans rfl)))
    ·
     intro vf pf hR
     exact ovQ rfl (zai [2] rfl) (zbd (fdQ 1 rfl rfl rfl))
    ·
     intro vf pf hR
     have e8 := hR 8 (by decide)
     exact olQ rfl (sk 233 (congrArg some e8.1) (zab _)) (zbd (zag rfl rfl rfl (zad 9 rfl rfl)))
    ·
     intro vf pf hR
     exact ovQ rfl (zai [23] rfl) (zbd (zaj rfl))
    ·
     intro vf pf hR
     have e9 := hR 9 (by decide)
     have e10 := hR 10 (by decide)
     exact olQ rfl (sk 234 (congrArg some e9.1) (sk 235 (congrArg some e10.1) (zab _))) (zbd (riQ 3 rfl rfl rfl rfl (zaa hr.sq)))
    ·
     intro vf pf hR
     have e11 := hR 11 (by decide)
     exact olQ rfl (sk 236 (congrArg some e11.1) (zab _)) (zbd (zbx (k0 := 1) rfl rfl rfl (zaa hr.sq) (by omega)))
    ·
     intro vf pf hR
     have e12 := hR 12 (by decide)
     exact olQ rfl (sk 237 (congrArg some e12.1) (zab _)) (zbd (zat (u := .int .i64 ((n.ss.getD j4 sq0).it)) rfl rfl rfl (zaa hr.sq) ((zcy sqC 3 (fun _ => rfl) n.ss sq0 (show j4 < _ by omega) (by decide)).trans rfl)))
    ·
     intro vf pf hR
     exact ovQ rfl (zai [15] rfl) (zbd (zaj rfl))
    ·
     intro vf pf hR
     exact ovQ rfl (zai [16] rfl) (zbd (zaj rfl))
    ·
     intro vf pf hR
     exact ovQ rfl (zai [2] rfl) (zbd (fdQ 1 rfl rfl rfl))
    ·
     intro vf pf hR
     have e16 := hR 16 (by decide)
     exact olQ rfl (sk 241 (congrArg some e16.1) (zab _)) (zbd (zag rfl rfl rfl (zad 9 rfl rfl)))
    ·
     intro vf pf hR
     exact ovQ rfl (zai [23] rfl) (zbd (zaj rfl))
    ·
     intro vf pf hR
     have e17 := hR 17 (by decide)
     have e18 := hR 18 (by decide)
     exact olQ rfl (sk 242 (congrArg some e17.1) (sk 243 (congrArg some e18.1) (zab _))) (zbd (riQ 3 rfl rfl rfl rfl (zaa hr.sq)))
    ·
     intro vf pf hR
     have e19 := hR 19 (by decide)
     exact olQ rfl (sk 244 (congrArg some e19.1) (zab _)) (zbd (zbx (k0 := 2) rfl rfl rfl (zaa hr.sq) (by omega)))
    ·
     intro vf pf hR
     have e20 := hR 20 (by decide)
     exact olQ rfl (sk 245 (congrArg some e20.1) (zab _)) (zbd (zat (u := (n.ss.getD j4 sq0).iv) rfl rfl rfl (zaa hr.sq) ((zcy sqC 3 (fun _ => rfl) n.ss sq0 (show j4 < _ by omega) (by decide)).trans rfl)))
    ·
     intro vf pf hR
     have e14 := hR 14 (by decide)
     have e15 := hR 15 (by decide)
     have e21 := hR 21 (by decide)
     exact olQ rfl (sk 239 (congrArg some e14.1) (sk 240 (congrArg some e15.1) (sk 246 (congrArg some e21.1) (zab _)))) (zal rfl rfl (fun w hm => l20Roots_ret to2 nos ((n.ss.getD j4 sq0).xs) _ _ _ w ((zah 4 rfl) w hm) ((zah 3 rfl) w hm) ((zaa (hr.at (k := j4) (by omega))) w hm) (fun k hk => by have h9 := hn.xs _ (zch (d := sq0) (show j4 < n.ss.length by omega)) _ (zch (d := (0 : Int)) hk); unfold LtOk at h9; omega) (by have h8 := (hn.sq _ (zch (d := sq0) (show j4 < n.ss.length by omega))).len; omega) (by omega)))
    ·
     intro vf pf hR
     have e7 := hR 7 (by decide)
     have e13 := hR 13 (by decide)
     have e22 : (fun v' post => post = [rowE 3 1 v' ((rtL to2 nos ((n.ss.getD j4 sq0).xs))).length (((rtL to2 nos ((n.ss.getD j4 sq0).xs))).map (Value.int .i64))]) (vf 22) (pf 22) := hR 22 (by decide)
     obtain ⟨v70, vE22⟩ : ∃ x, vf 22 = x := ⟨_, rfl⟩
     obtain ⟨p71, pE22⟩ : ∃ x, pf 22 = x := ⟨_, rfl⟩
     have hR72 := e22
     rw [vE22, pE22] at hR72
     subst hR72
     refine Or.inl ⟨rfl, ?_⟩
     exact zcc (sk 232 (congrArg some e7.1) (sk 238 (congrArg some e13.1) (sk 247 (congrArg some vE22) (zab _)))) (by simp only [pE22, vE22, e7.2, e13.2, fS] <;> rfl) (zco (zbd (zfj (cs := #[.int .i64 ((n.ss.getD j4 sq0).kd), .int .i64 ((n.ss.getD j4 sq0).it), v70]) rfl rfl (fun w hm => built_seqH ((n.ss.getD j4 sq0).kd) ((n.ss.getD j4 sq0).it) v70 ((zah 0 rfl w hm).one)))) (fun _ _ h => ⟨h.1.trans (by show _ = (.agg #[.int .i64 ((n.ss.getD j4 sq0).kd), .int .i64 ((n.ss.getD j4 sq0).it), (vf 22)] : Value); first | (rw [vE22]; done) | (rw [vE22]; rfl)), h.2⟩))
    intro vf pf hR
    have e22 : (fun v' post => post = [rowE 3 1 v' ((rtL to2 nos ((n.ss.getD j4 sq0).xs))).length (((rtL to2 nos ((n.ss.getD j4 sq0).xs))).map (Value.int .i64))]) (vf 22) (pf 22) := hR 22 (by decide)
    obtain ⟨v70, vE22⟩ : ∃ x, vf 22 = x := ⟨_, rfl⟩
    obtain ⟨p71, pE22⟩ : ∃ x, pf 22 = x := ⟨_, rfl⟩
    have hR72 := e22
    rw [vE22, pE22] at hR72
    subst hR72
    have e23 : (vf 23) = .agg #[.int .i64 ((n.ss.getD j4 sq0).kd), .int .i64 ((n.ss.getD j4 sq0).it), (vf 22)] ∧ (pf 23) = [] := hR 23 (by decide)
    rw [vE22] at e23
    refine Or.inl ⟨rfl, ?_⟩
    exact zcc (sk 248 (congrArg some e23.1) (zab _)) (by simp only [pE22, vE22, e23.2, fS] <;> rfl) (zco (zau (z := .agg #[.int .i64 0, .int .i64 0, .slice none 0 0]) (s := 3) (cs := [.int .i64 ((n.ss.getD j4 sq0).kd), .int .i64 ((n.ss.getD j4 sq0).it), v70]) rfl Try.underlying24 rfl (by decide) rfl (by kernel_rfl) rfl) (fun v_ p_ h => by show IsRow 35 3 1 ([.int .i64 ((n.ss.getD j4 sq0).kd), .int .i64 ((n.ss.getD j4 sq0).it), (vf 22)]) v_ p_; rw [vE22]; exact h))
   intro vf pf hR
   have e1 := hR 1 (by decide)
   have e22 : (fun v' post => post = [rowE 3 1 v' ((rtL to2 nos ((n.ss.getD j4 sq0).xs))).length (((rtL to2 nos ((n.ss.getD j4 sq0).xs))).map (Value.int .i64))]) (vf 22) (pf 22) := hR 22 (by decide)
   obtain ⟨v70, vE22⟩ : ∃ x, vf 22 = x := ⟨_, rfl⟩
   obtain ⟨p71, pE22⟩ : ∃ x, pf 22 = x := ⟨_, rfl⟩
   have hR72 := e22
   rw [vE22, pE22] at hR72
   subst hR72
   have e24 : IsRow 35 3 1 ([.int .i64 ((n.ss.getD j4 sq0).kd), .int .i64 ((n.ss.getD j4 sq0).it), (vf 22)]) (vf 24) (pf 24) := hR 24 (by decide)
   rw [vE22] at e24
   obtain ⟨g73, vE24, pE24⟩ := e24
   have q0 := hR 0 (by decide)
   have q1 := hR 1 (by decide)
   have q2 := hR 2 (by decide)
   have q3 := hR 3 (by decide)
   have q4 := hR 4 (by decide)
   have q5 := hR 5 (by decide)
   have q6 := hR 6 (by decide)
   have q7 := hR 7 (by decide)
   have q8 := hR 8 (by decide)
   have q9 := hR 9 (by decide)
   have q10 := hR 10 (by decide)
   have q11 := hR 11 (by decide)
   have q12 := hR 12 (by decide)
   have q13 := hR 13 (by decide)
   have q14 := hR 14 (by decide)
   have q15 := hR 15 (by decide)
   have q16 := hR 16 (by decide)
   have q17 := hR 17 (by decide)
   have q18 := hR 18 (by decide)
   have q19 := hR 19 (by decide)
   have q20 := hR 20 (by decide)
   have q21 := hR 21 (by decide)
   have q23 := hR 23 (by decide)
   refine zce (zbe [222, 166, 124, 114, 69, 42, 27, 23, 16, 15, 14, 10, 9, 8, 7, 6, 5, 4, 2, 1, 0] _ (sk 226 (congrArg some e1.1) (sk 249 (congrArg some vE24) (zab _))) rfl) (by simp only [pE22, vE22, pE24, vE24, q0.2, q1.2, q2.2, q3.2, q4.2, q5.2, q6.2, q7.2, q8.2, q9.2, q10.2, q11.2, q12.2, q13.2, q14.2, q15.2, q16.2, q17.2, q18.2, q19.2, q20.2, q21.2, q23.2, fS] <;> rfl) ?_
   simp only [List.drop_succ_cons, List.drop_zero]
   refine zcr (i := 0) rfl (fun ho74 => ?_)
   refine zcf (i := 3) (z := .agg #[.int .i64 0, .int .i64 0, .slice none 0 0]) (bytes := 40) rfl rfl rfl rfl Try.underlying24 (by kernel_rfl) rfl rfl rfl rfl (zah 1 rfl) (zae rfl (zae rfl (zae ho74 zbj))) (by first | omega | (simp only [List.length_append, List.length_cons, List.length_nil]; omega)) (zbt ss [(Sq.mk ((n.ss.getD j4 sq0).kd) ((n.ss.getD j4 sq0).it) v70 (rtL to2 nos ((n.ss.getD j4 sq0).xs)))]) (zcs sqC ss (Sq.mk ((n.ss.getD j4 sq0).kd) ((n.ss.getD j4 sq0).it) v70 (rtL to2 nos ((n.ss.getD j4 sq0).xs))) _ rfl) (fun _ => rfl) ?_
   intro v75
   refine hvQ rfl (fdQ 1 rfl rfl rfl) (zcr (i := 3) rfl (fun ho76 => ?_))
   refine zed (i := 7) (cs' := #[.int .i64 n.ins, v75, yt9.1, .slice none 0 0]) rfl rfl rfl rfl rfl rfl ho76 rfl rfl rfl rfl (zcb (zcv (reQ 1 rfl (hvQ rfl (vaQ rfl rfl rfl) (enQ 1 rfl ?_)))))
   refine zbo 12 [11, 10, 9, 8, 7, 6, 5, 4, 3, 0, 2] rfl rfl (by decide) ?_
   refine zcx 2 rfl ?_
   exact zca (j4 + 1) v75 (ss ++ [(Sq.mk ((n.ss.getD j4 sq0).kd) ((n.ss.getD j4 sq0).it) v70 (rtL to2 nos ((n.ss.getD j4 sq0).xs)))]) [bigE bs3, rowE 3 1 v70 ((rtL to2 nos ((n.ss.getD j4 sq0).xs)).length) ((rtL to2 nos ((n.ss.getD j4 sq0).xs)).map (Value.int .i64))] ⟨by omega, by rw [List.length_append, List.length_singleton]; omega, hsn.app (sqOk_len (hn.sq _ (zch (d := sq0) (by omega))) (rtL_len _ _ _) _) (below_rt hto3 hnoF (c := n.cnt) (by omega) (by omega) (fun l hl => ⟨hn.xs _ (zch (d := sq0) (by omega)) l hl, hru2.all l (rts_sq (zch (d := sq0) (by omega)) hl)⟩)), fun w hw => ⟨(hbs3 w (zba hw List.mem_cons_self)).1, (hbs3 w (zba hw List.mem_cons_self)).2.app (zbp (zba hw (List.mem_cons_of_mem _ List.mem_cons_self)))⟩⟩ (by omega) (saQ rfl) (pfQ rfl)
  refine ntQ (zaq rfl ?_)
  refine zaz (zdr ?_)
  refine zaf (zax (zac (reQ 2 rfl (hvQ rfl (fdQ 3 rfl rfl rfl) (hvQ rfl (zag rfl rfl rfl (zad 9 rfl rfl)) ?_)))))
  refine hl_q rfl rfl rfl (zal rfl rfl (fun w hm => l20Roots_ret to2 nos n.os _ _ _ w ((zah 4 rfl) w hm) ((zah 3 rfl) w hm) ((zaa hr.ou) w hm) (fun k hk => by have h9 := hn.ou _ (zch (d := (0 : Int)) hk); unfold LtOk at h9; omega) (by omega) (by omega))) ?_
  intro v77 p78 hR79
  subst hR79
  refine hvQ rfl (fdQ 3 rfl rfl rfl) (zcr (i := 0) rfl (fun ho80 => ?_))
  refine zed (i := 6) (cs' := #[.int .i64 n.ins, u5, yt9.1, v77]) rfl rfl rfl rfl rfl rfl ho80 rfl rfl rfl rfl (ntQ (srQ (hvQ rfl (zar (cs := [.int .i64 n.ins, u5, yt9.1, v77]) rfl rfl rfl rfl rfl (zam 6 rfl 0 rfl)) ?_)))
  refine zcr (i := 3) rfl (fun ho81 => ?_)
  refine zcr (i := 2) rfl (fun ho82 => ?_)
  refine zbr (cs' := #[.int .i64 n.ins, u5, yt9.1, v77]) (i := 9) (off := 0) (us := [.int .i64 n.ins, u5, yt9.1, v77]) rfl rfl rfl rfl rfl rfl rfl (zae rfl (zae ho82 (zae ho81 (zae ho80 zbj)))) rfl rfl rfl (zbb 1 rfl ?_)
  refine zav (zdv (fun w hm => (zah 2 rfl w hm).one) (fun ho1 => ?_))
  refine zdv (fun w hm => (zah 3 rfl w hm).one) (fun ho2 => ?_)
  refine zdv (fun w hm => (zah 0 rfl w hm).one) (fun ho3 => ?_)
  refine zbo 11 [9, 1, 0, 3, 2] rfl rfl (by decide) ?_
  refine zcx 4 rfl ?_
  exact zdp (rs := [.cell 4 28, .tmp 5]) (vs := [.agg #[.int .i64 n.ins, u5, yt9.1, v77], .bool true]) (post := [bigE [rowE 35 3 u5 ss.length (ss.flatMap sqC), rowE 72 2 yt9.1 ls2.length (ls2.flatMap ltC), rowE 3 1 v77 ((rtL to2 nos n.os).length) ((rtL to2 nos n.os).map (Value.int .i64)), bigE bs3]]) rfl ⟨⟨b2, 0, [.int .i64 n.ins, u5, yt9.1, v77], rfl, rfl, by kernel_rfl, by kernel_rfl, zam 1 rfl 0 rfl⟩, rfl, trivial⟩ rfl (slQ [0] rfl) ⟨_, (Ln.mk n.ins u5 yt9.1 v77 ss ls2 (rtL to2 nos n.os)), true, rfl, rfl, fun w hw => ⟨⟨zbp (zba hw List.mem_cons_self), (hbs3 w (zba hw (List.mem_cons_of_mem _ (List.mem_cons_of_mem _ (List.mem_cons_of_mem _ List.mem_cons_self))))).2⟩, ⟨zbp (zba hw (List.mem_cons_of_mem _ List.mem_cons_self)), (hbs3 w (zba hw (List.mem_cons_of_mem _ (List.mem_cons_of_mem _ (List.mem_cons_of_mem _ List.mem_cons_self))))).1⟩, zbp (zba hw (List.mem_cons_of_mem _ (List.mem_cons_of_mem _ List.mem_cons_self)))⟩, ⟨ho1, ho2, ho3⟩, ln_mk hn (by omega) (by omega) (by rw [rtL_len]; exact hn.o1) (below_rt hto3 hnoF (c := n.cnt) (by omega) (by omega) (fun l hl => ⟨hn.ou l hl, hru2.all l (rts_os hl)⟩)) hsn hlo2⟩
 refine zbb 1 rfl (zao rfl (srQ (hvQ rfl (zda (cs := #[.int .i64 0, .slice none 0 0, .slice none 0 0, .slice none 0 0]) rfl rfl rfl) ?_)))
 refine zbr (cs' := #[.int .i64 0, .slice none 0 0, .slice none 0 0, .slice none 0 0]) (i := 0) (off := 0) (us := [.int .i64 0, .slice none 0 0, .slice none 0 0, .slice none 0 0]) rfl rfl rfl rfl rfl rfl rfl (zae rfl (zae rfl (zae rfl (zae rfl zbj)))) rfl rfl rfl (zbb 1 rfl ?_)
 refine zav (zap ?_)
 refine zbo 2 [1, 0] rfl rfl (by decide) ?_
 refine zet _ zfx ?_
 exact zdp (rs := [.cell 4 28, .tmp 5]) (vs := [.agg #[.int .i64 0, .slice none 0 0, .slice none 0 0, .slice none 0 0], .bool false]) (post := [bigE ([] : List HP)]) rfl ⟨⟨b2, 0, [.int .i64 0, .slice none 0 0, .slice none 0 0, .slice none 0 0], rfl, rfl, by kernel_rfl, by kernel_rfl, zam 1 rfl 0 rfl⟩, rfl, trivial⟩ rfl (slQ [0] rfl) ⟨_, ln00, false, rfl, rfl, fun w hw => ⟨⟨rd_nil (w0 := w) (l := []) w (Mem.refl w), fun r hr => by cases hr⟩, ⟨rd_nil (w0 := w) (l := []) w (Mem.refl w), fun r hr => by cases hr⟩, rd_nil (w0 := w) (l := []) w (Mem.refl w)⟩, ⟨rfl, rfl, rfl⟩, ln00_ok⟩
theorem l18Cuts_mut (g : Nat) (a : Option Addr) (len cap : Nat) (z : List Int) (n : Nt) (w0 : World) (l : List HP) (w : World) (hm0 : Mem w0 (curE g a len cap :: l) w) (hb : BRow .u8 w0 a len cap z) (hrn : ∀ w, Mem w0 l w → RdsNt w n) (hn : NtOk n) :
   Calls Try.prog 60 #[.pointer (some ⟨g, 0, none⟩), .agg #[.int .i64 n.ins, n.sv, n.av, n.ov]] w (fun e_ w_ => ∃ v_ p_, e_ = .returned v_ ∧ (fun u_ p_ => ∃ (ps : List HP) (rs : List CRow), p_ = bigE [curE g a len cap, rowE 26 1 u_ rs.length (rs.flatMap crowC), bigE ps] ∧ (∀ w, (bigE ps).holds w → RdsAll w rs) ∧ rs.length = n.gs.length ∧ ∀ r ∈ rs, r.xs.length ≤ 400) v_ p_ ∧ Mem w0 (p_ :: l) w_) := by
 have hr := hrn w (hm0.sub (.cons _ (.refl _)))
 have hi0 := hn.i0
 have hi1 := hn.i1
 have hs1 := hn.s1
 have ha1 := hn.a1
 have ho1 := hn.o1
 have hcnt : n.cnt = 1 + n.ins + n.ss.length + n.gs.length := rfl
 have hfst : n.fst = 1 + n.ins + n.ss.length := rfl
 refine zgn (N := 37) (args := [.pointer (some ⟨g, 0, none⟩), .agg #[.int .i64 n.ins, n.sv, n.av, n.ov]]) Try.func60 rfl rfl hm0 (srQ ?_)
 refine zdt rfl (zct rfl rfl) ?_
 intro b1
 refine zbb 1 rfl (srQ (hvQ rfl (zar (cs := [.int .i64 n.ins, n.sv, n.av, n.ov]) rfl rfl rfl rfl rfl (zam 0 rfl 0 rfl)) ?_))
 refine hl_q rfl rfl rfl (zal rfl rfl (fun w hm => DepthMapping_ret n w (hrn w (hm.sub ((.cons _ (.cons _ (.refl _)))))) hn)) ?_
 intro v2 p3 hR4
 obtain ⟨ps0, rs0, rfl, hps0, hrl0, h400⟩ := hR4
 refine zbb 1 rfl (zac (zbc 1 rfl (zaw ?_)))
 refine lkQ4 (α := Nat) (β := List CRow) (γ := Value) (δ := List HP) [0, 1, 3, 4] rfl (fun i rs ov ps => (rowE 26 1 ov rs.length (rs.flatMap crowC) :: bigE ps :: boxE b1 #[.int .i64 n.ins, n.sv, n.av, n.ov] 101 :: curE g a len cap :: l)) (fun i rs ov ps => [(5, ov), (6, .int .i64 (i : Int))]) (fun i rs ov ps => i ≤ n.gs.length ∧ rs.length = n.gs.length ∧ (∀ r ∈ rs, r.xs.length ≤ 400) ∧ ∀ w, (bigE ps).holds w → RdsAll w rs) (fun i rs ov ps => n.gs.length - i) 0 _ _ _ ⟨Nat.zero_le _, hrl0, h400, hps0⟩ (saQ rfl) (.refl _) ?_
 intro i rs ov ps hi5
 obtain ⟨hi, hrl, hr4, hps⟩ := hi5
 refine zac (zac (reQ 2 rfl (hvQ rfl (lnQ rfl rfl rfl (zah 0 rfl)) ?_)))
 refine zbh rfl rfl rfl rfl rfl rfl (fun h6 => ?_) (fun h6 => ?_)
 ·
  refine ntQ (zao rfl (zcp (sbQ (zac (reQ 1 rfl ?_)))))
  refine zdj (R := (fun u_ p_ => (∃ b : Bool, u_ = .bool b) ∧ p_ = curE g a len cap)) 3 rfl rfl rfl rfl rfl (fun l' w hm => once_mut hm hb (2) (by omega) (by omega)) ?_
  intro v7 p8 hR9
  obtain ⟨⟨xhR9, rfl⟩, rfl⟩ := hR9
  refine zeb (l' := (rowE 26 1 ov rs.length (rs.flatMap crowC) :: bigE ps :: boxE b1 #[.int .i64 n.ins, n.sv, n.av, n.ov] 101 :: curE g a len cap :: l)) rfl ?_
  refine zbl (fun h10 => ?_) (fun h10 => ?_)
  ·
   refine ntQ (zao rfl (zac ?_))
   refine zdq rfl 6 [0, 1, 2, 3, 4, 5] (List.take 6 _) (List.drop 6 _) [[], [], [1], [], [2, 3], [0, 4]] [18, 19, 20, 21, 22, 23] (fun i_ vs_ v_ p_ => match i_ with | 0 => v_ = .agg #[.int .i64 n.ins, n.sv, n.av, n.ov] ∧ p_ = [] | 1 => v_ = .agg #[.int .i64 n.ins, n.sv, n.av, n.ov] ∧ p_ = [] | 2 => v_ = .int .i64 n.fst ∧ p_ = [] | 3 => v_ = .int .i64 (i : Int) ∧ p_ = [] | 4 => v_ = .int .i64 (n.fst + (i : Int)) ∧ p_ = [] | 5 => (fun u_ p_ => ∃ (ps : List HP) (us : List CRow), p_ = [bigE ps] ∧ (∀ w, (bigE ps).holds w → RdsCl w u_ us) ∧ GrpOk us) v_ p_ | _ => True) (List.take_append_drop 6 _).symm (by kernel_rfl) (by kernel_rfl) rfl rfl ?_ ?_
   ·
    refine ⟨?_, ?_, ?_, ?_, ?_, ?_, trivial⟩
    ·
     intro vf pf hR
     exact olQ rfl (zai [3] rfl) (zbd (zar (cs := [.int .i64 n.ins, n.sv, n.av, n.ov]) rfl rfl rfl rfl rfl (zam 2 rfl 0 rfl)))
    ·
     intro vf pf hR
     exact olQ rfl (zai [3] rfl) (zbd (zar (cs := [.int .i64 n.ins, n.sv, n.av, n.ov]) rfl rfl rfl rfl rfl (zam 2 rfl 0 rfl)))
    ·
     intro vf pf hR
     have e1 := hR 1 (by decide)
     exact olQ rfl (sk 19 (congrArg some e1.1) (zab _)) (zal rfl rfl (fun w hm => zas (zbz n w (hrn w (hm.sub ((.cons _ (.cons _ (.cons _ (.cons _ (.refl _)))))))) hn)))
    ·
     intro vf pf hR
     exact ovQ rfl (zai [6] rfl) (zbd (zaj rfl))
    ·
     intro vf pf hR
     have e2 := hR 2 (by decide)
     have e3 := hR 3 (by decide)
     exact ovQ rfl (sk 20 (congrArg some e2.1) (sk 21 (congrArg some e3.1) (zab _))) (zbd (vaQ rfl rfl rfl))
    intro vf pf hR
    have e0 := hR 0 (by decide)
    have e4 := hR 4 (by decide)
    exact olQ rfl (sk 18 (congrArg some e0.1) (sk 22 (congrArg some e4.1) (zab _))) (zal rfl rfl (fun w hm => EnumE_ret n (n.fst + (i : Int)) w (hrn w (hm.sub ((.cons _ (.cons _ (.cons _ (.cons _ (.refl _)))))))) hn (by omega)))
   intro vf pf hR
   have e5 : (fun u_ p_ => ∃ (ps : List HP) (us : List CRow), p_ = [bigE ps] ∧ (∀ w, (bigE ps).holds w → RdsCl w u_ us) ∧ GrpOk us) (vf 5) (pf 5) := hR 5 (by decide)
   obtain ⟨v11, vE5⟩ : ∃ x, vf 5 = x := ⟨_, rfl⟩
   obtain ⟨p12, pE5⟩ : ∃ x, pf 5 = x := ⟨_, rfl⟩
   have hR13 := e5
   rw [vE5, pE5] at hR13
   obtain ⟨es, us, rfl, hes, hgu⟩ := hR13
   have hgu1 := hgu.pos
   have hgu8 := hgu.len
   have q0 := hR 0 (by decide)
   have q1 := hR 1 (by decide)
   have q2 := hR 2 (by decide)
   have q3 := hR 3 (by decide)
   have q4 := hR 4 (by decide)
   refine zce (zbe [17, 13, 6, 5, 4, 3, 1, 0] _ (sk 23 (congrArg some vE5) (zab _)) rfl) (by simp only [pE5, vE5, q0.2, q1.2, q2.2, q3.2, q4.2, fS] <;> rfl) ?_
   simp only [List.drop_succ_cons, List.drop_zero]
   refine zbb 1 rfl (reQ 5 rfl ?_)
   refine hvQ rfl (lnQ rfl rfl rfl (fun w hm => (hes w (hm.holds _ (zby (i := 0) rfl))).row)) (hvQ rfl (vsQ rfl rfl rfl) (hvQ rfl (rv_max rfl rfl rfl) ?_))
   obtain ⟨p, hp⟩ : ∃ x, (if 1 < (us.length : Int) - 1 then (us.length : Int) - 1 else 1) = x := ⟨_, rfl⟩
   rw [hp]
   have hp2 : 1 ≤ p ∧ p ≤ us.length := by rw [← hp]; split <;> omega
   refine zdj (R := (fun u_ p_ => (∃ x_ : Int, u_ = .int .i64 x_ ∧ 0 ≤ x_ ∧ x_ < p) ∧ p_ = curE g a len cap)) 4 rfl rfl rfl rfl rfl (fun l' w hm => zci g a len cap z p _ _ _ hm hb (by constructor <;> omega)) ?_
   intro v14 p15 hR16
   obtain ⟨⟨xhR16, rfl, xhR160, xhR161⟩, rfl⟩ := hR16
   refine zeb (l' := (bigE es :: rowE 26 1 ov rs.length (rs.flatMap crowC) :: bigE ps :: boxE b1 #[.int .i64 n.ins, n.sv, n.av, n.ov] 101 :: curE g a len cap :: l)) rfl ?_
   refine hvQ rfl (riQ 1 rfl rfl rfl rfl (fun w hm => (hes w (hm.holds _ (zby (i := 0) rfl))).row)) (hvQ rfl (zat (u := (us.getD ((xhR16).toNat) crow0).v) rfl rfl rfl (fun w hm => (hes w (hm.holds _ (zby (i := 0) rfl))).row) (zbn crowC (fun r => r.v) (fun _ => rfl) us crow0 (show (xhR16).toNat < _ by omega))) ?_)
   refine hl_know (fun w hm => ((hes w (hm.holds _ (zby (i := 0) rfl))).at (k := ((xhR16).toNat)) (by omega)).one') (fun hov => ?_)
   refine hvQ rfl (riQ 1 rfl rfl rfl rfl (zah 1 rfl)) (zcw (i := 1) (n' := (rs.set i (us.getD ((xhR16).toNat) crow0)).length) rfl rfl rfl rfl rfl rfl hov rfl (by first | omega | (simp only [List.length_set]; omega)) List.length_set.symm (zdf crowC (fun r => r.v) (fun _ => rfl) _ (us.getD ((xhR16).toNat) crow0) rfl) rfl ?_)
   refine zcb (zcv (reQ 1 rfl (hvQ rfl (vaQ rfl rfl rfl) (enQ 1 rfl ?_))))
   refine zbo 5 [4, 3, 1, 0, 2] rfl rfl (by decide) ?_
   refine zcx 2 rfl ?_
   refine zbo 4 [3, 2, 0, 1] rfl rfl (by decide) ?_
   exact zca (i + 1) (rs.set i (us.getD ((xhR16).toNat) crow0)) ov [bigE ps, bigE es] ⟨by omega, by rw [List.length_set]; exact hrl, (fun r hr => (List.mem_or_eq_of_mem_set hr).elim (hr4 r) (fun h => by subst h; have := hgu.four _ (zcj (es := us) (i := ((xhR16).toNat)) (d := crow0) (by omega)); omega)), fun w hw => (fun r hr => (List.mem_or_eq_of_mem_set hr).elim (hps w (zba hw List.mem_cons_self) r) (fun h => by subst h; exact (hes w (zba hw (List.mem_cons_of_mem _ List.mem_cons_self))).at (k := ((xhR16).toNat)) (by omega)))⟩ (by omega) (saQ rfl) (.refl _)
  refine ntQ (fsQ rfl (zcv (reQ 1 rfl (hvQ rfl (vaQ rfl rfl rfl) (enQ 1 rfl ?_)))))
  exact zca (i + 1) rs ov ps ⟨by omega, hrl, hr4, hps⟩ (by omega) (saQ rfl) (.refl _)
 refine ntQ (zaq rfl ?_)
 refine zaz (zdr ?_)
 refine zaf (zax (zbc 2 rfl ?_))
 refine zav (zbo 4 [1, 0, 3] rfl rfl (by decide) ?_)
 refine zcx 3 rfl ?_
 exact hq_ret (rs := [.tmp 4]) (vs := [ov]) rfl ⟨rfl, trivial⟩ rfl (fun w hm => ⟨_, bigE [curE g a len cap, rowE 26 1 ov rs.length (rs.flatMap crowC), bigE ps], rfl, ⟨_, rs, rfl, hps, hrl, hr4⟩, hm.sub (.refl _)⟩)
open Go.RowKit
def tIn9 (v : Value) : Int := match v with | .tuple #[.agg #[.int _ i, _, _, _], _] => i | _ => 0
def tF9 (k : Nat) (v : Value) : Value := match v with | .tuple #[.agg xs, _] => xs.getD k undef | _ => undef
theorem BelowP.nil (m : Int) : BelowP [] m := fun j hj => absurd hj (by simp)
theorem BelowP.app {xs : List Int} {m x : Int} (h : BelowP xs m) (hx : 0 ≤ x ∧ x < m) : BelowP (xs ++ [x]) m := fun j hj => by
  rw [List.length_append, List.length_singleton] at hj
  by_cases e : j < xs.length
  · rw [zdl e]; exact h j e
  · have e2 : j = xs.length := by omega
    subst e2
    rw [zdk (Nat.le_refl _), Nat.sub_self]; exact hx
end Go.Proofs.Ytakjndmlanpadaa
