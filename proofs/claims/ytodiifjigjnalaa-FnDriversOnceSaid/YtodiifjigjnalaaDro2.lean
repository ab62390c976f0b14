/- Texts of the law FnDriversOnce, part 2: what it uses. -/
import Derived.Test.YtodiifjigjnalaaDro1
set_option linter.unusedVariables false
set_option linter.unusedSimpArgs false
set_option maxHeartbeats 4000000
set_option maxRecDepth 100000
namespace Go.Proofs.Ytodiifjigjnalaa
open Go.RowKit Go.ChangeShapes
open Go.RowKit
theorem l04Counts_ans (D : List Md) (k : Nat) (v : Value) (w : World) (hd : RdsDs w v D) :
   Calls Try.prog 150 #[.agg #[v], .int .i64 (k : Int)] w (Ans w (.bool (pB (CtsP D k)))) := by
 have hd9 := sml hd.row
 have hm9 : ∀ q, q < D.length → (D.getD q md0).ss.length ≤ 9223372036854775807 := fun q hq => by have := sml (hd.at hq).s; omega
 refine zcf (N := 101) (args := [.agg #[v], .int .i64 (k : Int)]) Try.func150 rfl rfl (srQ ?_)
 refine zdv rfl (zdp rfl rfl) ?_
 intro b1
 refine zba 1 rfl (ssrQ (hvQ rfl (fdQ 0 rfl rfl rfl) (hvQ rfl (zac rfl rfl rfl (zaa 0 rfl rfl)) (hvQ rfl (lnQ rfl rfl rfl (zag hd.row)) ?_))))
 refine zed rfl rfl rfl rfl rfl rfl (fun h2 => ?_) (fun h2 => ?_)
 ·
  refine zba 11 rfl (zaj rfl (srQ ?_))
  refine zba 1 rfl ?_
  refine zal (zae ?_)
  exact zaq rfl rfl (congrArg _ (zbx (fun hp => by first | (have := hp.lt; have := hp.cnt.len; omega) | (have h9 := hp.cnt.md i (by omega); obtain ⟨h1, h2, h3, h4⟩ := h9; omega) | (have h9 := hp.ins i (by omega); obtain ⟨⟨h1, h2⟩, h3⟩ := h9; omega))).symm)
 refine zak 2 rfl (zcb rfl rfl rfl rfl rfl rfl (fun h3 => ?_) (fun h3 => ?_))
 ·
  refine zba 8 rfl (zaj rfl (zah (reQ 1 rfl (?_))))
  refine ntQ ?_
  refine zal (zae ?_)
  exact zaq rfl rfl (congrArg _ (zbx (fun hp => by first | (have := hp.lt; have := hp.cnt.len; omega) | (have h9 := hp.cnt.md i (by omega); obtain ⟨h1, h2, h3, h4⟩ := h9; omega) | (have h9 := hp.ins i (by omega); obtain ⟨⟨h1, h2⟩, h3⟩ := h9; omega))).symm)
 refine zak 3 rfl (hvQ rfl (fdQ 0 rfl rfl rfl) (hvQ rfl (zac rfl rfl rfl (zaa 0 rfl rfl)) (hvQ rfl (lnQ rfl rfl rfl (zag hd.row)) ?_)))
 refine hl_geq rfl rfl rfl rfl rfl rfl (fun h4 => ?_) (fun h4 => ?_)
 ·
  refine zba 1 rfl (zaj rfl (zbk 1 rfl ?_))
  refine zal (zae ?_)
  exact zaq rfl rfl (congrArg _ (zbx (fun hp => by first | (have := hp.lt; have := hp.cnt.len; omega) | (have h9 := hp.cnt.md i (by omega); obtain ⟨h1, h2, h3, h4⟩ := h9; omega) | (have h9 := hp.ins i (by omega); obtain ⟨⟨h1, h2⟩, h3⟩ := h9; omega))).symm)
 refine zba 1 rfl (zap rfl (zdi (zah (zbk 1 rfl ?_))))
 refine zbh ?_
 refine lkQ1 (α := Nat) [0, 1, 2, 4, 23] rfl (fun i => [boxE b1 #[v] 26]) (fun i => [(5, .int .i64 (i : Int))]) (fun i => i ≤ D.length ∧ ∀ q, q < i → LenP (D.getD q md0)) (fun i => D.length - i) 0 ⟨Nat.zero_le _, fun q hq => absurd hq (by omega)⟩ (saQ rfl) (pfQ rfl) ?_
 intro i hi5
 obtain ⟨hi, hall⟩ := hi5
 refine zah (zah (reQ 1 rfl (hvQ rfl (fdQ 0 rfl rfl rfl) (hvQ rfl (zac rfl rfl rfl (zaa 0 rfl rfl)) (hvQ rfl (lnQ rfl rfl rfl (zag hd.row)) ?_)))))
 refine zcb rfl rfl rfl rfl rfl rfl (fun h6 => ?_) (fun h6 => ?_)
 ·
  refine ntQ (zaj rfl (zdi (sbQ (srQ (hvQ rfl (fdQ 0 rfl rfl rfl) (hvQ rfl (zac rfl rfl rfl (zaa 0 rfl rfl)) (zak 1 rfl (hvQ rfl (riQ 4 rfl rfl rfl rfl (zag hd.row)) ?_))))))))
  refine hvQ rfl (zbi (us := [(D.getD i md0).sv, (D.getD i md0).av, (D.getD i md0).iv, (D.getD i md0).mv]) rfl rfl rfl rfl (zag hd.row) (by omega) rfl (zca mdC 4 (fun _ => rfl) D md0 (show i < _ by omega) rfl)) (zdv rfl (zbj (z := .agg #[.slice none 0 0, .slice none 0 0, .slice none 0 0, .slice none 0 0]) rfl rfl) ?_)
  intro b7
  refine zbn (cs' := #[(D.getD i md0).sv, (D.getD i md0).av, (D.getD i md0).iv, (D.getD i md0).mv]) (i := 0) (off := 0) (us := [(D.getD i md0).sv, (D.getD i md0).av, (D.getD i md0).iv, (D.getD i md0).mv]) rfl rfl rfl rfl rfl rfl rfl (zad (hd.at (k := i) (by omega)).s.one (zad (hd.at (k := i) (by omega)).g.one (zad (hd.at (k := i) (by omega)).x.one (zad (hd.at (k := i) (by omega)).m.one zbg)))) rfl rfl rfl (ntQ (srQ (hvQ rfl (fdQ 0 rfl rfl rfl) (hvQ rfl (zac rfl rfl rfl (zaa 0 rfl rfl)) (hvQ rfl (lnQ rfl rfl rfl (zag ((hd.at (k := i) (by omega)).s))) ?_)))))
  refine zed rfl rfl rfl rfl rfl rfl (fun h8 => ?_) (fun h8 => ?_)
  ·
   refine zba 18 rfl (zaj rfl (zbk 1 rfl ?_))
   refine zal (zab ?_)
   refine zdx ?_
   refine zab (zae ?_)
   exact zaq rfl rfl (congrArg _ (zbx (fun hp => by first | (have := hp.lt; have := hp.cnt.len; omega) | (have h9 := hp.cnt.md i (by omega); obtain ⟨h1, h2, h3, h4⟩ := h9; omega) | (have h9 := hp.ins i (by omega); obtain ⟨⟨h1, h2⟩, h3⟩ := h9; omega))).symm)
  refine zak 1 rfl (hvQ rfl (fdQ 1 rfl rfl rfl) (hvQ rfl (zac rfl rfl rfl (zaa 0 rfl rfl)) (hvQ rfl (lnQ rfl rfl rfl (zag ((hd.at (k := i) (by omega)).g))) ?_)))
  refine zed rfl rfl rfl rfl rfl rfl (fun h9 => ?_) (fun h9 => ?_)
  ·
   refine zba 13 rfl ?_
   refine zaj rfl (zbk 1 rfl ?_)
   refine zal (zab ?_)
   refine zdx ?_
   refine zab (zae ?_)
   exact zaq rfl rfl (congrArg _ (zbx (fun hp => by first | (have := hp.lt; have := hp.cnt.len; omega) | (have h9 := hp.cnt.md i (by omega); obtain ⟨h1, h2, h3, h4⟩ := h9; omega) | (have h9 := hp.ins i (by omega); obtain ⟨⟨h1, h2⟩, h3⟩ := h9; omega))).symm)
  refine zak 2 rfl (hvQ rfl (fdQ 2 rfl rfl rfl) (hvQ rfl (zac rfl rfl rfl (zaa 0 rfl rfl)) (hvQ rfl (lnQ rfl rfl rfl (zag ((hd.at (k := i) (by omega)).x))) ?_)))
  refine zed rfl rfl rfl rfl rfl rfl (fun h10 => ?_) (fun h10 => ?_)
  ·
   refine zba 7 rfl (zaj rfl (zah (reQ 1 rfl (?_))))
   refine ntQ ?_
   refine zal (zab ?_)
   refine zdx ?_
   refine zab (zae ?_)
   exact zaq rfl rfl (congrArg _ (zbx (fun hp => by first | (have := hp.lt; have := hp.cnt.len; omega) | (have h9 := hp.cnt.md i (by omega); obtain ⟨h1, h2, h3, h4⟩ := h9; omega) | (have h9 := hp.ins i (by omega); obtain ⟨⟨h1, h2⟩, h3⟩ := h9; omega))).symm)
  refine zak 2 rfl (hvQ rfl (fdQ 3 rfl rfl rfl) (hvQ rfl (zac rfl rfl rfl (zaa 0 rfl rfl)) (hvQ rfl (lnQ rfl rfl rfl (zag ((hd.at (k := i) (by omega)).m))) ?_)))
  refine zed rfl rfl rfl rfl rfl rfl (fun h11 => ?_) (fun h11 => ?_)
  ·
   refine zba 1 rfl (zaj rfl (zbk 1 rfl ?_))
   refine zal (zab ?_)
   refine zdx ?_
   refine zab (zae ?_)
   exact zaq rfl rfl (congrArg _ (zbx (fun hp => by first | (have := hp.lt; have := hp.cnt.len; omega) | (have h9 := hp.cnt.md i (by omega); obtain ⟨h1, h2, h3, h4⟩ := h9; omega) | (have h9 := hp.ins i (by omega); obtain ⟨⟨h1, h2⟩, h3⟩ := h9; omega))).symm)
  refine zba 1 rfl (fsQ rfl (zdq (reQ 1 rfl (hvQ rfl (vaQ rfl rfl rfl) (enQ 1 rfl ?_)))))
  exact zbw (i + 1) ⟨by omega, fun q hq => by by_cases e : q = i; (subst e; exact ⟨by omega, by omega, by omega, by omega⟩); exact hall q (by omega)⟩ (by omega) (saQ rfl) (slQ [1] rfl)
 refine ntQ (zap rfl ?_)
 refine zbv (zep ?_)
 refine zan (zbf (zah (zbk 1 rfl (zbh ?_))))
 refine lkQ1 (α := Nat) [0, 1, 2, 4, 23, 28] rfl (fun i => [boxE b1 #[v] 26]) (fun i => [(7, .int .i64 (i : Int))]) (fun i => i ≤ (D.getD k md0).xs.length ∧ ∀ q, q < i → InsOk D k q) (fun i => (D.getD k md0).xs.length - i) 0 ⟨Nat.zero_le _, fun q hq => absurd hq (by omega)⟩ (saQ rfl) (pfQ rfl) ?_
 intro i hi12
 obtain ⟨hi, hins⟩ := hi12
 have hcnt : CntP D := ⟨by omega, fun q hq => hall q (by omega)⟩
 have hxl := (hcnt.md k (by omega)).2.2.1
 refine zah (zah (reQ 1 rfl (hvQ rfl (fdQ 0 rfl rfl rfl) (hvQ rfl (zac rfl rfl rfl (zaa 0 rfl rfl)) (zak 1 rfl (hvQ rfl (riQ 4 rfl rfl rfl rfl (zag hd.row)) (hvQ rfl (zbe (k0 := 2) rfl rfl rfl (zag hd.row) (by omega)) ?_)))))))
 refine hvQ rfl (zat (u := (D.getD k md0).iv) rfl rfl rfl (zag hd.row) ((zce mdC 4 (fun _ => rfl) D md0 (show k < _ by omega) (by decide)).trans rfl)) (hvQ rfl (lnQ rfl rfl rfl (zag ((hd.at (k := k) (by omega)).x))) ?_)
 refine zcb rfl rfl rfl rfl rfl rfl (fun h13 => ?_) (fun h13 => ?_)
 ·
  refine ntQ (zaj rfl (zdi (sbQ (srQ (hvQ rfl (fdQ 0 rfl rfl rfl) (hvQ rfl (zac rfl rfl rfl (zaa 0 rfl rfl)) (zak 1 rfl (hvQ rfl (riQ 4 rfl rfl rfl rfl (zag hd.row)) ?_))))))))
  refine hvQ rfl (zbe (k0 := 2) rfl rfl rfl (zag hd.row) (by omega)) (hvQ rfl (zat (u := (D.getD k md0).iv) rfl rfl rfl (zag hd.row) ((zce mdC 4 (fun _ => rfl) D md0 (show k < _ by omega) (by decide)).trans rfl)) ?_)
  refine zak 1 rfl (hvQ rfl (riQ 3 rfl rfl rfl rfl (zag ((hd.at (k := k) (by omega)).x))) ?_)
  refine hvQ rfl (zbi (us := [.int .i64 ((((D.getD k md0).xs).getD i ix0).m), .int .i64 ((((D.getD k md0).xs).getD i ix0).p), (((D.getD k md0).xs).getD i ix0).pv]) rfl rfl rfl rfl (zag ((hd.at (k := k) (by omega)).x)) (by omega) rfl (zca ixC 3 (fun _ => rfl) ((D.getD k md0).xs) ix0 (show i < _ by omega) rfl)) (zdv rfl (zbj (z := .agg #[.int .i64 0, .int .i64 0, .slice none 0 0]) rfl rfl) ?_)
  intro b14
  refine zbn (cs' := #[.int .i64 ((((D.getD k md0).xs).getD i ix0).m), .int .i64 ((((D.getD k md0).xs).getD i ix0).p), (((D.getD k md0).xs).getD i ix0).pv]) (i := 0) (off := 0) (us := [.int .i64 ((((D.getD k md0).xs).getD i ix0).m), .int .i64 ((((D.getD k md0).xs).getD i ix0).p), (((D.getD k md0).xs).getD i ix0).pv]) rfl rfl rfl rfl rfl rfl rfl (zad rfl (zad rfl (zad ((hd.at (k := k) (by omega)).p.at (k := i) (by omega)).one zbg))) rfl rfl rfl (ntQ (zah ?_))
  rcases Bool.eq_false_or_eq_true (decide ((((D.getD k md0).xs).getD i ix0).m < 0)) with hb15 | hb15
  ·
   have hb15p : (((D.getD k md0).xs).getD i ix0).m < 0 := of_decide_eq_true hb15
   refine zcs 23 [[], [0], [1], [2], [3], [3], [3], [3], [3, 7], [8], [9], [9], [9], [9], [9], [9], [9], [9], [9], [9], [9], [9], [9, 21]] [78, 79, 80, 81, 82, 83, 84, 85, 86, 87, 88, 89, 90, 91, 92, 93, 94, 95, 96, 97, 98, 99, 100] [.pointer (some ⟨b14, 0 + 0, none⟩), .int .i64 ((((D.getD k md0).xs).getD i ix0).m), .bool true, .bool true, undef, undef, undef, undef, .bool true, .bool true, undef, undef, undef, undef, undef, undef, undef, undef, undef, undef, undef, undef, .bool true] (by kernel_rfl) rfl ?_ ?_
   ·
    exact ⟨iaQ rfl (fdQ 0 rfl rfl rfl) rfl, iaQ rfl (zac rfl rfl rfl (zaa 0 rfl rfl)) rfl, .inl ⟨rfl, zes (zcu rfl rfl rfl rfl) hb15⟩, iaQ rfl (zay rfl) rfl, .inr ⟨rfl, rfl⟩, .inr ⟨rfl, rfl⟩, .inr ⟨rfl, rfl⟩, .inr ⟨rfl, rfl⟩, iaQ rfl (zay rfl) rfl, iaQ rfl (zay rfl) rfl, .inr ⟨rfl, rfl⟩, .inr ⟨rfl, rfl⟩, .inr ⟨rfl, rfl⟩, .inr ⟨rfl, rfl⟩, .inr ⟨rfl, rfl⟩, .inr ⟨rfl, rfl⟩, .inr ⟨rfl, rfl⟩, .inr ⟨rfl, rfl⟩, .inr ⟨rfl, rfl⟩, .inr ⟨rfl, rfl⟩, .inr ⟨rfl, rfl⟩, .inr ⟨rfl, rfl⟩, iaQ rfl (zay rfl) rfl, trivial⟩
   simp only [List.drop_succ_cons, List.drop_zero]
   refine ntQ (zaj rfl (zbk 1 rfl ?_))
   refine zal (zab ?_)
   refine zdx ?_
   refine zab (zae ?_)
   exact zaq rfl rfl (congrArg _ (zbx (fun hp => by first | (have := hp.lt; have := hp.cnt.len; omega) | (have h9 := hp.cnt.md i (by omega); obtain ⟨h1, h2, h3, h4⟩ := h9; omega) | (have h9 := hp.ins i (by omega); obtain ⟨⟨h1, h2⟩, h3⟩ := h9; omega))).symm)
  have hb15p : ¬ ((((D.getD k md0).xs).getD i ix0).m < 0) := of_decide_eq_false hb15
  rcases Bool.eq_false_or_eq_true (decide ((k : Int) ≤ (((D.getD k md0).xs).getD i ix0).m)) with hb16 | hb16
  ·
   have hb16p : (k : Int) ≤ (((D.getD k md0).xs).getD i ix0).m := of_decide_eq_true hb16
   refine zcs 23 [[], [0], [1], [2], [3], [3, 4], [3], [3, 5, 6], [3, 7], [8], [9], [9], [9], [9], [9], [9], [9], [9], [9], [9], [9], [9], [9, 21]] [78, 79, 80, 81, 82, 83, 84, 85, 86, 87, 88, 89, 90, 91, 92, 93, 94, 95, 96, 97, 98, 99, 100] [.pointer (some ⟨b14, 0 + 0, none⟩), .int .i64 ((((D.getD k md0).xs).getD i ix0).m), .bool false, .bool false, .pointer (some ⟨b14, 0 + 0, none⟩), .int .i64 ((((D.getD k md0).xs).getD i ix0).m), .int .i64 (k : Int), .bool true, .bool true, .bool true, undef, undef, undef, undef, undef, undef, undef, undef, undef, undef, undef, undef, .bool true] (by kernel_rfl) rfl ?_ ?_
   ·
    exact ⟨iaQ rfl (fdQ 0 rfl rfl rfl) rfl, iaQ rfl (zac rfl rfl rfl (zaa 0 rfl rfl)) rfl, .inl ⟨rfl, zes (zcu rfl rfl rfl rfl) hb15⟩, iaQ rfl (zay rfl) rfl, iaQ rfl (fdQ 0 rfl rfl rfl) rfl, iaQ rfl (zac rfl rfl rfl (zaa 0 rfl rfl)) rfl, iaQ rfl (zay rfl) rfl, .inl ⟨rfl, zes (zcu rfl rfl rfl rfl) hb16⟩, iaQ rfl (zay rfl) rfl, iaQ rfl (zay rfl) rfl, .inr ⟨rfl, rfl⟩, .inr ⟨rfl, rfl⟩, .inr ⟨rfl, rfl⟩, .inr ⟨rfl, rfl⟩, .inr ⟨rfl, rfl⟩, .inr ⟨rfl, rfl⟩, .inr ⟨rfl, rfl⟩, .inr ⟨rfl, rfl⟩, .inr ⟨rfl, rfl⟩, .inr ⟨rfl, rfl⟩, .inr ⟨rfl, rfl⟩, .inr ⟨rfl, rfl⟩, iaQ rfl (zay rfl) rfl, trivial⟩
   simp only [List.drop_succ_cons, List.drop_zero]
   refine ntQ (zaj rfl (zbk 1 rfl ?_))
   refine zal (zab ?_)
   refine zdx ?_
   refine zab (zae ?_)
   exact zaq rfl rfl (congrArg _ (zbx (fun hp => by first | (have := hp.lt; have := hp.cnt.len; omega) | (have h9 := hp.cnt.md i (by omega); obtain ⟨h1, h2, h3, h4⟩ := h9; omega) | (have h9 := hp.ins i (by omega); obtain ⟨⟨h1, h2⟩, h3⟩ := h9; omega))).symm)
  have hb16p : ¬ ((k : Int) ≤ (((D.getD k md0).xs).getD i ix0).m) := of_decide_eq_false hb16
  rcases Bool.eq_false_or_eq_true ((((((D.getD k md0).xs).getD i ix0).ps).length : Int) != ((ptsK (D.getD (((((D.getD k md0).xs).getD i ix0).m).toNat) md0)).length : Int)) with hb20 | hb20
  ·
   have hb20p : (((((D.getD k md0).xs).getD i ix0).ps).length : Int) ≠ ((ptsK (D.getD (((((D.getD k md0).xs).getD i ix0).m).toNat) md0)).length : Int) := bne_iff_ne.1 hb20
   refine hc_draw rfl 23 [0, 1, 2, 3, 4, 5, 6, 7, 8, 9, 10, 11, 12, 13, 14, 15, 16, 17, 18, 19, 20, 21, 22] (List.take 23 _) (List.drop 23 _) [[], [0], [1], [2], [3], [3, 4], [3], [3, 5, 6], [3, 7], [8], [9], [9, 10], [9, 11], [9], [9, 13], [9], [9, 15], [9, 14, 16], [9, 17], [9, 18], [9, 19], [9, 12, 19, 20], [9, 21]] [78, 79, 80, 81, 82, 83, 84, 85, 86, 87, 88, 89, 90, 91, 92, 93, 94, 95, 96, 97, 98, 99, 100] (fun i_ vs_ v_ p_ => match i_ with | 0 => v_ = .pointer (some ⟨b14, 0 + 0, none⟩) ∧ p_ = [] | 1 => v_ = .int .i64 ((((D.getD k md0).xs).getD i ix0).m) ∧ p_ = [] | 2 => v_ = .bool false ∧ p_ = [] | 3 => v_ = .bool false ∧ p_ = [] | 4 => v_ = .pointer (some ⟨b14, 0 + 0, none⟩) ∧ p_ = [] | 5 => v_ = .int .i64 ((((D.getD k md0).xs).getD i ix0).m) ∧ p_ = [] | 6 => v_ = .int .i64 (k : Int) ∧ p_ = [] | 7 => v_ = .bool false ∧ p_ = [] | 8 => v_ = .bool false ∧ p_ = [] | 9 => v_ = .bool false ∧ p_ = [] | 10 => v_ = .pointer (some ⟨b14, 0 + 2, none⟩) ∧ p_ = [] | 11 => v_ = (((D.getD k md0).xs).getD i ix0).pv ∧ p_ = [] | 12 => v_ = .int .i64 (((((D.getD k md0).xs).getD i ix0).ps).length : Int) ∧ p_ = [] | 13 => v_ = .pointer (some ⟨b1, 0 + 0, none⟩) ∧ p_ = [] | 14 => v_ = v ∧ p_ = [] | 15 => v_ = .pointer (some ⟨b14, 0 + 0, none⟩) ∧ p_ = [] | 16 => v_ = .int .i64 ((((D.getD k md0).xs).getD i ix0).m) ∧ p_ = [] | 17 => v_ = elP v (((((D.getD k md0).xs).getD i ix0).m).toNat * 4) ∧ p_ = [] | 18 => v_ = .agg #[(D.getD (((((D.getD k md0).xs).getD i ix0).m).toNat) md0).sv, (D.getD (((((D.getD k md0).xs).getD i ix0).m).toNat) md0).av, (D.getD (((((D.getD k md0).xs).getD i ix0).m).toNat) md0).iv, (D.getD (((((D.getD k md0).xs).getD i ix0).m).toNat) md0).mv] ∧ p_ = [] | 19 => (fun v' post => post = [rowE 3 1 v' ((ptsK (D.getD (((((D.getD k md0).xs).getD i ix0).m).toNat) md0))).length (((ptsK (D.getD (((((D.getD k md0).xs).getD i ix0).m).toNat) md0))).map (Value.int .i64))]) v_ p_ | 20 => v_ = .int .i64 ((ptsK (D.getD (((((D.getD k md0).xs).getD i ix0).m).toNat) md0)).length : Int) ∧ p_ = [] | 21 => v_ = .bool true ∧ p_ = [] | 22 => v_ = .bool true ∧ p_ = [] | _ => True) (List.take_append_drop 23 _).symm (by kernel_rfl) (by kernel_rfl) rfl rfl ?_ ?_
   ·
    refine ⟨?_, ?_, ?_, ?_, ?_, ?_, ?_, ?_, ?_, ?_, ?_, ?_, ?_, ?_, ?_, ?_, ?_, ?_, ?_, ?_, ?_, ?_, ?_, trivial⟩
    ·
     intro vf pf hR
     exact ovQ rfl (zao [8] rfl) (zbq (fdQ 0 rfl rfl rfl))
    ·
     intro vf pf hR
     have e0 := hR 0 (by decide)
     exact olQ rfl (sk 78 (congrArg some e0.1) (zaf _)) (zbq (zac rfl rfl rfl (zaa 0 rfl rfl)))
    ·
     intro vf pf hR
     have e1 := hR 1 (by decide)
     exact ovQ rfl (sk 79 (congrArg some e1.1) (zaf _)) (zcc (zbq (zcu rfl rfl rfl rfl)) (fun _ _ h => ⟨h.1.trans (congrArg Value.bool hb15), h.2⟩))
    ·
     intro vf pf hR
     have e2 := hR 2 (by decide)
     exact ovQ rfl (sk 80 (congrArg some e2.1) (zaf _)) (zbq (zay rfl))
    ·
     intro vf pf hR
     have e3 := hR 3 (by decide)
     refine Or.inl ⟨zbo (congrArg some e3.1) rfl, ?_⟩
     exact zbr (zao [8] rfl) (zbq (fdQ 0 rfl rfl rfl))
    ·
     intro vf pf hR
     have e3 := hR 3 (by decide)
     have e4 := hR 4 (by decide)
     refine Or.inl ⟨zbo (congrArg some e3.1) rfl, ?_⟩
     exact zaz (sk 82 (congrArg some e4.1) (zaf _)) (List.sublist_append_right _ _) (zbq (zac rfl rfl rfl (zaa 0 rfl rfl)))
    ·
     intro vf pf hR
     have e3 := hR 3 (by decide)
     refine Or.inl ⟨zbo (congrArg some e3.1) rfl, ?_⟩
     exact zbr (zao [1] rfl) (zbq (zay rfl))
    ·
     intro vf pf hR
     have e3 := hR 3 (by decide)
     have e5 := hR 5 (by decide)
     have e6 := hR 6 (by decide)
     refine Or.inl ⟨zbo (congrArg some e3.1) rfl, ?_⟩
     exact zbr (sk 83 (congrArg some e5.1) (sk 84 (congrArg some e6.1) (zaf _))) (zcc (zbq (zcu rfl rfl rfl rfl)) (fun _ _ h => ⟨h.1.trans (congrArg Value.bool hb16), h.2⟩))
    ·
     intro vf pf hR
     have e3 := hR 3 (by decide)
     have e7 := hR 7 (by decide)
     exact ovQ rfl (sk 81 (congrArg some e3.1) (sk 85 (congrArg some e7.1) (zaf _))) (zbq (zay rfl))
    ·
     intro vf pf hR
     have e8 := hR 8 (by decide)
     exact ovQ rfl (sk 86 (congrArg some e8.1) (zaf _)) (zbq (zay rfl))
    ·
     intro vf pf hR
     have e9 := hR 9 (by decide)
     refine Or.inl ⟨zbo (congrArg some e9.1) rfl, ?_⟩
     exact zbr (zao [8] rfl) (zbq (fdQ 2 rfl rfl rfl))
    ·
     intro vf pf hR
     have e9 := hR 9 (by decide)
     have e10 := hR 10 (by decide)
     refine Or.inl ⟨zbo (congrArg some e9.1) rfl, ?_⟩
     exact zaz (sk 88 (congrArg some e10.1) (zaf _)) (List.sublist_append_right _ _) (zbq (zac rfl rfl rfl (zaa 0 rfl rfl)))
    ·
     intro vf pf hR
     have e9 := hR 9 (by decide)
     have e11 := hR 11 (by decide)
     refine Or.inl ⟨zbo (congrArg some e9.1) rfl, ?_⟩
     exact zaz (sk 89 (congrArg some e11.1) (zaf _)) (List.sublist_append_right _ _) (zbq (lnQ rfl rfl rfl (zag ((hd.at (k := k) (by omega)).p.at (k := i) (by omega)))))
    ·
     intro vf pf hR
     have e9 := hR 9 (by decide)
     refine Or.inl ⟨zbo (congrArg some e9.1) rfl, ?_⟩
     exact zbr (zao [2] rfl) (zbq (fdQ 0 rfl rfl rfl))
    ·
     intro vf pf hR
     have e9 := hR 9 (by decide)
     have e13 := hR 13 (by decide)
     refine Or.inl ⟨zbo (congrArg some e9.1) rfl, ?_⟩
     exact zaz (sk 91 (congrArg some e13.1) (zaf _)) (List.sublist_append_right _ _) (zbq (zac rfl rfl rfl (zaa 1 rfl rfl)))
    ·
     intro vf pf hR
     have e9 := hR 9 (by decide)
     refine Or.inl ⟨zbo (congrArg some e9.1) rfl, ?_⟩
     exact zbr (zao [8] rfl) (zbq (fdQ 0 rfl rfl rfl))
    ·
     intro vf pf hR
     have e9 := hR 9 (by decide)
     have e15 := hR 15 (by decide)
     refine Or.inl ⟨zbo (congrArg some e9.1) rfl, ?_⟩
     exact zaz (sk 93 (congrArg some e15.1) (zaf _)) (List.sublist_append_right _ _) (zbq (zac rfl rfl rfl (zaa 0 rfl rfl)))
    ·
     intro vf pf hR
     have e9 := hR 9 (by decide)
     have e14 := hR 14 (by decide)
     have e16 := hR 16 (by decide)
     refine Or.inl ⟨zbo (congrArg some e9.1) rfl, ?_⟩
     exact zaz (sk 92 (congrArg some e14.1) (sk 94 (congrArg some e16.1) (zaf _))) (List.sublist_append_right _ _) (zbq (riQ 4 rfl rfl rfl rfl (zag hd.row)))
    ·
     intro vf pf hR
     have e9 := hR 9 (by decide)
     have e17 := hR 17 (by decide)
     refine Or.inl ⟨zbo (congrArg some e9.1) rfl, ?_⟩
     exact zaz (sk 95 (congrArg some e17.1) (zaf _)) (List.sublist_append_right _ _) (zbq (zbi (us := [(D.getD (((((D.getD k md0).xs).getD i ix0).m).toNat) md0).sv, (D.getD (((((D.getD k md0).xs).getD i ix0).m).toNat) md0).av, (D.getD (((((D.getD k md0).xs).getD i ix0).m).toNat) md0).iv, (D.getD (((((D.getD k md0).xs).getD i ix0).m).toNat) md0).mv]) rfl rfl rfl rfl (zag hd.row) (by omega) rfl (zca mdC 4 (fun _ => rfl) D md0 (show ((((D.getD k md0).xs).getD i ix0).m).toNat < _ by omega) rfl)))
    ·
     intro vf pf hR
     have e9 := hR 9 (by decide)
     have e18 := hR 18 (by decide)
     refine Or.inl ⟨zbo (congrArg some e9.1) rfl, ?_⟩
     exact zaz (sk 96 (congrArg some e18.1) (zaf _)) (List.sublist_append_right _ _) (zar rfl rfl (fun w hm => zdj (D.getD (((((D.getD k md0).xs).getD i ix0).m).toNat) md0) w ((hd.at (by omega)).below hm.bel)))
    ·
     intro vf pf hR
     have e9 := hR 9 (by decide)
     have e19 : (fun v' post => post = [rowE 3 1 v' ((ptsK (D.getD (((((D.getD k md0).xs).getD i ix0).m).toNat) md0))).length (((ptsK (D.getD (((((D.getD k md0).xs).getD i ix0).m).toNat) md0))).map (Value.int .i64))]) (vf 19) (pf 19) := hR 19 (by decide)
     obtain ⟨v21, vE19⟩ : ∃ x, vf 19 = x := ⟨_, rfl⟩
     obtain ⟨p22, pE19⟩ : ∃ x, pf 19 = x := ⟨_, rfl⟩
     have hR23 := e19
     rw [vE19, pE19] at hR23
     subst hR23
     refine Or.inl ⟨zbo (congrArg some e9.1) rfl, ?_⟩
     exact zcd (sk 97 (congrArg some vE19) (zaf _)) (by simp only [pE19, vE19, e9.2, fS] <;> rfl) (zbq (lnQ rfl rfl rfl (zam 0 rfl)))
    ·
     intro vf pf hR
     have e9 := hR 9 (by decide)
     have e12 := hR 12 (by decide)
     have e19 : (fun v' post => post = [rowE 3 1 v' ((ptsK (D.getD (((((D.getD k md0).xs).getD i ix0).m).toNat) md0))).length (((ptsK (D.getD (((((D.getD k md0).xs).getD i ix0).m).toNat) md0))).map (Value.int .i64))]) (vf 19) (pf 19) := hR 19 (by decide)
     obtain ⟨v21, vE19⟩ : ∃ x, vf 19 = x := ⟨_, rfl⟩
     obtain ⟨p22, pE19⟩ : ∃ x, pf 19 = x := ⟨_, rfl⟩
     have hR23 := e19
     rw [vE19, pE19] at hR23
     subst hR23
     have e20 := hR 20 (by decide)
     refine Or.inl ⟨zbo (congrArg some e9.1) rfl, ?_⟩
     exact zcd (sk 90 (congrArg some e12.1) (sk 98 (congrArg some e20.1) (zaf _))) (by simp only [pE19, vE19, e9.2, e12.2, e20.2, fS] <;> rfl) (zcc (zbq (zcu rfl rfl rfl rfl)) (fun _ _ h => ⟨h.1.trans (congrArg Value.bool hb20), h.2⟩))
    intro vf pf hR
    have e9 := hR 9 (by decide)
    have e21 := hR 21 (by decide)
    exact ovQ rfl (sk 87 (congrArg some e9.1) (sk 99 (congrArg some e21.1) (zaf _))) (zbq (zay rfl))
   intro vf pf hR
   have e19 : (fun v' post => post = [rowE 3 1 v' ((ptsK (D.getD (((((D.getD k md0).xs).getD i ix0).m).toNat) md0))).length (((ptsK (D.getD (((((D.getD k md0).xs).getD i ix0).m).toNat) md0))).map (Value.int .i64))]) (vf 19) (pf 19) := hR 19 (by decide)
   obtain ⟨v21, vE19⟩ : ∃ x, vf 19 = x := ⟨_, rfl⟩
   obtain ⟨p22, pE19⟩ : ∃ x, pf 19 = x := ⟨_, rfl⟩
   have hR23 := e19
   rw [vE19, pE19] at hR23
   subst hR23
   have e22 := hR 22 (by decide)
   have q0 := hR 0 (by decide)
   have q1 := hR 1 (by decide)
   have q2 := hR 2 (by decide)
   have q3 := hR 3 (by decide)
   have q4 := hR 4 (by decide)
   have q5 := hR 5 (by decide)
   have q6 := hR 6 (by decide)
   have q7 := hR 7 (by decide)
   have q8 := hR 8 (by decide)
   have q9 := hR 9 (by decide)
   have q10 := hR 10 (by decide)
   have q11 := hR 11 (by decide)
   have q12 := hR 12 (by decide)
   have q13 := hR 13 (by decide)
   have q14 := hR 14 (by decide)
   have q15 := hR 15 (by decide)
   have q16 := hR 16 (by decide)
   have q17 := hR 17 (by decide)
   have q18 := hR 18 (by decide)
   have q20 := hR 20 (by decide)
   have q21 := hR 21 (by decide)
   have q22 := hR 22 (by decide)
   refine zcr (zcg [66, 28, 23, 8, 7, 4, 2, 1, 0] _ (sk 100 (congrArg some e22.1) (zaf _)) rfl) (by simp only [pE19, vE19, q0.2, q1.2, q2.2, q3.2, q4.2, q5.2, q6.2, q7.2, q8.2, q9.2, q10.2, q11.2, q12.2, q13.2, q14.2, q15.2, q16.2, q17.2, q18.2, q20.2, q21.2, q22.2, fS] <;> rfl) ?_
   simp only [List.drop_succ_cons, List.drop_zero]
   refine ntQ (zaj rfl (zbk 1 rfl ?_))
   refine zal (zab ?_)
   refine zdx ?_
   refine zab (zae ?_)
   exact zaq rfl rfl (congrArg _ (zbx (fun hp => by first | (have := hp.lt; have := hp.cnt.len; omega) | (have h9 := hp.cnt.md i (by omega); obtain ⟨h1, h2, h3, h4⟩ := h9; omega) | (have h9 := hp.ins i (by omega); obtain ⟨⟨h1, h2⟩, h3⟩ := h9; omega))).symm)
  have hb20p : (((((D.getD k md0).xs).getD i ix0).ps).length : Int) = ((ptsK (D.getD (((((D.getD k md0).xs).getD i ix0).m).toNat) md0)).length : Int) := (bne_eq_false_iff_eq.1 hb20)
  refine hc_draw rfl 23 [0, 1, 2, 3, 4, 5, 6, 7, 8, 9, 10, 11, 12, 13, 14, 15, 16, 17, 18, 19, 20, 21, 22] (List.take 23 _) (List.drop 23 _) [[], [0], [1], [2], [3], [3, 4], [3], [3, 5, 6], [3, 7], [8], [9], [9, 10], [9, 11], [9], [9, 13], [9], [9, 15], [9, 14, 16], [9, 17], [9, 18], [9, 19], [9, 12, 19, 20], [9, 21]] [78, 79, 80, 81, 82, 83, 84, 85, 86, 87, 88, 89, 90, 91, 92, 93, 94, 95, 96, 97, 98, 99, 100] (fun i_ vs_ v_ p_ => match i_ with | 0 => v_ = .pointer (some ⟨b14, 0 + 0, none⟩) ∧ p_ = [] | 1 => v_ = .int .i64 ((((D.getD k md0).xs).getD i ix0).m) ∧ p_ = [] | 2 => v_ = .bool false ∧ p_ = [] | 3 => v_ = .bool false ∧ p_ = [] | 4 => v_ = .pointer (some ⟨b14, 0 + 0, none⟩) ∧ p_ = [] | 5 => v_ = .int .i64 ((((D.getD k md0).xs).getD i ix0).m) ∧ p_ = [] | 6 => v_ = .int .i64 (k : Int) ∧ p_ = [] | 7 => v_ = .bool false ∧ p_ = [] | 8 => v_ = .bool false ∧ p_ = [] | 9 => v_ = .bool false ∧ p_ = [] | 10 => v_ = .pointer (some ⟨b14, 0 + 2, none⟩) ∧ p_ = [] | 11 => v_ = (((D.getD k md0).xs).getD i ix0).pv ∧ p_ = [] | 12 => v_ = .int .i64 (((((D.getD k md0).xs).getD i ix0).ps).length : Int) ∧ p_ = [] | 13 => v_ = .pointer (some ⟨b1, 0 + 0, none⟩) ∧ p_ = [] | 14 => v_ = v ∧ p_ = [] | 15 => v_ = .pointer (some ⟨b14, 0 + 0, none⟩) ∧ p_ = [] | 16 => v_ = .int .i64 ((((D.getD k md0).xs).getD i ix0).m) ∧ p_ = [] | 17 => v_ = elP v (((((D.getD k md0).xs).getD i ix0).m).toNat * 4) ∧ p_ = [] | 18 => v_ = .agg #[(D.getD (((((D.getD k md0).xs).getD i ix0).m).toNat) md0).sv, (D.getD (((((D.getD k md0).xs).getD i ix0).m).toNat) md0).av, (D.getD (((((D.getD k md0).xs).getD i ix0).m).toNat) md0).iv, (D.getD (((((D.getD k md0).xs).getD i ix0).m).toNat) md0).mv] ∧ p_ = [] | 19 => (fun v' post => post = [rowE 3 1 v' ((ptsK (D.getD (((((D.getD k md0).xs).getD i ix0).m).toNat) md0))).length (((ptsK (D.getD (((((D.getD k md0).xs).getD i ix0).m).toNat) md0))).map (Value.int .i64))]) v_ p_ | 20 => v_ = .int .i64 ((ptsK (D.getD (((((D.getD k md0).xs).getD i ix0).m).toNat) md0)).length : Int) ∧ p_ = [] | 21 => v_ = .bool false ∧ p_ = [] | 22 => v_ = .bool false ∧ p_ = [] | _ => True) (List.take_append_drop 23 _).symm (by kernel_rfl) (by kernel_rfl) rfl rfl ?_ ?_
  ·
   refine ⟨?_, ?_, ?_, ?_, ?_, ?_, ?_, ?_, ?_, ?_, ?_, ?_, ?_, ?_, ?_, ?_, ?_, ?_, ?_, ?_, ?_, ?_, ?_, trivial⟩
   ·
    intro vf pf hR
    exact ovQ rfl (zao [8] rfl) (zbq (fdQ 0 rfl rfl rfl))
   ·
    intro vf pf hR
    have e0 := hR 0 (by decide)
    exact olQ rfl (sk 78 (congrArg some e0.1) (zaf _)) (zbq (zac rfl rfl rfl (zaa 0 rfl rfl)))
   ·
    intro vf pf hR
    have e1 := hR 1 (by decide)
    exact ovQ rfl (sk 79 (congrArg some e1.1) (zaf _)) (zcc (zbq (zcu rfl rfl rfl rfl)) (fun _ _ h => ⟨h.1.trans (congrArg Value.bool hb15), h.2⟩))
   ·
    intro vf pf hR
    have e2 := hR 2 (by decide)
    exact ovQ rfl (sk 80 (congrArg some e2.1) (zaf _)) (zbq (zay rfl))
   ·
    intro vf pf hR
    have e3 := hR 3 (by decide)
    refine Or.inl ⟨zbo (congrArg some e3.1) rfl, ?_⟩
    exact zbr (zao [8] rfl) (zbq (fdQ 0 rfl rfl rfl))
   ·
    intro vf pf hR
    have e3 := hR 3 (by decide)
    have e4 := hR 4 (by decide)
    refine Or.inl ⟨zbo (congrArg some e3.1) rfl, ?_⟩
    exact zaz (sk 82 (congrArg some e4.1) (zaf _)) (List.sublist_append_right _ _) (zbq (zac rfl rfl rfl (zaa 0 rfl rfl)))
   ·
    intro vf pf hR
    have e3 := hR 3 (by decide)
    refine Or.inl ⟨zbo (congrArg some e3.1) rfl, ?_⟩
    exact zbr (zao [1] rfl) (zbq (zay rfl))
   ·
    intro vf pf hR
    have e3 := hR 3 (by decide)
    have e5 := hR 5 (by decide)
    have e6 := hR 6 (by decide)
    refine Or.inl ⟨zbo (congrArg some e3.1) rfl, ?_⟩
    exact zbr (sk 83 (congrArg some e5.1) (sk 84 (congrArg some e6.1) (zaf _))) (zcc (zbq (zcu rfl rfl rfl rfl)) (fun _ _ h => ⟨h.1.trans (congrArg Value.bool hb16), h.2⟩))
   ·
    intro vf pf hR
    have e3 := hR 3 (by decide)
    have e7 := hR 7 (by decide)
    exact ovQ rfl (sk 81 (congrArg some e3.1) (sk 85 (congrArg some e7.1) (zaf _))) (zbq (zay rfl))
   ·
    intro vf pf hR
    have e8 := hR 8 (by decide)
    exact ovQ rfl (sk 86 (congrArg some e8.1) (zaf _)) (zbq (zay rfl))
   ·
    intro vf pf hR
    have e9 := hR 9 (by decide)
    refine Or.inl ⟨zbo (congrArg some e9.1) rfl, ?_⟩
    exact zbr (zao [8] rfl) (zbq (fdQ 2 rfl rfl rfl))
   ·
    intro vf pf hR
    have e9 := hR 9 (by decide)
    have e10 := hR 10 (by decide)
    refine Or.inl ⟨zbo (congrArg some e9.1) rfl, ?_⟩
    exact zaz (sk 88 (congrArg some e10.1) (zaf _)) (List.sublist_append_right _ _) (zbq (zac rfl rfl rfl (zaa 0 rfl rfl)))
   ·
    intro vf pf hR
    have e9 := hR 9 (by decide)
    have e11 := hR 11 (by decide)
    refine Or.inl ⟨zbo (congrArg some e9.1) rfl, ?_⟩
    exact zaz (sk 89 (congrArg some e11.1) (zaf _)) (List.sublist_append_right _ _) (zbq (lnQ rfl rfl rfl (zag ((hd.at (k := k) (by omega)).p.at (k := i) (by omega)))))
   ·
    intro vf pf hR
    have e9 := hR 9 (by decide)
    refine Or.inl ⟨zbo (congrArg some e9.1) rfl, ?_⟩
    exact zbr (zao [2] rfl) (zbq (fdQ 0 rfl rfl rfl))
   ·
    intro vf pf hR
    have e9 := hR 9 (by decide)
    have e13 := hR 13 (by decide)
    refine Or.inl ⟨zbo (congrArg some e9.1) rfl, ?_⟩
    exact zaz (sk 91 (congrArg some e13.1) (zaf _)) (List.sublist_append_right _ _) (zbq (zac rfl rfl rfl (zaa 1 rfl rfl)))
   ·
    intro vf pf hR
    have e9 := hR 9 (by decide)
    refine Or.inl ⟨zbo (congrArg some e9.1) rfl, ?_⟩
    exact zbr (zao [8] rfl) (zbq (fdQ 0 rfl rfl rfl))
   ·
    intro vf pf hR
    have e9 := hR 9 (by decide)
    have e15 := hR 15 (by decide)
    refine Or.inl ⟨zbo (congrArg some e9.1) rfl, ?_⟩
    exact zaz (sk 93 (congrArg some e15.1) (zaf _)) (List.sublist_append_right _ _) (zbq (zac rfl rfl rfl (zaa 0 rfl rfl)))
   ·
    intro vf pf hR
    have e9 := hR 9 (by decide)
    have e14 := hR 14 (by decide)
    have e16 := hR 16 (by decide)
    refine Or.inl ⟨zbo (congrArg some e9.1) rfl, ?_⟩
    exact zaz (sk 92 (congrArg some e14.1) (sk 94 (congrArg some e16.1) (zaf _))) (List.sublist_append_right _ _) (zbq (riQ 4 rfl rfl rfl rfl (zag hd.row)))
   ·
    intro vf pf hR
    have e9 := hR 9 (by decide)
    have e17 := hR 17 (by decide)
    refine Or.inl ⟨zbo (congrArg some e9.1) rfl, ?_⟩
    exact zaz (sk 95 (congrArg some e17.1) (zaf _)) (List.sublist_append_right _ _) (zbq (zbi (us := [(D.getD (((((D.getD k md0).xs).getD i ix0).m).toNat) md0).sv, (D.getD (((((D.getD k md0).xs).getD i ix0).m).toNat) md0).av, (D.getD (((((D.getD k md0).xs).getD i ix0).m).toNat) md0).iv, (D.getD (((((D.getD k md0).xs).getD i ix0).m).toNat) md0).mv]) rfl rfl rfl rfl (zag hd.row) (by omega) rfl (zca mdC 4 (fun _ => rfl) D md0 (show ((((D.getD k md0).xs).getD i ix0).m).toNat < _ by omega) rfl)))
   ·
    intro vf pf hR
    have e9 := hR 9 (by decide)
    have e18 := hR 18 (by decide)
    refine Or.inl ⟨zbo (congrArg some e9.1) rfl, ?_⟩
    exact zaz (sk 96 (congrArg some e18.1) (zaf _)) (List.sublist_append_right _ _) (zar rfl rfl (fun w hm => zdj (D.getD (((((D.getD k md0).xs).getD i ix0).m).toNat) md0) w ((hd.at (by omega)).below hm.bel)))
   ·
    intro vf pf hR
    have e9 := hR 9 (by decide)
    have e19 : (fun v' post => post = [rowE 3 1 v' ((ptsK (D.getD (((((D.getD k md0).xs).getD i ix0).m).toNat) md0))).length (((ptsK (D.getD (((((D.getD k md0).xs).getD i ix0).m).toNat) md0))).map (Value.int .i64))]) (vf 19) (pf 19) := hR 19 (by decide)
    obtain ⟨v24, vE19⟩ : ∃ x, vf 19 = x := ⟨_, rfl⟩
    obtain ⟨p25, pE19⟩ : ∃ x, pf 19 = x := ⟨_, rfl⟩
    have hR26 := e19
    rw [vE19, pE19] at hR26
    subst hR26
    refine Or.inl ⟨zbo (congrArg some e9.1) rfl, ?_⟩
    exact zcd (sk 97 (congrArg some vE19) (zaf _)) (by simp only [pE19, vE19, e9.2, fS] <;> rfl) (zbq (lnQ rfl rfl rfl (zam 0 rfl)))
   ·
    intro vf pf hR
    have e9 := hR 9 (by decide)
    have e12 := hR 12 (by decide)
    have e19 : (fun v' post => post = [rowE 3 1 v' ((ptsK (D.getD (((((D.getD k md0).xs).getD i ix0).m).toNat) md0))).length (((ptsK (D.getD (((((D.getD k md0).xs).getD i ix0).m).toNat) md0))).map (Value.int .i64))]) (vf 19) (pf 19) := hR 19 (by decide)
    obtain ⟨v24, vE19⟩ : ∃ x, vf 19 = x := ⟨_, rfl⟩
    obtain ⟨p25, pE19⟩ : ∃ x, pf 19 = x := ⟨_, rfl⟩
    have hR26 := e19
    rw [vE19, pE19] at hR26
    subst hR26
    have e20 := hR 20 (by decide)
    refine Or.inl ⟨zbo (congrArg some e9.1) rfl, ?_⟩
    exact zcd (sk 90 (congrArg some e12.1) (sk 98 (congrArg some e20.1) (zaf _))) (by simp only [pE19, vE19, e9.2, e12.2, e20.2, fS] <;> rfl) (zcc (zbq (zcu rfl rfl rfl rfl)) (fun _ _ h => ⟨h.1.trans (congrArg Value.bool hb20), h.2⟩))
   intro vf pf hR
   have e9 := hR 9 (by decide)
   have e21 := hR 21 (by decide)
   exact ovQ rfl (sk 87 (congrArg some e9.1) (sk 99 (congrArg some e21.1) (zaf _))) (zbq (zay rfl))
  intro vf pf hR
  have e19 : (fun v' post => post = [rowE 3 1 v' ((ptsK (D.getD (((((D.getD k md0).xs).getD i ix0).m).toNat) md0))).length (((ptsK (D.getD (((((D.getD k md0).xs).getD i ix0).m).toNat) md0))).map (Value.int .i64))]) (vf 19) (pf 19) := hR 19 (by decide)
  obtain ⟨v24, vE19⟩ : ∃ x, vf 19 = x := ⟨_, rfl⟩
  obtain ⟨p25, pE19⟩ : ∃ x, pf 19 = x := ⟨_, rfl⟩
  have hR26 := e19
  rw [vE19, pE19] at hR26
  subst hR26
  have e22 := hR 22 (by decide)
  have q0 := hR 0 (by decide)
  have q1 := hR 1 (by decide)
  have q2 := hR 2 (by decide)
  have q3 := hR 3 (by decide)
  have q4 := hR 4 (by decide)
  have q5 := hR 5 (by decide)
  have q6 := hR 6 (by decide)
  have q7 := hR 7 (by decide)
  have q8 := hR 8 (by decide)
  have q9 := hR 9 (by decide)
  have q10 := hR 10 (by decide)
  have q11 := hR 11 (by decide)
  have q12 := hR 12 (by decide)
  have q13 := hR 13 (by decide)
  have q14 := hR 14 (by decide)
  have q15 := hR 15 (by decide)
  have q16 := hR 16 (by decide)
  have q17 := hR 17 (by decide)
  have q18 := hR 18 (by decide)
  have q20 := hR 20 (by decide)
  have q21 := hR 21 (by decide)
  have q22 := hR 22 (by decide)
  refine zcr (zcg [66, 28, 23, 8, 7, 4, 2, 1, 0] _ (sk 100 (congrArg some e22.1) (zaf _)) rfl) (by simp only [pE19, vE19, q0.2, q1.2, q2.2, q3.2, q4.2, q5.2, q6.2, q7.2, q8.2, q9.2, q10.2, q11.2, q12.2, q13.2, q14.2, q15.2, q16.2, q17.2, q18.2, q20.2, q21.2, q22.2, fS] <;> rfl) ?_
  simp only [List.drop_succ_cons, List.drop_zero]
  refine ntQ (fsQ rfl (zdq (reQ 1 rfl (hvQ rfl (vaQ rfl rfl rfl) (enQ 1 rfl ?_)))))
  exact zbw (i + 1) ⟨by omega, fun q hq => by by_cases e : q = i; (subst e; exact ⟨⟨by omega, by omega⟩, by omega⟩); exact hins q (by omega)⟩ (by omega) (saQ rfl) (slQ [2] rfl)
 refine ntQ (zap rfl ?_)
 refine zbv (zep ?_)
 refine zan (zbf (zbk 1 rfl ?_))
 exact zal (zaq rfl rfl (congrArg _ (zcz ⟨by omega, ⟨by omega, fun q hq => hall q (by omega)⟩, fun q hq => hins q (by omega)⟩).symm))
theorem zeq (D : List Md) (k s : Nat) (v : Value) (w : World) (hd : RdsDs w v D) (hc : CtsP D k) (hs : s < (D.getD k md0).ss.length) :
   Calls Try.prog 151 #[.agg #[v], .int .i64 (k : Int), .int .i64 (s : Int)] w (Ans w (.int .i64 ((drvL D (D.getD k md0)).count (s : Int) : Nat))) := by
 have hd9 := sml hd.row
 obtain ⟨hkl, hcnt, hins⟩ := hc
 obtain ⟨hn1, hn2, hn3, hn4⟩ := hcnt.md k hkl
 have hdl := hcnt.len
 refine zcf (N := 124) (args := [.agg #[v], .int .i64 (k : Int), .int .i64 (s : Int)]) Try.func151 rfl rfl (srQ ?_)
 refine zdv rfl (zdp rfl rfl) ?_
 intro b1
 refine zba 1 rfl (ssrQ (hvQ rfl (zaw (cs := [v]) rfl rfl rfl rfl rfl (zau 0 rfl 0 rfl)) (zak 1 rfl ?_)))
 refine zdw rfl (zar rfl rfl (fun w hm => zav (by have h9 := l04Counts_ans D k v w (hd.below hm.bel); rw [zcz ⟨hkl, hcnt, hins⟩] at h9; exact h9))) (zak 3 rfl ?_)
 refine zcb rfl rfl rfl rfl rfl rfl (fun h2 => absurd h2 (by omega)) (fun h2 => ?_)
 refine zak 3 rfl (hvQ rfl (fdQ 0 rfl rfl rfl) (hvQ rfl (zac rfl rfl rfl (zaa 0 rfl rfl)) (zak 1 rfl (hvQ rfl (riQ 4 rfl rfl rfl rfl (zag hd.row)) (hvQ rfl (zbe (k0 := 0) rfl rfl rfl (zag hd.row) (by omega)) ?_)))))
 refine hvQ rfl (zat (u := (D.getD k md0).sv) rfl rfl rfl (zag hd.row) ((zce mdC 4 (fun _ => rfl) D md0 (show k < _ by omega) (by decide)).trans rfl)) (hvQ rfl (lnQ rfl rfl rfl (zag ((hd.at (k := k) (by omega)).s))) ?_)
 refine hl_geq rfl rfl rfl rfl rfl rfl (fun h3 => absurd h3 (by omega)) (fun h3 => ?_)
 refine zba 1 rfl (zap rfl (zdi (srQ (hvQ rfl (fdQ 0 rfl rfl rfl) (hvQ rfl (zac rfl rfl rfl (zaa 0 rfl rfl)) (zak 1 rfl (hvQ rfl (riQ 4 rfl rfl rfl rfl (zag hd.row)) ?_)))))))
 refine hvQ rfl (zbi (us := [(D.getD k md0).sv, (D.getD k md0).av, (D.getD k md0).iv, (D.getD k md0).mv]) rfl rfl rfl rfl (zag hd.row) (by omega) rfl (zca mdC 4 (fun _ => rfl) D md0 (show k < _ by omega) rfl)) (zdv rfl (zbj (z := .agg #[.slice none 0 0, .slice none 0 0, .slice none 0 0, .slice none 0 0]) rfl rfl) ?_)
 intro b4
 refine zbn (cs' := #[(D.getD k md0).sv, (D.getD k md0).av, (D.getD k md0).iv, (D.getD k md0).mv]) (i := 0) (off := 0) (us := [(D.getD k md0).sv, (D.getD k md0).av, (D.getD k md0).iv, (D.getD k md0).mv]) rfl rfl rfl rfl rfl rfl rfl (zad (hd.at (k := k) (by omega)).s.one (zad (hd.at (k := k) (by omega)).g.one (zad (hd.at (k := k) (by omega)).x.one (zad (hd.at (k := k) (by omega)).m.one zbg)))) rfl rfl rfl (ntQ (zbk 1 rfl (zah (zah (reQ 1 rfl (?_))))))
 refine ntQ (zbh ?_)
 refine lkQ2 (α := Nat) (β := Int) [0, 1, 2, 3, 6, 7, 33] rfl (fun i c => [boxE b4 #[(D.getD k md0).sv, (D.getD k md0).av, (D.getD k md0).iv, (D.getD k md0).mv] 35, boxE b1 #[v] 26]) (fun i c => [(8, .int .i64 c), (9, .int .i64 (i : Int))]) (fun i c => i ≤ (D.getD k md0).gs.length ∧ c = ((((D.getD k md0).gs.take i).map As.t).count (s : Int) : Int)) (fun i c => (D.getD k md0).gs.length - i) 0 _ ⟨Nat.zero_le _, by simp⟩ (saQ rfl) (pfQ rfl) ?_
 intro i c hi5
 obtain ⟨hi, hcc⟩ := hi5
 have hcl := cntM_le As.t (D.getD k md0).gs (s : Int) i
 refine zah (zah (reQ 1 rfl (hvQ rfl (fdQ 1 rfl rfl rfl) (hvQ rfl (zac rfl rfl rfl (zaa 0 rfl rfl)) (hvQ rfl (lnQ rfl rfl rfl (zag ((hd.at (k := k) (by omega)).g))) ?_)))))
 refine zcb rfl rfl rfl rfl rfl rfl (fun h6 => ?_) (fun h6 => ?_)
 ·
  refine ntQ (zaj rfl (zdi (sbQ (srQ (hvQ rfl (fdQ 1 rfl rfl rfl) (hvQ rfl (zac rfl rfl rfl (zaa 0 rfl rfl)) (zak 1 rfl (hvQ rfl (riQ 2 rfl rfl rfl rfl (zag ((hd.at (k := k) (by omega)).g))) ?_))))))))
  refine hvQ rfl (zbe (k0 := 0) rfl rfl rfl (zag ((hd.at (k := k) (by omega)).g)) (by omega)) (hvQ rfl (zat (u := .int .i64 ((((D.getD k md0).gs).getD i as0).t)) rfl rfl rfl (zag ((hd.at (k := k) (by omega)).g)) ((zce asC 2 (fun _ => rfl) ((D.getD k md0).gs) as0 (show i < _ by omega) (by decide)).trans rfl)) ?_)
  refine zak 1 rfl (zby rfl rfl rfl rfl rfl rfl (fun h7 => ?_) (fun h7 => ?_))
  ·
   refine ntQ (zaj rfl (reQ 1 rfl (hvQ rfl (vaQ rfl rfl rfl) (enQ 1 rfl (zdq (reQ 1 rfl ?_))))))
   refine hvQ rfl (vaQ rfl rfl rfl) (enQ 1 rfl ?_)
   exact zdy (i + 1) (c + 1) ⟨by omega, by rw [cntM_yes as0 (by omega) (by assumption)]; omega⟩ (by omega) (saQ rfl) (pfQ rfl)
  refine ntQ (fsQ rfl (zdq (reQ 1 rfl (hvQ rfl (vaQ rfl rfl rfl) (enQ 1 rfl ?_)))))
  exact zdy (i + 1) c ⟨by omega, by rw [cntM_no as0 (by omega) (by assumption)]; omega⟩ (by omega) (saQ rfl) (pfQ rfl)
 refine ntQ (zap rfl ?_)
 refine zbv (zep ?_)
 refine zan (zbf (zah (zbk 1 rfl (zbh ?_))))
 refine lkQ2 (α := Nat) (β := Int) [0, 1, 2, 3, 6, 7, 33, 43] rfl (fun i c => [boxE b4 #[(D.getD k md0).sv, (D.getD k md0).av, (D.getD k md0).iv, (D.getD k md0).mv] 35, boxE b1 #[v] 26]) (fun i c => [(8, .int .i64 c), (10, .int .i64 (i : Int))]) (fun i c => i ≤ (D.getD k md0).ms.length ∧ c = (((D.getD k md0).gs.map As.t).count (s : Int) : Int) + ((((D.getD k md0).ms.take i).map Mm.o).count (s : Int) : Int)) (fun i c => (D.getD k md0).ms.length - i) 0 _ ⟨Nat.zero_le _, by rw [hcc, show i = (D.getD k md0).gs.length by omega, List.take_length]; simp⟩ (saQ rfl) (pfQ rfl) ?_
 intro i c hi8
 obtain ⟨hi, hcc⟩ := hi8
 have hcl := cntM_le Mm.o (D.getD k md0).ms (s : Int) i
 have hal := cntM_le As.t (D.getD k md0).gs (s : Int) (D.getD k md0).gs.length
 rw [List.take_length] at hal
 refine zah (zah (reQ 1 rfl (hvQ rfl (fdQ 3 rfl rfl rfl) (hvQ rfl (zac rfl rfl rfl (zaa 0 rfl rfl)) (hvQ rfl (lnQ rfl rfl rfl (zag ((hd.at (k := k) (by omega)).m))) ?_)))))
 refine zcb rfl rfl rfl rfl rfl rfl (fun h9 => ?_) (fun h9 => ?_)
 ·
  refine ntQ (zaj rfl (zdi (sbQ (srQ (hvQ rfl (fdQ 3 rfl rfl rfl) (hvQ rfl (zac rfl rfl rfl (zaa 0 rfl rfl)) (zak 1 rfl (hvQ rfl (riQ 4 rfl rfl rfl rfl (zag ((hd.at (k := k) (by omega)).m))) ?_))))))))
  refine hvQ rfl (zbe (k0 := 3) rfl rfl rfl (zag ((hd.at (k := k) (by omega)).m)) (by omega)) (hvQ rfl (zat (u := .int .i64 ((((D.getD k md0).ms).getD i mm0).o)) rfl rfl rfl (zag ((hd.at (k := k) (by omega)).m)) ((zce mmC 4 (fun _ => rfl) ((D.getD k md0).ms) mm0 (show i < _ by omega) (by decide)).trans rfl)) ?_)
  refine zak 1 rfl (zby rfl rfl rfl rfl rfl rfl (fun h10 => ?_) (fun h10 => ?_))
  ·
   refine ntQ (zaj rfl (reQ 1 rfl (hvQ rfl (vaQ rfl rfl rfl) (enQ 1 rfl (zdq (reQ 1 rfl ?_))))))
   refine hvQ rfl (vaQ rfl rfl rfl) (enQ 1 rfl ?_)
   exact zdy (i + 1) (c + 1) ⟨by omega, by rw [cntM_yes mm0 (by omega) (by assumption)]; omega⟩ (by omega) (saQ rfl) (pfQ rfl)
  refine ntQ (fsQ rfl (zdq (reQ 1 rfl (hvQ rfl (vaQ rfl rfl rfl) (enQ 1 rfl ?_)))))
  exact zdy (i + 1) c ⟨by omega, by rw [cntM_no mm0 (by omega) (by assumption)]; omega⟩ (by omega) (saQ rfl) (pfQ rfl)
 refine ntQ (zap rfl ?_)
 refine zbv (zep ?_)
 refine zan (zbf (zah (zbk 1 rfl (zbh ?_))))
 refine lkQ2 (α := Nat) (β := Int) [0, 1, 2, 3, 6, 7, 33, 43, 60] rfl (fun i c => [boxE b4 #[(D.getD k md0).sv, (D.getD k md0).av, (D.getD k md0).iv, (D.getD k md0).mv] 35, boxE b1 #[v] 26]) (fun i c => [(8, .int .i64 c), (11, .int .i64 (i : Int))]) (fun i c => i ≤ (D.getD k md0).xs.length ∧ c = (((D.getD k md0).gs.map As.t).count (s : Int) : Int) + (((D.getD k md0).ms.map Mm.o).count (s : Int) : Int) + ((((D.getD k md0).xs.take i).flatMap (xoK D)).count (s : Int) : Int)) (fun i c => (D.getD k md0).xs.length - i) 0 _ ⟨Nat.zero_le _, by rw [hcc, show i = (D.getD k md0).ms.length by omega, List.take_length]; simp⟩ (saQ rfl) (pfQ rfl) ?_
 intro i c hi11
 obtain ⟨hi, hcc⟩ := hi11
 have hcl := cntX_le (D := D) (L := (D.getD k md0).xs) (s : Int) i hi
 have hal := cntM_le As.t (D.getD k md0).gs (s : Int) (D.getD k md0).gs.length
 rw [List.take_length] at hal
 have hml := cntM_le Mm.o (D.getD k md0).ms (s : Int) (D.getD k md0).ms.length
 rw [List.take_length] at hml
 refine zah (zah (reQ 1 rfl (hvQ rfl (fdQ 2 rfl rfl rfl) (hvQ rfl (zac rfl rfl rfl (zaa 0 rfl rfl)) (hvQ rfl (lnQ rfl rfl rfl (zag ((hd.at (k := k) (by omega)).x))) ?_)))))
 refine zcb rfl rfl rfl rfl rfl rfl (fun h12 => ?_) (fun h12 => ?_)
 ·
  refine ntQ (zaj rfl (zdi (sbQ (zah ?_))))
  obtain ⟨⟨hm0, hm1⟩, hpe⟩ := hins i (by omega)
  refine hc_draw rfl 11 [0, 1, 2, 3, 4, 5, 6, 7, 8, 9, 10] (List.take 11 _) (List.drop 11 _) [[], [0], [], [2], [], [3, 4], [5], [6], [1, 7], [8], []] [80, 81, 82, 83, 84, 85, 86, 87, 88, 89, 12] (fun i_ vs_ v_ p_ => match i_ with | 0 => v_ = .pointer (some ⟨b1, 0 + 0, none⟩) ∧ p_ = [] | 1 => v_ = v ∧ p_ = [] | 2 => v_ = .pointer (some ⟨b4, 0 + 2, none⟩) ∧ p_ = [] | 3 => v_ = (D.getD k md0).iv ∧ p_ = [] | 4 => v_ = .int .i64 (i : Int) ∧ p_ = [] | 5 => v_ = elP ((D.getD k md0).iv) (((i : Int)).toNat * 3) ∧ p_ = [] | 6 => v_ = elP ((D.getD k md0).iv) (((i : Int)).toNat * 3 + 0) ∧ p_ = [] | 7 => v_ = .int .i64 ((((D.getD k md0).xs).getD i ix0).m) ∧ p_ = [] | 8 => v_ = elP v (((((D.getD k md0).xs).getD i ix0).m).toNat * 4) ∧ p_ = [] | 9 => v_ = .agg #[(D.getD (((((D.getD k md0).xs).getD i ix0).m).toNat) md0).sv, (D.getD (((((D.getD k md0).xs).getD i ix0).m).toNat) md0).av, (D.getD (((((D.getD k md0).xs).getD i ix0).m).toNat) md0).iv, (D.getD (((((D.getD k md0).xs).getD i ix0).m).toNat) md0).mv] ∧ p_ = [] | 10 => IsBox #[.slice none 0 0, .slice none 0 0, .slice none 0 0, .slice none 0 0] 35 v_ p_ | _ => True) (List.take_append_drop 11 _).symm (by kernel_rfl) (by kernel_rfl) rfl rfl ?_ ?_
  ·
   refine ⟨?_, ?_, ?_, ?_, ?_, ?_, ?_, ?_, ?_, ?_, ?_, trivial⟩
   ·
    intro vf pf hR
    exact ovQ rfl (zao [3] rfl) (zbq (fdQ 0 rfl rfl rfl))
   ·
    intro vf pf hR
    have e0 := hR 0 (by decide)
    exact olQ rfl (sk 80 (congrArg some e0.1) (zaf _)) (zbq (zac rfl rfl rfl (zaa 1 rfl rfl)))
   ·
    intro vf pf hR
    exact ovQ rfl (zao [7] rfl) (zbq (fdQ 2 rfl rfl rfl))
   ·
    intro vf pf hR
    have e2 := hR 2 (by decide)
    exact olQ rfl (sk 82 (congrArg some e2.1) (zaf _)) (zbq (zac rfl rfl rfl (zaa 0 rfl rfl)))
   ·
    intro vf pf hR
    exact ovQ rfl (zao [11] rfl) (zbq (zay rfl))
   ·
    intro vf pf hR
    have e3 := hR 3 (by decide)
    have e4 := hR 4 (by decide)
    exact olQ rfl (sk 83 (congrArg some e3.1) (sk 84 (congrArg some e4.1) (zaf _))) (zbq (riQ 3 rfl rfl rfl rfl (zag ((hd.at (k := k) (by omega)).x))))
   ·
    intro vf pf hR
    have e5 := hR 5 (by decide)
    exact olQ rfl (sk 85 (congrArg some e5.1) (zaf _)) (zbq (zbe (k0 := 0) rfl rfl rfl (zag ((hd.at (k := k) (by omega)).x)) (by omega)))
   ·
    intro vf pf hR
    have e6 := hR 6 (by decide)
    exact olQ rfl (sk 86 (congrArg some e6.1) (zaf _)) (zbq (zat (u := .int .i64 ((((D.getD k md0).xs).getD i ix0).m)) rfl rfl rfl (zag ((hd.at (k := k) (by omega)).x)) ((zce ixC 3 (fun _ => rfl) ((D.getD k md0).xs) ix0 (show i < _ by omega) (by decide)).trans rfl)))
   ·
    intro vf pf hR
    have e1 := hR 1 (by decide)
    have e7 := hR 7 (by decide)
    exact olQ rfl (sk 81 (congrArg some e1.1) (sk 87 (congrArg some e7.1) (zaf _))) (zbq (riQ 4 rfl rfl rfl rfl (zag hd.row)))
   ·
    intro vf pf hR
    have e8 := hR 8 (by decide)
    exact olQ rfl (sk 88 (congrArg some e8.1) (zaf _)) (zbq (zbi (us := [(D.getD (((((D.getD k md0).xs).getD i ix0).m).toNat) md0).sv, (D.getD (((((D.getD k md0).xs).getD i ix0).m).toNat) md0).av, (D.getD (((((D.getD k md0).xs).getD i ix0).m).toNat) md0).iv, (D.getD (((((D.getD k md0).xs).getD i ix0).m).toNat) md0).mv]) rfl rfl rfl rfl (zag hd.row) (by omega) rfl (zca mdC 4 (fun _ => rfl) D md0 (show ((((D.getD k md0).xs).getD i ix0).m).toNat < _ by omega) rfl)))
   intro vf pf hR
   exact olQ rfl (zaf _) (zbj (z := .agg #[.slice none 0 0, .slice none 0 0, .slice none 0 0, .slice none 0 0]) rfl rfl)
  intro vf pf hR
  have e9 := hR 9 (by decide)
  have e10 : IsBox #[.slice none 0 0, .slice none 0 0, .slice none 0 0, .slice none 0 0] 35 (vf 10) (pf 10) := hR 10 (by decide)
  obtain ⟨b13, vE10, pE10⟩ := e10
  have q0 := hR 0 (by decide)
  have q1 := hR 1 (by decide)
  have q2 := hR 2 (by decide)
  have q3 := hR 3 (by decide)
  have q4 := hR 4 (by decide)
  have q5 := hR 5 (by decide)
  have q6 := hR 6 (by decide)
  have q7 := hR 7 (by decide)
  have q8 := hR 8 (by decide)
  have q9 := hR 9 (by decide)
  refine zcr (zcg [11, 8, 7, 6, 3, 2, 1, 0] _ (sk 12 (congrArg some vE10) (zcg [77, 60, 43, 33] _ (sk 89 (congrArg some e9.1) (zaf _)) rfl)) rfl) (by simp only [pE10, vE10, q0.2, q1.2, q2.2, q3.2, q4.2, q5.2, q6.2, q7.2, q8.2, q9.2, fS] <;> rfl) ?_
  simp only [List.drop_succ_cons, List.drop_zero]
  refine zbn (cs' := #[(D.getD (((((D.getD k md0).xs).getD i ix0).m).toNat) md0).sv, (D.getD (((((D.getD k md0).xs).getD i ix0).m).toNat) md0).av, (D.getD (((((D.getD k md0).xs).getD i ix0).m).toNat) md0).iv, (D.getD (((((D.getD k md0).xs).getD i ix0).m).toNat) md0).mv]) (i := 0) (off := 0) (us := [(D.getD (((((D.getD k md0).xs).getD i ix0).m).toNat) md0).sv, (D.getD (((((D.getD k md0).xs).getD i ix0).m).toNat) md0).av, (D.getD (((((D.getD k md0).xs).getD i ix0).m).toNat) md0).iv, (D.getD (((((D.getD k md0).xs).getD i ix0).m).toNat) md0).mv]) rfl rfl rfl rfl rfl rfl rfl (zad (hd.at (k := ((((D.getD k md0).xs).getD i ix0).m).toNat) (by omega)).s.one (zad (hd.at (k := ((((D.getD k md0).xs).getD i ix0).m).toNat) (by omega)).g.one (zad (hd.at (k := ((((D.getD k md0).xs).getD i ix0).m).toNat) (by omega)).x.one (zad (hd.at (k := ((((D.getD k md0).xs).getD i ix0).m).toNat) (by omega)).m.one zbg)))) rfl rfl rfl ?_
  refine ntQ (srQ (hvQ rfl (zaw (cs := [(D.getD (((((D.getD k md0).xs).getD i ix0).m).toNat) md0).sv, (D.getD (((((D.getD k md0).xs).getD i ix0).m).toNat) md0).av, (D.getD (((((D.getD k md0).xs).getD i ix0).m).toNat) md0).iv, (D.getD (((((D.getD k md0).xs).getD i ix0).m).toNat) md0).mv]) rfl rfl rfl rfl rfl (zau 0 rfl 0 rfl)) ?_))
  refine hl_q rfl rfl rfl (zar rfl rfl (fun w hm => zdj (D.getD (((((D.getD k md0).xs).getD i ix0).m).toNat) md0) w ((hd.at (by omega)).below hm.bel))) ?_
  intro v14 p15 hR16
  subst hR16
  refine zba 1 rfl (zbk 1 rfl (zbh ?_))
  refine lkQ2 (α := Nat) (β := Int) [0, 1, 2, 3, 6, 7, 11, 12, 13, 33, 43, 60, 77] rfl (fun j y => [rowE 3 1 v14 ((ptsK (D.getD (((((D.getD k md0).xs).getD i ix0).m).toNat) md0)).length) ((ptsK (D.getD (((((D.getD k md0).xs).getD i ix0).m).toNat) md0)).map (Value.int .i64)), boxE b13 #[(D.getD (((((D.getD k md0).xs).getD i ix0).m).toNat) md0).sv, (D.getD (((((D.getD k md0).xs).getD i ix0).m).toNat) md0).av, (D.getD (((((D.getD k md0).xs).getD i ix0).m).toNat) md0).iv, (D.getD (((((D.getD k md0).xs).getD i ix0).m).toNat) md0).mv] 35, boxE b4 #[(D.getD k md0).sv, (D.getD k md0).av, (D.getD k md0).iv, (D.getD k md0).mv] 35, boxE b1 #[v] 26]) (fun j y => [(8, .int .i64 y), (14, .int .i64 (j : Int))]) (fun j y => j ≤ (ptsK (D.getD (((((D.getD k md0).xs).getD i ix0).m).toNat) md0)).length ∧ y = c + ((xoA D ((D.getD k md0).xs.getD i ix0) j).count (s : Int) : Int)) (fun j y => (ptsK (D.getD (((((D.getD k md0).xs).getD i ix0).m).toNat) md0)).length - j) 0 c ⟨Nat.zero_le _, by simp [xoA]⟩ (saQ rfl) (pfQ rfl) ?_
  intro j y hi17
  obtain ⟨hj, hcj⟩ := hi17
  have hpl := ptsK_le (D.getD (((((D.getD k md0).xs).getD i ix0).m).toNat) md0)
  have hxl9 := List.count_le_length (a := (s : Int)) (l := xoA D ((D.getD k md0).xs.getD i ix0) j)
  have hxl8 := xoA_le D ((D.getD k md0).xs.getD i ix0) j
  refine zah (zah (reQ 2 rfl (hvQ rfl (lnQ rfl rfl rfl (zam 0 rfl)) ?_)))
  refine zcb rfl rfl rfl rfl rfl rfl (fun h18 => ?_) (fun h18 => ?_)
  ·
   refine ntQ (zaj rfl (zdi (sbQ (zah ?_))))
   have hpt := zdd (m := (D.getD (((((D.getD k md0).xs).getD i ix0).m).toNat) md0)) (j := j) (by omega)
   have hkd := zch hpt
   rcases Bool.eq_false_or_eq_true (((((D.getD (((((D.getD k md0).xs).getD i ix0).m).toNat) md0).ss).getD (((ptsK (D.getD (((((D.getD k md0).xs).getD i ix0).m).toNat) md0)).getD j 0).toNat) sg0).k) == 1) with hb19 | hb19
   ·
    have hb19p : (((D.getD (((((D.getD k md0).xs).getD i ix0).m).toNat) md0).ss).getD (((ptsK (D.getD (((((D.getD k md0).xs).getD i ix0).m).toNat) md0)).getD j 0).toNat) sg0).k = 1 := beq_iff_eq.1 hb19
    have hpt := zdd (m := (D.getD (((((D.getD k md0).xs).getD i ix0).m).toNat) md0)) (j := j) (by omega)
    have hkd := zch hpt
    rcases Bool.eq_false_or_eq_true ((((((D.getD k md0).xs).getD i ix0).ps).getD j 0) == (s : Int)) with hb20 | hb20
    ·
     have hb20p : ((((D.getD k md0).xs).getD i ix0).ps).getD j 0 = (s : Int) := beq_iff_eq.1 hb20
     have hpt := zdd (m := (D.getD (((((D.getD k md0).xs).getD i ix0).m).toNat) md0)) (j := j) (by omega)
     have hkd := zch hpt
     refine zcs 23 [[], [0], [], [], [2, 3], [4], [1, 5], [6], [7], [8], [9], [10], [10, 11], [10], [10, 12, 13], [10, 14], [10, 15], [10], [10, 16, 17], [10, 18], [10], [10, 19, 20], [10, 21]] [98, 99, 100, 101, 102, 103, 104, 105, 106, 107, 108, 109, 110, 111, 112, 113, 114, 115, 116, 117, 118, 119, 120] [.pointer (some ⟨b13, 0 + 0, none⟩), (D.getD (((((D.getD k md0).xs).getD i ix0).m).toNat) md0).sv, v14, .int .i64 (j : Int), elP v14 (((j : Int)).toNat * 1), .int .i64 ((ptsK (D.getD (((((D.getD k md0).xs).getD i ix0).m).toNat) md0)).getD j 0), elP ((D.getD (((((D.getD k md0).xs).getD i ix0).m).toNat) md0).sv) (((ptsK (D.getD (((((D.getD k md0).xs).getD i ix0).m).toNat) md0)).getD j 0).toNat * 3), elP ((D.getD (((((D.getD k md0).xs).getD i ix0).m).toNat) md0).sv) (((ptsK (D.getD (((((D.getD k md0).xs).getD i ix0).m).toNat) md0)).getD j 0).toNat * 3 + 0), .int .i64 ((((D.getD (((((D.getD k md0).xs).getD i ix0).m).toNat) md0).ss).getD (((ptsK (D.getD (((((D.getD k md0).xs).getD i ix0).m).toNat) md0)).getD j 0).toNat) sg0).k), .bool true, .bool true, .pointer (some ⟨b4, 0 + 2, none⟩), (D.getD k md0).iv, .int .i64 (i : Int), elP ((D.getD k md0).iv) (((i : Int)).toNat * 3), elP ((D.getD k md0).iv) (((i : Int)).toNat * 3 + 2), (((D.getD k md0).xs).getD i ix0).pv, .int .i64 (j : Int), elP ((((D.getD k md0).xs).getD i ix0).pv) (((j : Int)).toNat * 1), .int .i64 (((((D.getD k md0).xs).getD i ix0).ps).getD j 0), .int .i64 (s : Int), .bool true, .bool true] (by kernel_rfl) rfl ?_ ?_
     ·
      exact ⟨iaQ rfl (fdQ 0 rfl rfl rfl) rfl, iaQ rfl (zac rfl rfl rfl (zaa 1 rfl rfl)) rfl, iaQ rfl (zay rfl) rfl, iaQ rfl (zay rfl) rfl, iaQ rfl (riQ 1 rfl rfl rfl rfl (zam 0 rfl)) rfl, iaQ rfl (zat (u := .int .i64 ((ptsK (D.getD (((((D.getD k md0).xs).getD i ix0).m).toNat) md0)).getD j 0)) rfl rfl rfl (zam 0 rfl) (zcm (show _ < (ptsK (D.getD (((((D.getD k md0).xs).getD i ix0).m).toNat) md0)).length by omega))) rfl, iaQ rfl (riQ 3 rfl rfl rfl rfl (zag ((hd.at (k := ((((D.getD k md0).xs).getD i ix0).m).toNat) (by omega)).s))) rfl, iaQ rfl (zbe (k0 := 0) rfl rfl rfl (zag ((hd.at (k := ((((D.getD k md0).xs).getD i ix0).m).toNat) (by omega)).s)) (by omega)) rfl, iaQ rfl (zat (u := .int .i64 ((((D.getD (((((D.getD k md0).xs).getD i ix0).m).toNat) md0).ss).getD (((ptsK (D.getD (((((D.getD k md0).xs).getD i ix0).m).toNat) md0)).getD j 0).toNat) sg0).k)) rfl rfl rfl (zag ((hd.at (k := ((((D.getD k md0).xs).getD i ix0).m).toNat) (by omega)).s)) ((zce sgC 3 (fun _ => rfl) ((D.getD (((((D.getD k md0).xs).getD i ix0).m).toNat) md0).ss) sg0 (show ((ptsK (D.getD (((((D.getD k md0).xs).getD i ix0).m).toNat) md0)).getD j 0).toNat < _ by omega) (by decide)).trans rfl)) rfl, .inl ⟨rfl, zes (zcu rfl rfl rfl rfl) hb19⟩, iaQ rfl (zay rfl) rfl, iaQ rfl (fdQ 2 rfl rfl rfl) rfl, iaQ rfl (zac rfl rfl rfl (zaa 2 rfl rfl)) rfl, iaQ rfl (zay rfl) rfl, iaQ rfl (riQ 3 rfl rfl rfl rfl (zag ((hd.at (k := k) (by omega)).x))) rfl, iaQ rfl (zbe (k0 := 2) rfl rfl rfl (zag ((hd.at (k := k) (by omega)).x)) (by omega)) rfl, iaQ rfl (zat (u := (((D.getD k md0).xs).getD i ix0).pv) rfl rfl rfl (zag ((hd.at (k := k) (by omega)).x)) ((zce ixC 3 (fun _ => rfl) ((D.getD k md0).xs) ix0 (show i < _ by omega) (by decide)).trans rfl)) rfl, iaQ rfl (zay rfl) rfl, iaQ rfl (riQ 1 rfl rfl rfl rfl (zag ((hd.at (k := k) (by omega)).p.at (k := i) (by omega)))) rfl, iaQ rfl (zat (u := .int .i64 (((((D.getD k md0).xs).getD i ix0).ps).getD j 0)) rfl rfl rfl (zag ((hd.at (k := k) (by omega)).p.at (k := i) (by omega))) (zcm (show _ < ((((D.getD k md0).xs).getD i ix0).ps).length by omega))) rfl, iaQ rfl (zay rfl) rfl, .inl ⟨rfl, zes (zcu rfl rfl rfl rfl) hb20⟩, iaQ rfl (zay rfl) rfl, trivial⟩
     simp only [List.drop_succ_cons, List.drop_zero]
     refine ntQ (zaj rfl (reQ 1 rfl (hvQ rfl (vaQ rfl rfl rfl) (enQ 1 rfl (zdq (reQ 1 rfl ?_))))))
     refine hvQ rfl (vaQ rfl rfl rfl) (enQ 1 rfl ?_)
     exact zdy (j + 1) (y + 1) ⟨by omega, by rw [xoA_yes (by omega), cnt_yes (by assumption)]; omega⟩ (by omega) (saQ rfl) (pfQ rfl)
    have hb20p : ((((D.getD k md0).xs).getD i ix0).ps).getD j 0 ≠ (s : Int) := beq_eq_false_iff_ne.1 hb20
    have hpt := zdd (m := (D.getD (((((D.getD k md0).xs).getD i ix0).m).toNat) md0)) (j := j) (by omega)
    have hkd := zch hpt
    refine zcs 23 [[], [0], [], [], [2, 3], [4], [1, 5], [6], [7], [8], [9], [10], [10, 11], [10], [10, 12, 13], [10, 14], [10, 15], [10], [10, 16, 17], [10, 18], [10], [10, 19, 20], [10, 21]] [98, 99, 100, 101, 102, 103, 104, 105, 106, 107, 108, 109, 110, 111, 112, 113, 114, 115, 116, 117, 118, 119, 120] [.pointer (some ⟨b13, 0 + 0, none⟩), (D.getD (((((D.getD k md0).xs).getD i ix0).m).toNat) md0).sv, v14, .int .i64 (j : Int), elP v14 (((j : Int)).toNat * 1), .int .i64 ((ptsK (D.getD (((((D.getD k md0).xs).getD i ix0).m).toNat) md0)).getD j 0), elP ((D.getD (((((D.getD k md0).xs).getD i ix0).m).toNat) md0).sv) (((ptsK (D.getD (((((D.getD k md0).xs).getD i ix0).m).toNat) md0)).getD j 0).toNat * 3), elP ((D.getD (((((D.getD k md0).xs).getD i ix0).m).toNat) md0).sv) (((ptsK (D.getD (((((D.getD k md0).xs).getD i ix0).m).toNat) md0)).getD j 0).toNat * 3 + 0), .int .i64 ((((D.getD (((((D.getD k md0).xs).getD i ix0).m).toNat) md0).ss).getD (((ptsK (D.getD (((((D.getD k md0).xs).getD i ix0).m).toNat) md0)).getD j 0).toNat) sg0).k), .bool true, .bool true, .pointer (some ⟨b4, 0 + 2, none⟩), (D.getD k md0).iv, .int .i64 (i : Int), elP ((D.getD k md0).iv) (((i : Int)).toNat * 3), elP ((D.getD k md0).iv) (((i : Int)).toNat * 3 + 2), (((D.getD k md0).xs).getD i ix0).pv, .int .i64 (j : Int), elP ((((D.getD k md0).xs).getD i ix0).pv) (((j : Int)).toNat * 1), .int .i64 (((((D.getD k md0).xs).getD i ix0).ps).getD j 0), .int .i64 (s : Int), .bool false, .bool false] (by kernel_rfl) rfl ?_ ?_
    ·
     exact ⟨iaQ rfl (fdQ 0 rfl rfl rfl) rfl, iaQ rfl (zac rfl rfl rfl (zaa 1 rfl rfl)) rfl, iaQ rfl (zay rfl) rfl, iaQ rfl (zay rfl) rfl, iaQ rfl (riQ 1 rfl rfl rfl rfl (zam 0 rfl)) rfl, iaQ rfl (zat (u := .int .i64 ((ptsK (D.getD (((((D.getD k md0).xs).getD i ix0).m).toNat) md0)).getD j 0)) rfl rfl rfl (zam 0 rfl) (zcm (show _ < (ptsK (D.getD (((((D.getD k md0).xs).getD i ix0).m).toNat) md0)).length by omega))) rfl, iaQ rfl (riQ 3 rfl rfl rfl rfl (zag ((hd.at (k := ((((D.getD k md0).xs).getD i ix0).m).toNat) (by omega)).s))) rfl, iaQ rfl (zbe (k0 := 0) rfl rfl rfl (zag ((hd.at (k := ((((D.getD k md0).xs).getD i ix0).m).toNat) (by omega)).s)) (by omega)) rfl, iaQ rfl (zat (u := .int .i64 ((((D.getD (((((D.getD k md0).xs).getD i ix0).m).toNat) md0).ss).getD (((ptsK (D.getD (((((D.getD k md0).xs).getD i ix0).m).toNat) md0)).getD j 0).toNat) sg0).k)) rfl rfl rfl (zag ((hd.at (k := ((((D.getD k md0).xs).getD i ix0).m).toNat) (by omega)).s)) ((zce sgC 3 (fun _ => rfl) ((D.getD (((((D.getD k md0).xs).getD i ix0).m).toNat) md0).ss) sg0 (show ((ptsK (D.getD (((((D.getD k md0).xs).getD i ix0).m).toNat) md0)).getD j 0).toNat < _ by omega) (by decide)).trans rfl)) rfl, .inl ⟨rfl, zes (zcu rfl rfl rfl rfl) hb19⟩, iaQ rfl (zay rfl) rfl, iaQ rfl (fdQ 2 rfl rfl rfl) rfl, iaQ rfl (zac rfl rfl rfl (zaa 2 rfl rfl)) rfl, iaQ rfl (zay rfl) rfl, iaQ rfl (riQ 3 rfl rfl rfl rfl (zag ((hd.at (k := k) (by omega)).x))) rfl, iaQ rfl (zbe (k0 := 2) rfl rfl rfl (zag ((hd.at (k := k) (by omega)).x)) (by omega)) rfl, iaQ rfl (zat (u := (((D.getD k md0).xs).getD i ix0).pv) rfl rfl rfl (zag ((hd.at (k := k) (by omega)).x)) ((zce ixC 3 (fun _ => rfl) ((D.getD k md0).xs) ix0 (show i < _ by omega) (by decide)).trans rfl)) rfl, iaQ rfl (zay rfl) rfl, iaQ rfl (riQ 1 rfl rfl rfl rfl (zag ((hd.at (k := k) (by omega)).p.at (k := i) (by omega)))) rfl, iaQ rfl (zat (u := .int .i64 (((((D.getD k md0).xs).getD i ix0).ps).getD j 0)) rfl rfl rfl (zag ((hd.at (k := k) (by omega)).p.at (k := i) (by omega))) (zcm (show _ < ((((D.getD k md0).xs).getD i ix0).ps).length by omega))) rfl, iaQ rfl (zay rfl) rfl, .inl ⟨rfl, zes (zcu rfl rfl rfl rfl) hb20⟩, iaQ rfl (zay rfl) rfl, trivial⟩
    simp only [List.drop_succ_cons, List.drop_zero]
    refine ntQ (fsQ rfl (zdq (reQ 1 rfl (hvQ rfl (vaQ rfl rfl rfl) (enQ 1 rfl ?_)))))
    exact zdy (j + 1) y ⟨by omega, by first | (rw [xoA_yes (by omega), cnt_no (by assumption)]; omega) | (rw [xoA_no (by omega)]; omega)⟩ (by omega) (saQ rfl) (pfQ rfl)
   have hb19p : (((D.getD (((((D.getD k md0).xs).getD i ix0).m).toNat) md0).ss).getD (((ptsK (D.getD (((((D.getD k md0).xs).getD i ix0).m).toNat) md0)).getD j 0).toNat) sg0).k ≠ 1 := beq_eq_false_iff_ne.1 hb19
   have hpt := zdd (m := (D.getD (((((D.getD k md0).xs).getD i ix0).m).toNat) md0)) (j := j) (by omega)
   have hkd := zch hpt
   refine zcs 23 [[], [0], [], [], [2, 3], [4], [1, 5], [6], [7], [8], [9], [10], [10], [10], [10], [10], [10], [10], [10], [10], [10], [10], [10, 21]] [98, 99, 100, 101, 102, 103, 104, 105, 106, 107, 108, 109, 110, 111, 112, 113, 114, 115, 116, 117, 118, 119, 120] [.pointer (some ⟨b13, 0 + 0, none⟩), (D.getD (((((D.getD k md0).xs).getD i ix0).m).toNat) md0).sv, v14, .int .i64 (j : Int), elP v14 (((j : Int)).toNat * 1), .int .i64 ((ptsK (D.getD (((((D.getD k md0).xs).getD i ix0).m).toNat) md0)).getD j 0), elP ((D.getD (((((D.getD k md0).xs).getD i ix0).m).toNat) md0).sv) (((ptsK (D.getD (((((D.getD k md0).xs).getD i ix0).m).toNat) md0)).getD j 0).toNat * 3), elP ((D.getD (((((D.getD k md0).xs).getD i ix0).m).toNat) md0).sv) (((ptsK (D.getD (((((D.getD k md0).xs).getD i ix0).m).toNat) md0)).getD j 0).toNat * 3 + 0), .int .i64 ((((D.getD (((((D.getD k md0).xs).getD i ix0).m).toNat) md0).ss).getD (((ptsK (D.getD (((((D.getD k md0).xs).getD i ix0).m).toNat) md0)).getD j 0).toNat) sg0).k), .bool false, .bool false, undef, undef, undef, undef, undef, undef, undef, undef, undef, undef, undef, .bool false] (by kernel_rfl) rfl ?_ ?_
   ·
    exact ⟨iaQ rfl (fdQ 0 rfl rfl rfl) rfl, iaQ rfl (zac rfl rfl rfl (zaa 1 rfl rfl)) rfl, iaQ rfl (zay rfl) rfl, iaQ rfl (zay rfl) rfl, iaQ rfl (riQ 1 rfl rfl rfl rfl (zam 0 rfl)) rfl, iaQ rfl (zat (u := .int .i64 ((ptsK (D.getD (((((D.getD k md0).xs).getD i ix0).m).toNat) md0)).getD j 0)) rfl rfl rfl (zam 0 rfl) (zcm (show _ < (ptsK (D.getD (((((D.getD k md0).xs).getD i ix0).m).toNat) md0)).length by omega))) rfl, iaQ rfl (riQ 3 rfl rfl rfl rfl (zag ((hd.at (k := ((((D.getD k md0).xs).getD i ix0).m).toNat) (by omega)).s))) rfl, iaQ rfl (zbe (k0 := 0) rfl rfl rfl (zag ((hd.at (k := ((((D.getD k md0).xs).getD i ix0).m).toNat) (by omega)).s)) (by omega)) rfl, iaQ rfl (zat (u := .int .i64 ((((D.getD (((((D.getD k md0).xs).getD i ix0).m).toNat) md0).ss).getD (((ptsK (D.getD (((((D.getD k md0).xs).getD i ix0).m).toNat) md0)).getD j 0).toNat) sg0).k)) rfl rfl rfl (zag ((hd.at (k := ((((D.getD k md0).xs).getD i ix0).m).toNat) (by omega)).s)) ((zce sgC 3 (fun _ => rfl) ((D.getD (((((D.getD k md0).xs).getD i ix0).m).toNat) md0).ss) sg0 (show ((ptsK (D.getD (((((D.getD k md0).xs).getD i ix0).m).toNat) md0)).getD j 0).toNat < _ by omega) (by decide)).trans rfl)) rfl, .inl ⟨rfl, zes (zcu rfl rfl rfl rfl) hb19⟩, iaQ rfl (zay rfl) rfl, .inr ⟨rfl, rfl⟩, .inr ⟨rfl, rfl⟩, .inr ⟨rfl, rfl⟩, .inr ⟨rfl, rfl⟩, .inr ⟨rfl, rfl⟩, .inr ⟨rfl, rfl⟩, .inr ⟨rfl, rfl⟩, .inr ⟨rfl, rfl⟩, .inr ⟨rfl, rfl⟩, .inr ⟨rfl, rfl⟩, .inr ⟨rfl, rfl⟩, iaQ rfl (zay rfl) rfl, trivial⟩
   simp only [List.drop_succ_cons, List.drop_zero]
   refine ntQ (fsQ rfl (zdq (reQ 1 rfl (hvQ rfl (vaQ rfl rfl rfl) (enQ 1 rfl ?_)))))
   exact zdy (j + 1) y ⟨by omega, by first | (rw [xoA_yes (by omega), cnt_no (by assumption)]; omega) | (rw [xoA_no (by omega)]; omega)⟩ (by omega) (saQ rfl) (pfQ rfl)
  refine ntQ (zap rfl ?_)
  refine zbv (zep ?_)
  refine zan (zdq (reQ 1 rfl (hvQ rfl (vaQ rfl rfl rfl) (enQ 1 rfl ?_))))
  exact zdy (i + 1) y ⟨by omega, by rw [zeo (xoK D) ix0 (by omega), List.count_append]; show _ = _ + _ + (((_ : Nat) + (xoA D ((D.getD k md0).xs.getD i ix0) (ptsK (D.getD (((((D.getD k md0).xs).getD i ix0).m).toNat) md0)).length).count (s : Int) : Nat) : Int); rw [show j = (ptsK (D.getD (((((D.getD k md0).xs).getD i ix0).m).toNat) md0)).length by omega] at hcj; omega⟩ (by omega) (saQ rfl) (slQ [2, 0] rfl)
 refine ntQ (zap rfl ?_)
 refine zbv (zep ?_)
 refine zan (zbf (zbk 2 rfl ?_))
 exact zal (zaq rfl rfl (congrArg _ (by unfold drvL; rw [List.count_append, List.count_append, hcc, show i = (D.getD k md0).xs.length by omega, List.take_length]; omega)))
theorem zdn (m : Md) (s : Int) (w : World) (hr : RdsMd w m) :
   Calls Try.prog 153 #[.agg #[m.sv, m.av, m.iv, m.mv], .int .i64 s] w (Ans w (.int .i64 (knd m s))) := by
 have hs9 := sml hr.s
 refine zcf (N := 20) (args := [.agg #[m.sv, m.av, m.iv, m.mv], .int .i64 s]) Try.func153 rfl rfl (srQ ?_)
 refine zdv rfl (zdp rfl rfl) ?_
 intro b1
 refine zba 1 rfl (zah (zah (reQ 1 rfl ?_)))
 refine zcb rfl rfl rfl rfl rfl rfl (fun h2 => ?_) (fun h2 => ?_)
 ·
  refine zba 7 rfl (zaj rfl (zah (reQ 1 rfl (?_))))
  refine ntQ ?_
  refine zal (zae ?_)
  exact zaq rfl rfl (congrArg _ ((zdr (by omega)).symm))
 refine zak 2 rfl (hvQ rfl (fdQ 0 rfl rfl rfl) (hvQ rfl (zac rfl rfl rfl (zaa 0 rfl rfl)) (hvQ rfl (lnQ rfl rfl rfl (zag ((hr).s))) ?_)))
 refine hl_geq rfl rfl rfl rfl rfl rfl (fun h3 => ?_) (fun h3 => ?_)
 ·
  refine zba 1 rfl (zaj rfl (zbk 1 rfl ?_))
  refine zal (zae ?_)
  exact zaq rfl rfl (congrArg _ ((zdr (by omega)).symm))
 refine zba 1 rfl (zap rfl (zdi (srQ (hvQ rfl (fdQ 0 rfl rfl rfl) (hvQ rfl (zac rfl rfl rfl (zaa 0 rfl rfl)) (zak 1 rfl (hvQ rfl (riQ 3 rfl rfl rfl rfl (zag ((hr).s))) (hvQ rfl (zbe (k0 := 0) rfl rfl rfl (zag ((hr).s)) (by omega)) ?_))))))))
 refine hvQ rfl (zat (u := .int .i64 ((m.ss.getD ((s).toNat) sg0).k)) rfl rfl rfl (zag ((hr).s)) ((zce sgC 3 (fun _ => rfl) m.ss sg0 (show (s).toNat < _ by omega) (by decide)).trans rfl)) (zba 1 rfl ?_)
 exact zal (zaq rfl rfl (congrArg _ ((zch ⟨by omega, by omega⟩).symm)))
theorem zen (m : Md) (s : Int) (w : World) (hr : RdsMd w m) :
   Calls Try.prog 152 #[.agg #[m.sv, m.av, m.iv, m.mv], .int .i64 s] w (Ans w (.bool (pB (Drv m s)))) := by
 have hs9 := sml hr.s
 refine zcf (N := 15) (args := [.agg #[m.sv, m.av, m.iv, m.mv], .int .i64 s]) Try.func152 rfl rfl (srQ ?_)
 refine zdv rfl (zdp rfl rfl) ?_
 intro b1
 refine zba 1 rfl (srQ (hvQ rfl (zaw (cs := [m.sv, m.av, m.iv, m.mv]) rfl rfl rfl rfl rfl (zau 0 rfl 0 rfl)) (zak 1 rfl ?_)))
 refine zdw rfl (zar rfl rfl (fun w hm => zav (zdn m s w (hr.below hm.bel)))) (zba 1 rfl (zah (reQ 1 rfl ?_)))
 refine zby rfl rfl rfl rfl rfl rfl (fun h2 => ?_) (fun h2 => ?_)
 ·
  refine zba 5 rfl ?_
  exact zal (zaq rfl rfl (congrArg _ (zcz (by first | exact .inl (by omega) | exact .inr (by omega))).symm))
 refine zak 2 rfl (zby rfl rfl rfl rfl rfl rfl (fun h3 => ?_) (fun h3 => ?_))
 ·
  refine zba 2 rfl ?_
  exact zal (zaq rfl rfl (congrArg _ (zcz (by first | exact .inl (by omega) | exact .inr (by omega))).symm))
 refine zba 2 rfl ?_
 exact zal (zaq rfl rfl (congrArg _ (zbx (fun hp => by first | (rcases hp with hp | hp <;> omega))).symm))
theorem specModuleOk_ans (D : List Md) (k : Nat) (v : Value) (w : World) (hd : RdsDs w v D) (hk : k < D.length) :
   Calls Try.prog 109 #[.agg #[v], .int .i64 (k : Int)] w (Ans w (.bool (pB (ModP D k)))) := by
 have hd9 := sml hd.row
 refine zcf (N := 205) (args := [.agg #[v], .int .i64 (k : Int)]) Try.func109 rfl rfl (srQ ?_)
 refine zdv rfl (zdp rfl rfl) ?_
 intro b1
 refine zba 1 rfl (ssrQ (hvQ rfl (zaw (cs := [v]) rfl rfl rfl rfl rfl (zau 0 rfl 0 rfl)) (zak 1 rfl ?_)))
 refine zdw rfl (zar rfl rfl (fun w hm => zav (l04Counts_ans D k v w (hd.below hm.bel)))) (zbm (fun h2 => ?_) (fun h2 => ?_))
 ·
  have h2p := zfa h2
  refine zba 1 rfl (zap rfl (zdi (srQ (hvQ rfl (fdQ 0 rfl rfl rfl) (hvQ rfl (zac rfl rfl rfl (zaa 0 rfl rfl)) (zak 1 rfl (hvQ rfl (riQ 4 rfl rfl rfl rfl (zag hd.row)) ?_)))))))
  refine hvQ rfl (zbi (us := [(D.getD k md0).sv, (D.getD k md0).av, (D.getD k md0).iv, (D.getD k md0).mv]) rfl rfl rfl rfl (zag hd.row) (by omega) rfl (zca mdC 4 (fun _ => rfl) D md0 (show k < _ by omega) rfl)) (zdv rfl (zbj (z := .agg #[.slice none 0 0, .slice none 0 0, .slice none 0 0, .slice none 0 0]) rfl rfl) ?_)
  intro b3
  refine zbn (cs' := #[(D.getD k md0).sv, (D.getD k md0).av, (D.getD k md0).iv, (D.getD k md0).mv]) (i := 0) (off := 0) (us := [(D.getD k md0).sv, (D.getD k md0).av, (D.getD k md0).iv, (D.getD k md0).mv]) rfl rfl rfl rfl rfl rfl rfl (zad (hd.at (k := k) (by omega)).s.one (zad (hd.at (k := k) (by omega)).g.one (zad (hd.at (k := k) (by omega)).x.one (zad (hd.at (k := k) (by omega)).m.one zbg)))) rfl rfl rfl (ntQ (zah (zbk 1 rfl (zbh ?_))))
  refine lkQ1 (α := Nat) [0, 1, 2, 4, 5, 20] rfl (fun i => [boxE b3 #[(D.getD k md0).sv, (D.getD k md0).av, (D.getD k md0).iv, (D.getD k md0).mv] 35, boxE b1 #[v] 26]) (fun i => [(6, .int .i64 (i : Int))]) (fun i => i ≤ (D.getD k md0).ss.length ∧ (∀ q, q < i → SgP ((D.getD k md0).ss.getD q sg0)) ∧ (∀ q, q < i → ((D.getD k md0).ss.getD q sg0).k ≠ 0 → (drvL D (D.getD k md0)).count (q : Int) = 1)) (fun i => (D.getD k md0).ss.length - i) 0 ⟨Nat.zero_le _, fun q hq => absurd hq (by omega), fun q hq => absurd hq (by omega)⟩ (saQ rfl) (pfQ rfl) ?_
  intro i hi4
  obtain ⟨hi, hsg, hdr⟩ := hi4
  have hcts : CtsP D k := by assumption
  obtain ⟨hkl, hcnt, hins⟩ := (show CtsP D k by assumption)
  obtain ⟨hn1, hn2, hn3, hn4⟩ := hcnt.md k hkl
  refine zah (zah (reQ 1 rfl (hvQ rfl (fdQ 0 rfl rfl rfl) (hvQ rfl (zac rfl rfl rfl (zaa 0 rfl rfl)) (hvQ rfl (lnQ rfl rfl rfl (zag ((hd.at (k := k) (by omega)).s))) ?_)))))
  refine zcb rfl rfl rfl rfl rfl rfl (fun h5 => ?_) (fun h5 => ?_)
  ·
   refine ntQ (zaj rfl (zdi (sbQ (srQ (hvQ rfl (fdQ 0 rfl rfl rfl) (hvQ rfl (zac rfl rfl rfl (zaa 0 rfl rfl)) (zak 1 rfl (hvQ rfl (riQ 3 rfl rfl rfl rfl (zag ((hd.at (k := k) (by omega)).s))) ?_))))))))
   refine hvQ rfl (zbi (us := [.int .i64 ((((D.getD k md0).ss).getD i sg0).k), .int .i64 ((((D.getD k md0).ss).getD i sg0).w), .int .i64 ((((D.getD k md0).ss).getD i sg0).i)]) rfl rfl rfl rfl (zag ((hd.at (k := k) (by omega)).s)) (by omega) rfl (zca sgC 3 (fun _ => rfl) ((D.getD k md0).ss) sg0 (show i < _ by omega) rfl)) (zdv rfl (zbj (z := .agg #[.int .i64 0, .int .i64 0, .int .i64 0]) rfl rfl) ?_)
   intro b6
   refine zbn (cs' := #[.int .i64 ((((D.getD k md0).ss).getD i sg0).k), .int .i64 ((((D.getD k md0).ss).getD i sg0).w), .int .i64 ((((D.getD k md0).ss).getD i sg0).i)]) (i := 0) (off := 0) (us := [.int .i64 ((((D.getD k md0).ss).getD i sg0).k), .int .i64 ((((D.getD k md0).ss).getD i sg0).w), .int .i64 ((((D.getD k md0).ss).getD i sg0).i)]) rfl rfl rfl rfl rfl rfl rfl (zad rfl (zad rfl (zad rfl zbg))) rfl rfl rfl (ntQ (ssrQ (hvQ rfl (fdQ 0 rfl rfl rfl) (hvQ rfl (zac rfl rfl rfl (zaa 0 rfl rfl)) ?_))))
   refine zdw rfl (zar rfl rfl (fun w hm => zav (inD_ans ((((D.getD k md0).ss).getD i sg0).k) 0 3 w))) (zbm (fun h7 => ?_) (fun h7 => ?_))
   ·
    obtain ⟨h7a, h7b⟩ := (zco _ _ _).1 h7
    refine zak 2 rfl (hvQ rfl (fdQ 1 rfl rfl rfl) (hvQ rfl (zac rfl rfl rfl (zaa 0 rfl rfl)) ?_))
    refine zdw rfl (zar rfl rfl (fun w hm => zav (inD_ans ((((D.getD k md0).ss).getD i sg0).w) 0 4 w))) (zbm (fun h8 => ?_) (fun h8 => ?_))
    ·
     obtain ⟨h8a, h8b⟩ := (zco _ _ _).1 h8
     refine zak 3 rfl (hvQ rfl (fdQ 2 rfl rfl rfl) (hvQ rfl (zac rfl rfl rfl (zaa 0 rfl rfl)) ?_))
     refine zdw rfl (zar rfl rfl (fun w hm => zav (inD_ans ((((D.getD k md0).ss).getD i sg0).i) 0 15 w))) (zbm (fun h9 => ?_) (fun h9 => ?_))
     ·
      obtain ⟨h9a, h9b⟩ := (zco _ _ _).1 h9
      refine zak 3 rfl (hvQ rfl (fdQ 2 rfl rfl rfl) (hvQ rfl (zac rfl rfl rfl (zaa 0 rfl rfl)) ?_))
      refine hl_neq rfl rfl rfl rfl rfl rfl (fun h10 => ?_) (fun h10 => ?_)
      ·
       refine zak 1 rfl (hvQ rfl (fdQ 0 rfl rfl rfl) (hvQ rfl (zac rfl rfl rfl (zaa 0 rfl rfl)) ?_))
       refine hl_neq rfl rfl rfl rfl rfl rfl (fun h11 => ?_) (fun h11 => ?_)
       ·
        refine zba 2 rfl (zaj rfl (zbk 1 rfl ?_))
        refine zal (zae ?_)
        refine zab (zdx ?_)
        refine zab (zae ?_)
        exact zaq rfl rfl (congrArg _ (zbx (fun hp => by first | (exact absurd (show CtsP D k from ⟨hp.lt, hp.cnt, hp.ins⟩) (by assumption)) | (have h9 := hp.sg i (by omega); obtain ⟨⟨h1, h2⟩, ⟨h3, h4⟩, ⟨h5, h6⟩, h7⟩ := h9; omega) | (have h9 := hp.dr i (by omega) (by omega); omega) | (exact absurd (hp.gs i (by omega)).2 (by assumption)) | (have h9 := (hp.gs i (by omega)).1; have h8 : ¬ Drv (D.getD k md0) ((D.getD k md0).gs.getD i as0).t := (by assumption); exact h8 (by first | exact .inl (by omega) | exact .inr (by omega))) | (have h9 := (hp.gs i (by omega)).1; have h8 : ¬ Drv (D.getD k md0) ((D.getD k md0).gs.getD i as0).t := (by assumption); unfold Drv at h8; omega) | (have h9 := (hp.xs i (by omega)).1; omega) | (have h9 := ((hp.xs i (by omega)).2 j (by omega)).1; have h8 := (zbc hsgA).2 h9; omega) | (have h9 := ((hp.xs i (by omega)).2 j (by omega)).2 (by omega); exact absurd h9 (by assumption)) | (obtain ⟨⟨h1, h2, h3⟩, h4⟩ := hp.ms i (by omega); have g1 := (zbc hsgA).2 h1; have g2 := (zbc hsgA).2 h2; have g3 := (zbc hsgA).2 h3; first | omega | exact absurd h4 (by assumption)))).symm)
       refine zba 2 rfl (zap rfl (zdi (srQ (hvQ rfl (fdQ 0 rfl rfl rfl) (hvQ rfl (zac rfl rfl rfl (zaa 0 rfl rfl)) ?_)))))
       refine hl_neq rfl rfl rfl rfl rfl rfl (fun h12 => ?_) (fun h12 => ?_)
       ·
        refine zak 1 rfl (hvQ rfl (zaw (cs := [v]) rfl rfl rfl rfl rfl (zau 2 rfl 0 rfl)) (zak 2 rfl ?_))
        refine zdw rfl (zar rfl rfl (fun w hm => zav (zeq D k i v w (hd.below hm.bel) hcts (by omega)))) (hl_neq rfl rfl rfl rfl rfl rfl (fun h13 => ?_) (fun h13 => ?_))
        ·
         refine zba 1 rfl (zaj rfl (zbk 1 rfl ?_))
         refine zal (zab ?_)
         refine zdx ?_
         refine zab (zae ?_)
         exact zaq rfl rfl (congrArg _ (zbx (fun hp => by first | (exact absurd (show CtsP D k from ⟨hp.lt, hp.cnt, hp.ins⟩) (by assumption)) | (have h9 := hp.sg i (by omega); obtain ⟨⟨h1, h2⟩, ⟨h3, h4⟩, ⟨h5, h6⟩, h7⟩ := h9; omega) | (have h9 := hp.dr i (by omega) (by omega); omega) | (exact absurd (hp.gs i (by omega)).2 (by assumption)) | (have h9 := (hp.gs i (by omega)).1; have h8 : ¬ Drv (D.getD k md0) ((D.getD k md0).gs.getD i as0).t := (by assumption); exact h8 (by first | exact .inl (by omega) | exact .inr (by omega))) | (have h9 := (hp.gs i (by omega)).1; have h8 : ¬ Drv (D.getD k md0) ((D.getD k md0).gs.getD i as0).t := (by assumption); unfold Drv at h8; omega) | (have h9 := (hp.xs i (by omega)).1; omega) | (have h9 := ((hp.xs i (by omega)).2 j (by omega)).1; have h8 := (zbc hsgA).2 h9; omega) | (have h9 := ((hp.xs i (by omega)).2 j (by omega)).2 (by omega); exact absurd h9 (by assumption)) | (obtain ⟨⟨h1, h2, h3⟩, h4⟩ := hp.ms i (by omega); have g1 := (zbc hsgA).2 h1; have g2 := (zbc hsgA).2 h2; have g3 := (zbc hsgA).2 h3; first | omega | exact absurd h4 (by assumption)))).symm)
        refine zba 1 rfl (fsQ rfl (zdq (reQ 1 rfl (hvQ rfl (vaQ rfl rfl rfl) (enQ 1 rfl ?_)))))
        exact zbw (i + 1) ⟨by omega, ⟨fun q hq => by by_cases e : q = i; (subst e; exact ⟨⟨by omega, by omega⟩, ⟨by omega, by omega⟩, ⟨by omega, by omega⟩, by omega⟩); exact hsg q (by omega), fun q hq => by by_cases e : q = i; (subst e; omega); exact hdr q (by omega)⟩⟩ (by omega) (saQ rfl) (slQ [1, 0] rfl)
       refine zba 7 rfl (fsQ rfl (zdq (zbb ?_)))
       refine zak 1 rfl (hvQ rfl (vaQ rfl rfl rfl) (enQ 1 rfl ?_))
       exact zbw (i + 1) ⟨by omega, ⟨fun q hq => by by_cases e : q = i; (subst e; exact ⟨⟨by omega, by omega⟩, ⟨by omega, by omega⟩, ⟨by omega, by omega⟩, by omega⟩); exact hsg q (by omega), fun q hq => by by_cases e : q = i; (subst e; omega); exact hdr q (by omega)⟩⟩ (by omega) (saQ rfl) (slQ [1, 0] rfl)
      refine zba 6 rfl (zap rfl (zdi (srQ (hvQ rfl (fdQ 0 rfl rfl rfl) ?_))))
      refine hvQ rfl (zac rfl rfl rfl (zaa 0 rfl rfl)) (hl_neq rfl rfl rfl rfl rfl rfl (fun h14 => ?_) (fun h14 => ?_))
      ·
       refine zak 1 rfl (hvQ rfl (zaw (cs := [v]) rfl rfl rfl rfl rfl (zau 2 rfl 0 rfl)) (zak 2 rfl ?_))
       refine zdw rfl (zar rfl rfl (fun w hm => zav (zeq D k i v w (hd.below hm.bel) hcts (by omega)))) (hl_neq rfl rfl rfl rfl rfl rfl (fun h15 => ?_) (fun h15 => ?_))
       ·
        refine zba 1 rfl (zaj rfl (zbk 1 rfl ?_))
        refine zal (zab ?_)
        refine zdx ?_
        refine zab (zae ?_)
        exact zaq rfl rfl (congrArg _ (zbx (fun hp => by first | (exact absurd (show CtsP D k from ⟨hp.lt, hp.cnt, hp.ins⟩) (by assumption)) | (have h9 := hp.sg i (by omega); obtain ⟨⟨h1, h2⟩, ⟨h3, h4⟩, ⟨h5, h6⟩, h7⟩ := h9; omega) | (have h9 := hp.dr i (by omega) (by omega); omega) | (exact absurd (hp.gs i (by omega)).2 (by assumption)) | (have h9 := (hp.gs i (by omega)).1; have h8 : ¬ Drv (D.getD k md0) ((D.getD k md0).gs.getD i as0).t := (by assumption); exact h8 (by first | exact .inl (by omega) | exact .inr (by omega))) | (have h9 := (hp.gs i (by omega)).1; have h8 : ¬ Drv (D.getD k md0) ((D.getD k md0).gs.getD i as0).t := (by assumption); unfold Drv at h8; omega) | (have h9 := (hp.xs i (by omega)).1; omega) | (have h9 := ((hp.xs i (by omega)).2 j (by omega)).1; have h8 := (zbc hsgA).2 h9; omega) | (have h9 := ((hp.xs i (by omega)).2 j (by omega)).2 (by omega); exact absurd h9 (by assumption)) | (obtain ⟨⟨h1, h2, h3⟩, h4⟩ := hp.ms i (by omega); have g1 := (zbc hsgA).2 h1; have g2 := (zbc hsgA).2 h2; have g3 := (zbc hsgA).2 h3; first | omega | exact absurd h4 (by assumption)))).symm)
       refine zba 1 rfl (fsQ rfl (zdq (reQ 1 rfl (hvQ rfl (vaQ rfl rfl rfl) (enQ 1 rfl ?_)))))
       exact zbw (i + 1) ⟨by omega, ⟨fun q hq => by by_cases e : q = i; (subst e; exact ⟨⟨by omega, by omega⟩, ⟨by omega, by omega⟩, ⟨by omega, by omega⟩, by omega⟩); exact hsg q (by omega), fun q hq => by by_cases e : q = i; (subst e; omega); exact hdr q (by omega)⟩⟩ (by omega) (saQ rfl) (slQ [1, 0] rfl)
      refine zba 7 rfl (fsQ rfl (zdq (zbb ?_)))
      refine zak 1 rfl (hvQ rfl (vaQ rfl rfl rfl) (enQ 1 rfl ?_))
      exact zbw (i + 1) ⟨by omega, ⟨fun q hq => by by_cases e : q = i; (subst e; exact ⟨⟨by omega, by omega⟩, ⟨by omega, by omega⟩, ⟨by omega, by omega⟩, by omega⟩); exact hsg q (by omega), fun q hq => by by_cases e : q = i; (subst e; omega); exact hdr q (by omega)⟩⟩ (by omega) (saQ rfl) (slQ [1, 0] rfl)
     have h9a := zck h9
     refine zba 12 rfl (zaj rfl (zah ?_))
     refine zbb (zba 1 rfl ?_)
     refine zal (zae ?_)
     refine zab (zdx ?_)
     refine zab (zae ?_)
     exact zaq rfl rfl (congrArg _ (zbx (fun hp => by first | (exact absurd (show CtsP D k from ⟨hp.lt, hp.cnt, hp.ins⟩) (by assumption)) | (have h9 := hp.sg i (by omega); obtain ⟨⟨h1, h2⟩, ⟨h3, h4⟩, ⟨h5, h6⟩, h7⟩ := h9; omega) | (have h9 := hp.dr i (by omega) (by omega); omega) | (exact absurd (hp.gs i (by omega)).2 (by assumption)) | (have h9 := (hp.gs i (by omega)).1; have h8 : ¬ Drv (D.getD k md0) ((D.getD k md0).gs.getD i as0).t := (by assumption); exact h8 (by first | exact .inl (by omega) | exact .inr (by omega))) | (have h9 := (hp.gs i (by omega)).1; have h8 : ¬ Drv (D.getD k md0) ((D.getD k md0).gs.getD i as0).t := (by assumption); unfold Drv at h8; omega) | (have h9 := (hp.xs i (by omega)).1; omega) | (have h9 := ((hp.xs i (by omega)).2 j (by omega)).1; have h8 := (zbc hsgA).2 h9; omega) | (have h9 := ((hp.xs i (by omega)).2 j (by omega)).2 (by omega); exact absurd h9 (by assumption)) | (obtain ⟨⟨h1, h2, h3⟩, h4⟩ := hp.ms i (by omega); have g1 := (zbc hsgA).2 h1; have g2 := (zbc hsgA).2 h2; have g3 := (zbc hsgA).2 h3; first | omega | exact absurd h4 (by assumption)))).symm)
    have h8a := zck h8
    refine zak 18 rfl (?_)
    refine ntQ (zaj rfl (zbk 1 rfl ?_))
    refine zal (zae ?_)
    refine zab (zdx ?_)
    refine zab (zae ?_)
    exact zaq rfl rfl (congrArg _ (zbx (fun hp => by first | (exact absurd (show CtsP D k from ⟨hp.lt, hp.cnt, hp.ins⟩) (by assumption)) | (have h9 := hp.sg i (by omega); obtain ⟨⟨h1, h2⟩, ⟨h3, h4⟩, ⟨h5, h6⟩, h7⟩ := h9; omega) | (have h9 := hp.dr i (by omega) (by omega); omega) | (exact absurd (hp.gs i (by omega)).2 (by assumption)) | (have h9 := (hp.gs i (by omega)).1; have h8 : ¬ Drv (D.getD k md0) ((D.getD k md0).gs.getD i as0).t := (by assumption); exact h8 (by first | exact .inl (by omega) | exact .inr (by omega))) | (have h9 := (hp.gs i (by omega)).1; have h8 : ¬ Drv (D.getD k md0) ((D.getD k md0).gs.getD i as0).t := (by assumption); unfold Drv at h8; omega) | (have h9 := (hp.xs i (by omega)).1; omega) | (have h9 := ((hp.xs i (by omega)).2 j (by omega)).1; have h8 := (zbc hsgA).2 h9; omega) | (have h9 := ((hp.xs i (by omega)).2 j (by omega)).2 (by omega); exact absurd h9 (by assumption)) | (obtain ⟨⟨h1, h2, h3⟩, h4⟩ := hp.ms i (by omega); have g1 := (zbc hsgA).2 h1; have g2 := (zbc hsgA).2 h2; have g3 := (zbc hsgA).2 h3; first | omega | exact absurd h4 (by assumption)))).symm)
   have h7a := zck h7
   refine zba 23 rfl (zaj rfl (zbk 1 rfl ?_))
   refine zal (zae ?_)
   refine zab (zdx ?_)
   refine zab (zae ?_)
   exact zaq rfl rfl (congrArg _ (zbx (fun hp => by first | (exact absurd (show CtsP D k from ⟨hp.lt, hp.cnt, hp.ins⟩) (by assumption)) | (have h9 := hp.sg i (by omega); obtain ⟨⟨h1, h2⟩, ⟨h3, h4⟩, ⟨h5, h6⟩, h7⟩ := h9; omega) | (have h9 := hp.dr i (by omega) (by omega); omega) | (exact absurd (hp.gs i (by omega)).2 (by assumption)) | (have h9 := (hp.gs i (by omega)).1; have h8 : ¬ Drv (D.getD k md0) ((D.getD k md0).gs.getD i as0).t := (by assumption); exact h8 (by first | exact .inl (by omega) | exact .inr (by omega))) | (have h9 := (hp.gs i (by omega)).1; have h8 : ¬ Drv (D.getD k md0) ((D.getD k md0).gs.getD i as0).t := (by assumption); unfold Drv at h8; omega) | (have h9 := (hp.xs i (by omega)).1; omega) | (have h9 := ((hp.xs i (by omega)).2 j (by omega)).1; have h8 := (zbc hsgA).2 h9; omega) | (have h9 := ((hp.xs i (by omega)).2 j (by omega)).2 (by omega); exact absurd h9 (by assumption)) | (obtain ⟨⟨h1, h2, h3⟩, h4⟩ := hp.ms i (by omega); have g1 := (zbc hsgA).2 h1; have g2 := (zbc hsgA).2 h2; have g3 := (zbc hsgA).2 h3; first | omega | exact absurd h4 (by assumption)))).symm)
  refine ntQ (zap rfl ?_)
  refine zbv (zep ?_)
  refine zan (zbf (zah (zbk 1 rfl (zbh ?_))))
  refine lkQ1 (α := Nat) [0, 1, 2, 4, 5, 20, 30] rfl (fun i => [boxE b3 #[(D.getD k md0).sv, (D.getD k md0).av, (D.getD k md0).iv, (D.getD k md0).mv] 35, boxE b1 #[v] 26]) (fun i => [(8, .int .i64 (i : Int))]) (fun i => i ≤ (D.getD k md0).gs.length ∧ ∀ q, q < i → AsP (D.getD k md0) ((D.getD k md0).gs.getD q as0)) (fun i => (D.getD k md0).gs.length - i) 0 ⟨Nat.zero_le _, fun q hq => absurd hq (by omega)⟩ (saQ rfl) (pfQ rfl) ?_
  intro i hi16
  obtain ⟨hi, hgs⟩ := hi16
  have hsgA : ∀ q, q < (D.getD k md0).ss.length → SgP ((D.getD k md0).ss.getD q sg0) := fun q hq => hsg q (by omega)
  refine zah (zah (reQ 1 rfl (hvQ rfl (fdQ 1 rfl rfl rfl) (hvQ rfl (zac rfl rfl rfl (zaa 0 rfl rfl)) (hvQ rfl (lnQ rfl rfl rfl (zag ((hd.at (k := k) (by omega)).g))) ?_)))))
  refine zcb rfl rfl rfl rfl rfl rfl (fun h17 => ?_) (fun h17 => ?_)
  ·
   refine ntQ (zaj rfl (zdi (sbQ (srQ (hvQ rfl (fdQ 1 rfl rfl rfl) (hvQ rfl (zac rfl rfl rfl (zaa 0 rfl rfl)) (zak 1 rfl (hvQ rfl (riQ 2 rfl rfl rfl rfl (zag ((hd.at (k := k) (by omega)).g))) ?_))))))))
   refine hvQ rfl (zbi (us := [.int .i64 ((((D.getD k md0).gs).getD i as0).t), (((D.getD k md0).gs).getD i as0).ov]) rfl rfl rfl rfl (zag ((hd.at (k := k) (by omega)).g)) (by omega) rfl (zca asC 2 (fun _ => rfl) ((D.getD k md0).gs) as0 (show i < _ by omega) rfl)) (zdv rfl (zbj (z := .agg #[.int .i64 0, .slice none 0 0]) rfl rfl) ?_)
   intro b18
   refine zbn (cs' := #[.int .i64 ((((D.getD k md0).gs).getD i as0).t), (((D.getD k md0).gs).getD i as0).ov]) (i := 0) (off := 0) (us := [.int .i64 ((((D.getD k md0).gs).getD i as0).t), (((D.getD k md0).gs).getD i as0).ov]) rfl rfl rfl rfl rfl rfl rfl (zad rfl (zad ((hd.at (k := k) (by omega)).o.at (k := i) (by omega)).one zbg)) rfl rfl rfl (ntQ (srQ (hvQ rfl (zaw (cs := [(D.getD k md0).sv, (D.getD k md0).av, (D.getD k md0).iv, (D.getD k md0).mv]) rfl rfl rfl rfl rfl (zau 1 rfl 0 rfl)) (hvQ rfl (fdQ 0 rfl rfl rfl) (hvQ rfl (zac rfl rfl rfl (zaa 0 rfl rfl)) ?_)))))
   refine zdw rfl (zar rfl rfl (fun w hm => zav (zen (D.getD k md0) ((((D.getD k md0).gs).getD i as0).t) w ((hd.at (k := k) (by omega)).below hm.bel)))) (zbm (fun h19 => ?_) (fun h19 => ?_))
   ·
    have h19p := zfa h19
    refine zak 9 rfl (hvQ rfl (fdQ 1 rfl rfl rfl) (hvQ rfl (zac rfl rfl rfl (zaa 0 rfl rfl)) (hvQ rfl (fdQ 0 rfl rfl rfl) (hvQ rfl (zac rfl rfl rfl (zaa 1 rfl rfl)) (hvQ rfl (lnQ rfl rfl rfl (zag ((hd.at (k := k) (by omega)).s))) ?_)))))
    refine zdw rfl (zar rfl rfl (fun w hm => zav (specOpsOk_ans ((D.getD k md0).gs.getD i as0).os (((D.getD k md0).ss).length : Int) _ w (((hd.at (k := k) (by omega)).below hm.bel).o.at (by omega))))) (zbm (fun h20 => ?_) (fun h20 => ?_))
    ·
     have h20p := zfa h20
     refine zba 2 rfl (fsQ rfl (zdq (reQ 1 rfl (hvQ rfl (vaQ rfl rfl rfl) (enQ 1 rfl ?_)))))
     exact zbw (i + 1) ⟨by omega, fun q hq => by by_cases e : q = i; (subst e; exact ⟨by first | exact ⟨by omega, by omega⟩ | (rename_i hdv9; rcases (show Drv _ _ by assumption) with h9 | h9 <;> exact ⟨by omega, by omega⟩), by assumption⟩); exact hgs q (by omega)⟩ (by omega) (saQ rfl) (slQ [1, 0] rfl)
    have h20p := zeg h20
    refine zba 2 rfl (zaj rfl (zbk 1 rfl ?_))
    refine zal (zab ?_)
    refine zdx ?_
    refine zab (zae ?_)
    exact zaq rfl rfl (congrArg _ (zbx (fun hp => by first | (exact absurd (show CtsP D k from ⟨hp.lt, hp.cnt, hp.ins⟩) (by assumption)) | (have h9 := hp.sg i (by omega); obtain ⟨⟨h1, h2⟩, ⟨h3, h4⟩, ⟨h5, h6⟩, h7⟩ := h9; omega) | (have h9 := hp.dr i (by omega) (by omega); omega) | (exact absurd (hp.gs i (by omega)).2 (by assumption)) | (have h9 := (hp.gs i (by omega)).1; have h8 : ¬ Drv (D.getD k md0) ((D.getD k md0).gs.getD i as0).t := (by assumption); exact h8 (by first | exact .inl (by omega) | exact .inr (by omega))) | (have h9 := (hp.gs i (by omega)).1; have h8 : ¬ Drv (D.getD k md0) ((D.getD k md0).gs.getD i as0).t := (by assumption); unfold Drv at h8; omega) | (have h9 := (hp.xs i (by omega)).1; omega) | (have h9 := ((hp.xs i (by omega)).2 j (by omega)).1; have h8 := (zbc hsgA).2 h9; omega) | (have h9 := ((hp.xs i (by omega)).2 j (by omega)).2 (by omega); exact absurd h9 (by assumption)) | (obtain ⟨⟨h1, h2, h3⟩, h4⟩ := hp.ms i (by omega); have g1 := (zbc hsgA).2 h1; have g2 := (zbc hsgA).2 h2; have g3 := (zbc hsgA).2 h3; first | omega | exact absurd h4 (by assumption)))).symm)
   have h19p := zeg h19
   refine zak 2 rfl (hvQ rfl (zaw (cs := [(D.getD k md0).sv, (D.getD k md0).av, (D.getD k md0).iv, (D.getD k md0).mv]) rfl rfl rfl rfl rfl (zau 1 rfl 0 rfl)) (hvQ rfl (fdQ 0 rfl rfl rfl) (hvQ rfl (zac rfl rfl rfl (zaa 0 rfl rfl)) ?_)))
   refine zdw rfl (zar rfl rfl (fun w hm => zav (zdn (D.getD k md0) ((((D.getD k md0).gs).getD i as0).t) w ((hd.at (k := k) (by omega)).below hm.bel)))) (hl_neq rfl rfl rfl rfl rfl rfl (fun h21 => ?_) (fun h21 => ?_))
   ·
    refine zba 10 rfl (zaj rfl (srQ ?_))
    refine zba 1 rfl ?_
    refine zal (zab ?_)
    refine zdx ?_
    refine zab (zae ?_)
    exact zaq rfl rfl (congrArg _ (zbx (fun hp => by first | (exact absurd (show CtsP D k from ⟨hp.lt, hp.cnt, hp.ins⟩) (by assumption)) | (have h9 := hp.sg i (by omega); obtain ⟨⟨h1, h2⟩, ⟨h3, h4⟩, ⟨h5, h6⟩, h7⟩ := h9; omega) | (have h9 := hp.dr i (by omega) (by omega); omega) | (exact absurd (hp.gs i (by omega)).2 (by assumption)) | (have h9 := (hp.gs i (by omega)).1; have h8 : ¬ Drv (D.getD k md0) ((D.getD k md0).gs.getD i as0).t := (by assumption); exact h8 (by first | exact .inl (by omega) | exact .inr (by omega))) | (have h9 := (hp.gs i (by omega)).1; have h8 : ¬ Drv (D.getD k md0) ((D.getD k md0).gs.getD i as0).t := (by assumption); unfold Drv at h8; omega) | (have h9 := (hp.xs i (by omega)).1; omega) | (have h9 := ((hp.xs i (by omega)).2 j (by omega)).1; have h8 := (zbc hsgA).2 h9; omega) | (have h9 := ((hp.xs i (by omega)).2 j (by omega)).2 (by omega); exact absurd h9 (by assumption)) | (obtain ⟨⟨h1, h2, h3⟩, h4⟩ := hp.ms i (by omega); have g1 := (zbc hsgA).2 h1; have g2 := (zbc hsgA).2 h2; have g3 := (zbc hsgA).2 h3; first | omega | exact absurd h4 (by assumption)))).symm)
   refine zak 2 rfl (hvQ rfl (fdQ 1 rfl rfl rfl) (hvQ rfl (zac rfl rfl rfl (zaa 0 rfl rfl)) (hvQ rfl (fdQ 0 rfl rfl rfl) (hvQ rfl (zac rfl rfl rfl (zaa 1 rfl rfl)) (hvQ rfl (lnQ rfl rfl rfl (zag ((hd.at (k := k) (by omega)).s))) ?_)))))
   refine zdw rfl (zar rfl rfl (fun w hm => zav (specOpsOk_ans ((D.getD k md0).gs.getD i as0).os (((D.getD k md0).ss).length : Int) _ w (((hd.at (k := k) (by omega)).below hm.bel).o.at (by omega))))) (zbm (fun h22 => ?_) (fun h22 => ?_))
   ·
    have h22p := zfa h22
    refine zba 2 rfl (fsQ rfl (zdq (reQ 1 rfl (hvQ rfl (vaQ rfl rfl rfl) (enQ 1 rfl ?_)))))
    exact zbw (i + 1) ⟨by omega, fun q hq => by by_cases e : q = i; (subst e; exact ⟨by first | exact ⟨by omega, by omega⟩ | (rename_i hdv9; rcases (show Drv _ _ by assumption) with h9 | h9 <;> exact ⟨by omega, by omega⟩), by assumption⟩); exact hgs q (by omega)⟩ (by omega) (saQ rfl) (slQ [1, 0] rfl)
   have h22p := zeg h22
   refine zba 2 rfl (zaj rfl (zbk 1 rfl ?_))
   refine zal (zab ?_)
   refine zdx ?_
   refine zab (zae ?_)
   exact zaq rfl rfl (congrArg _ (zbx (fun hp => by first | (exact absurd (show CtsP D k from ⟨hp.lt, hp.cnt, hp.ins⟩) (by assumption)) | (have h9 := hp.sg i (by omega); obtain ⟨⟨h1, h2⟩, ⟨h3, h4⟩, ⟨h5, h6⟩, h7⟩ := h9; omega) | (have h9 := hp.dr i (by omega) (by omega); omega) | (exact absurd (hp.gs i (by omega)).2 (by assumption)) | (have h9 := (hp.gs i (by omega)).1; have h8 : ¬ Drv (D.getD k md0) ((D.getD k md0).gs.getD i as0).t := (by assumption); exact h8 (by first | exact .inl (by omega) | exact .inr (by omega))) | (have h9 := (hp.gs i (by omega)).1; have h8 : ¬ Drv (D.getD k md0) ((D.getD k md0).gs.getD i as0).t := (by assumption); unfold Drv at h8; omega) | (have h9 := (hp.xs i (by omega)).1; omega) | (have h9 := ((hp.xs i (by omega)).2 j (by omega)).1; have h8 := (zbc hsgA).2 h9; omega) | (have h9 := ((hp.xs i (by omega)).2 j (by omega)).2 (by omega); exact absurd h9 (by assumption)) | (obtain ⟨⟨h1, h2, h3⟩, h4⟩ := hp.ms i (by omega); have g1 := (zbc hsgA).2 h1; have g2 := (zbc hsgA).2 h2; have g3 := (zbc hsgA).2 h3; first | omega | exact absurd h4 (by assumption)))).symm)
  refine ntQ (zap rfl ?_)
  refine zbv (zep ?_)
  refine zan (zbf (zah (zbk 1 rfl (zbh ?_))))
  refine lkQ1 (α := Nat) [0, 1, 2, 4, 5, 20, 30, 78] rfl (fun i => [boxE b3 #[(D.getD k md0).sv, (D.getD k md0).av, (D.getD k md0).iv, (D.getD k md0).mv] 35, boxE b1 #[v] 26]) (fun i => [(10, .int .i64 (i : Int))]) (fun i => i ≤ (D.getD k md0).xs.length ∧ ∀ q, q < i → IxP D (D.getD k md0) ((D.getD k md0).xs.getD q ix0)) (fun i => (D.getD k md0).xs.length - i) 0 ⟨Nat.zero_le _, fun q hq => absurd hq (by omega)⟩ (saQ rfl) (pfQ rfl) ?_
  intro i hi23
  obtain ⟨hi, hxs⟩ := hi23
  refine zah (zah (reQ 1 rfl (hvQ rfl (fdQ 2 rfl rfl rfl) (hvQ rfl (zac rfl rfl rfl (zaa 0 rfl rfl)) (hvQ rfl (lnQ rfl rfl rfl (zag ((hd.at (k := k) (by omega)).x))) ?_)))))
  refine zcb rfl rfl rfl rfl rfl rfl (fun h24 => ?_) (fun h24 => ?_)
  ·
   refine ntQ (zaj rfl (zdi (sbQ (srQ (hvQ rfl (fdQ 2 rfl rfl rfl) (hvQ rfl (zac rfl rfl rfl (zaa 0 rfl rfl)) (zak 1 rfl (hvQ rfl (riQ 3 rfl rfl rfl rfl (zag ((hd.at (k := k) (by omega)).x))) ?_))))))))
   refine hvQ rfl (zbi (us := [.int .i64 ((((D.getD k md0).xs).getD i ix0).m), .int .i64 ((((D.getD k md0).xs).getD i ix0).p), (((D.getD k md0).xs).getD i ix0).pv]) rfl rfl rfl rfl (zag ((hd.at (k := k) (by omega)).x)) (by omega) rfl (zca ixC 3 (fun _ => rfl) ((D.getD k md0).xs) ix0 (show i < _ by omega) rfl)) (zdv rfl (zbj (z := .agg #[.int .i64 0, .int .i64 0, .slice none 0 0]) rfl rfl) ?_)
   intro b25
   refine zbn (cs' := #[.int .i64 ((((D.getD k md0).xs).getD i ix0).m), .int .i64 ((((D.getD k md0).xs).getD i ix0).p), (((D.getD k md0).xs).getD i ix0).pv]) (i := 0) (off := 0) (us := [.int .i64 ((((D.getD k md0).xs).getD i ix0).m), .int .i64 ((((D.getD k md0).xs).getD i ix0).p), (((D.getD k md0).xs).getD i ix0).pv]) rfl rfl rfl rfl rfl rfl rfl (zad rfl (zad rfl (zad ((hd.at (k := k) (by omega)).p.at (k := i) (by omega)).one zbg))) rfl rfl rfl (ntQ (srQ ?_))
   obtain ⟨⟨hm0, hm1⟩, hpe⟩ := hins i (by omega)
   refine hvQ rfl (fdQ 0 rfl rfl rfl) (hvQ rfl (zac rfl rfl rfl (zaa 2 rfl rfl)) (hvQ rfl (fdQ 0 rfl rfl rfl) (hvQ rfl (zac rfl rfl rfl (zaa 0 rfl rfl)) (hvQ rfl (riQ 4 rfl rfl rfl rfl (zag hd.row)) ?_))))
   refine hvQ rfl (zbi (us := [(D.getD (((((D.getD k md0).xs).getD i ix0).m).toNat) md0).sv, (D.getD (((((D.getD k md0).xs).getD i ix0).m).toNat) md0).av, (D.getD (((((D.getD k md0).xs).getD i ix0).m).toNat) md0).iv, (D.getD (((((D.getD k md0).xs).getD i ix0).m).toNat) md0).mv]) rfl rfl rfl rfl (zag hd.row) (by omega) rfl (zca mdC 4 (fun _ => rfl) D md0 (show ((((D.getD k md0).xs).getD i ix0).m).toNat < _ by omega) rfl)) (zdv rfl (zbj (z := .agg #[.slice none 0 0, .slice none 0 0, .slice none 0 0, .slice none 0 0]) rfl rfl) ?_)
   intro b26
   refine zbn (cs' := #[(D.getD (((((D.getD k md0).xs).getD i ix0).m).toNat) md0).sv, (D.getD (((((D.getD k md0).xs).getD i ix0).m).toNat) md0).av, (D.getD (((((D.getD k md0).xs).getD i ix0).m).toNat) md0).iv, (D.getD (((((D.getD k md0).xs).getD i ix0).m).toNat) md0).mv]) (i := 0) (off := 0) (us := [(D.getD (((((D.getD k md0).xs).getD i ix0).m).toNat) md0).sv, (D.getD (((((D.getD k md0).xs).getD i ix0).m).toNat) md0).av, (D.getD (((((D.getD k md0).xs).getD i ix0).m).toNat) md0).iv, (D.getD (((((D.getD k md0).xs).getD i ix0).m).toNat) md0).mv]) rfl rfl rfl rfl rfl rfl rfl (zad (hd.at (k := ((((D.getD k md0).xs).getD i ix0).m).toNat) (by omega)).s.one (zad (hd.at (k := ((((D.getD k md0).xs).getD i ix0).m).toNat) (by omega)).g.one (zad (hd.at (k := ((((D.getD k md0).xs).getD i ix0).m).toNat) (by omega)).x.one (zad (hd.at (k := ((((D.getD k md0).xs).getD i ix0).m).toNat) (by omega)).m.one zbg)))) rfl rfl rfl ?_
   refine ntQ (srQ (hvQ rfl (zaw (cs := [(D.getD (((((D.getD k md0).xs).getD i ix0).m).toNat) md0).sv, (D.getD (((((D.getD k md0).xs).getD i ix0).m).toNat) md0).av, (D.getD (((((D.getD k md0).xs).getD i ix0).m).toNat) md0).iv, (D.getD (((((D.getD k md0).xs).getD i ix0).m).toNat) md0).mv]) rfl rfl rfl rfl rfl (zau 0 rfl 0 rfl)) ?_))
   refine hl_q rfl rfl rfl (zar rfl rfl (fun w hm => zdj (D.getD (((((D.getD k md0).xs).getD i ix0).m).toNat) md0) w ((hd.at (by omega)).below hm.bel))) ?_
   intro v27 p28 hR29
   subst hR29
   refine zba 1 rfl (ssrQ (hvQ rfl (fdQ 1 rfl rfl rfl) (hvQ rfl (zac rfl rfl rfl (zaa 2 rfl rfl)) ?_)))
   refine zdw rfl (zar rfl rfl (fun w hm => zav (inD_ans ((((D.getD k md0).xs).getD i ix0).p) 0 4 w))) (zbm (fun h30 => ?_) (fun h30 => ?_))
   ·
    obtain ⟨h30a, h30b⟩ := (zco _ _ _).1 h30
    refine zba 1 rfl (zap rfl (zdi (zbk 1 rfl (zbh ?_))))
    refine lkQ1 (α := Nat) [0, 1, 2, 4, 5, 10, 11, 12, 13, 20, 30, 78, 111, 130] rfl (fun j => [rowE 3 1 v27 ((ptsK (D.getD (((((D.getD k md0).xs).getD i ix0).m).toNat) md0)).length) ((ptsK (D.getD (((((D.getD k md0).xs).getD i ix0).m).toNat) md0)).map (Value.int .i64)), boxE b26 #[(D.getD (((((D.getD k md0).xs).getD i ix0).m).toNat) md0).sv, (D.getD (((((D.getD k md0).xs).getD i ix0).m).toNat) md0).av, (D.getD (((((D.getD k md0).xs).getD i ix0).m).toNat) md0).iv, (D.getD (((((D.getD k md0).xs).getD i ix0).m).toNat) md0).mv] 35, boxE b25 #[.int .i64 ((((D.getD k md0).xs).getD i ix0).m), .int .i64 ((((D.getD k md0).xs).getD i ix0).p), (((D.getD k md0).xs).getD i ix0).pv] 63, boxE b3 #[(D.getD k md0).sv, (D.getD k md0).av, (D.getD k md0).iv, (D.getD k md0).mv] 35, boxE b1 #[v] 26]) (fun j => [(14, .int .i64 (j : Int))]) (fun j => j ≤ (ptsK (D.getD (((((D.getD k md0).xs).getD i ix0).m).toNat) md0)).length ∧ ∀ r, r < j → Inn (D.getD k md0) (((D.getD k md0).xs.getD i ix0).ps.getD r 0) ∧ (knd (D.getD (((((D.getD k md0).xs).getD i ix0).m).toNat) md0) ((ptsK (D.getD (((((D.getD k md0).xs).getD i ix0).m).toNat) md0)).getD r 0) = 1 → Drv (D.getD k md0) (((D.getD k md0).xs.getD i ix0).ps.getD r 0))) (fun j => (ptsK (D.getD (((((D.getD k md0).xs).getD i ix0).m).toNat) md0)).length - j) 0 ⟨Nat.zero_le _, fun q hq => absurd hq (by omega)⟩ (saQ rfl) (pfQ rfl) ?_
    intro j hi31
    obtain ⟨hj, hj9⟩ := hi31
    have hpl := ptsK_le (D.getD (((((D.getD k md0).xs).getD i ix0).m).toNat) md0)
    refine zah (zah (reQ 2 rfl (hvQ rfl (lnQ rfl rfl rfl (zam 0 rfl)) ?_)))
    refine zcb rfl rfl rfl rfl rfl rfl (fun h32 => ?_) (fun h32 => ?_)
    ·
     refine ntQ (zaj rfl (zdi (sbQ (zah ?_))))
     have hpt := zdd (m := (D.getD (((((D.getD k md0).xs).getD i ix0).m).toNat) md0)) (j := j) (by omega)
     have hkd := zch hpt
     rcases Bool.eq_false_or_eq_true (decide (knd (D.getD k md0) (((((D.getD k md0).xs).getD i ix0).ps).getD j 0) < 0)) with hb33 | hb33
     ·
      have hb33p : knd (D.getD k md0) (((((D.getD k md0).xs).getD i ix0).ps).getD j 0) < 0 := of_decide_eq_true hb33
      have hpt := zdd (m := (D.getD (((((D.getD k md0).xs).getD i ix0).m).toNat) md0)) (j := j) (by omega)
      have hkd := zch hpt
      refine zcs 30 [[], [], [1], [], [2, 3], [4], [0, 5], [6], [7], [8], [8], [8], [8], [8], [8], [8], [8], [8], [8], [8], [19], [19], [19], [19], [19], [19], [19], [19], [8], [8, 28]] [137, 138, 139, 140, 141, 142, 143, 144, 145, 146, 147, 148, 149, 150, 151, 152, 153, 154, 155, 156, 157, 158, 159, 160, 161, 162, 163, 164, 165, 166] [.agg #[(D.getD k md0).sv, (D.getD k md0).av, (D.getD k md0).iv, (D.getD k md0).mv], .pointer (some ⟨b25, 0 + 2, none⟩), (((D.getD k md0).xs).getD i ix0).pv, .int .i64 (j : Int), elP ((((D.getD k md0).xs).getD i ix0).pv) (((j : Int)).toNat * 1), .int .i64 (((((D.getD k md0).xs).getD i ix0).ps).getD j 0), .int .i64 (knd (D.getD k md0) (((((D.getD k md0).xs).getD i ix0).ps).getD j 0)), .bool true, .bool true, undef, undef, undef, undef, undef, undef, undef, undef, undef, undef, undef, undef, undef, undef, undef, undef, undef, undef, undef, undef, .bool true] (by kernel_rfl) rfl ?_ ?_
      ·
       exact ⟨iaQ rfl (zaw (cs := [(D.getD k md0).sv, (D.getD k md0).av, (D.getD k md0).iv, (D.getD k md0).mv]) rfl rfl rfl rfl rfl (zau 3 rfl 0 rfl)) rfl, iaQ rfl (fdQ 2 rfl rfl rfl) rfl, iaQ rfl (zac rfl rfl rfl (zaa 2 rfl rfl)) rfl, iaQ rfl (zay rfl) rfl, iaQ rfl (riQ 1 rfl rfl rfl rfl (zag ((hd.at (k := k) (by omega)).p.at (k := i) (by omega)))) rfl, iaQ rfl (zat (u := .int .i64 (((((D.getD k md0).xs).getD i ix0).ps).getD j 0)) rfl rfl rfl (zag ((hd.at (k := k) (by omega)).p.at (k := i) (by omega))) (zcm (show _ < ((((D.getD k md0).xs).getD i ix0).ps).length by omega))) rfl, .inl ⟨rfl, zar rfl rfl (fun w hm => zav (zdn (D.getD k md0) (((((D.getD k md0).xs).getD i ix0).ps).getD j 0) w ((hd.at (k := k) (by omega)).below hm.bel)))⟩, .inl ⟨rfl, zes (zcu rfl rfl rfl rfl) hb33⟩, iaQ rfl (zay rfl) rfl, .inr ⟨rfl, rfl⟩, .inr ⟨rfl, rfl⟩, .inr ⟨rfl, rfl⟩, .inr ⟨rfl, rfl⟩, .inr ⟨rfl, rfl⟩, .inr ⟨rfl, rfl⟩, .inr ⟨rfl, rfl⟩, .inr ⟨rfl, rfl⟩, .inr ⟨rfl, rfl⟩, .inr ⟨rfl, rfl⟩, .inr ⟨rfl, rfl⟩, .inr ⟨rfl, rfl⟩, .inr ⟨rfl, rfl⟩, .inr ⟨rfl, rfl⟩, .inr ⟨rfl, rfl⟩, .inr ⟨rfl, rfl⟩, .inr ⟨rfl, rfl⟩, .inr ⟨rfl, rfl⟩, .inr ⟨rfl, rfl⟩, .inr ⟨rfl, rfl⟩, iaQ rfl (zay rfl) rfl, trivial⟩
      simp only [List.drop_succ_cons, List.drop_zero]
      refine ntQ (zaj rfl (zbk 1 rfl ?_))
      refine zal (zab ?_)
      refine zdx ?_
      refine zab (zab ?_)
      refine zdx ?_
      refine zab (zae ?_)
      exact zaq rfl rfl (congrArg _ (zbx (fun hp => by first | (exact absurd (show CtsP D k from ⟨hp.lt, hp.cnt, hp.ins⟩) (by assumption)) | (have h9 := hp.sg i (by omega); obtain ⟨⟨h1, h2⟩, ⟨h3, h4⟩, ⟨h5, h6⟩, h7⟩ := h9; omega) | (have h9 := hp.dr i (by omega) (by omega); omega) | (exact absurd (hp.gs i (by omega)).2 (by assumption)) | (have h9 := (hp.gs i (by omega)).1; have h8 : ¬ Drv (D.getD k md0) ((D.getD k md0).gs.getD i as0).t := (by assumption); exact h8 (by first | exact .inl (by omega) | exact .inr (by omega))) | (have h9 := (hp.gs i (by omega)).1; have h8 : ¬ Drv (D.getD k md0) ((D.getD k md0).gs.getD i as0).t := (by assumption); unfold Drv at h8; omega) | (have h9 := (hp.xs i (by omega)).1; omega) | (have h9 := ((hp.xs i (by omega)).2 j (by omega)).1; have h8 := (zbc hsgA).2 h9; omega) | (have h9 := ((hp.xs i (by omega)).2 j (by omega)).2 (by omega); exact absurd h9 (by assumption)) | (obtain ⟨⟨h1, h2, h3⟩, h4⟩ := hp.ms i (by omega); have g1 := (zbc hsgA).2 h1; have g2 := (zbc hsgA).2 h2; have g3 := (zbc hsgA).2 h3; first | omega | exact absurd h4 (by assumption)))).symm)
     have hb33p : ¬ (knd (D.getD k md0) (((((D.getD k md0).xs).getD i ix0).ps).getD j 0) < 0) := of_decide_eq_false hb33
     have hpt := zdd (m := (D.getD (((((D.getD k md0).xs).getD i ix0).m).toNat) md0)) (j := j) (by omega)
     have hkd := zch hpt
     rcases Bool.eq_false_or_eq_true (((((D.getD (((((D.getD k md0).xs).getD i ix0).m).toNat) md0).ss).getD (((ptsK (D.getD (((((D.getD k md0).xs).getD i ix0).m).toNat) md0)).getD j 0).toNat) sg0).k) == 1) with hb34 | hb34
     ·
      have hb34p : (((D.getD (((((D.getD k md0).xs).getD i ix0).m).toNat) md0).ss).getD (((ptsK (D.getD (((((D.getD k md0).xs).getD i ix0).m).toNat) md0)).getD j 0).toNat) sg0).k = 1 := beq_iff_eq.1 hb34
      have hpt := zdd (m := (D.getD (((((D.getD k md0).xs).getD i ix0).m).toNat) md0)) (j := j) (by omega)
      have hkd := zch hpt
      rcases Bool.eq_false_or_eq_true (pB (Drv (D.getD k md0) (((((D.getD k md0).xs).getD i ix0).ps).getD j 0))) with hb35 | hb35
      ·
       have hb35p := zfa hb35
       have hpt := zdd (m := (D.getD (((((D.getD k md0).xs).getD i ix0).m).toNat) md0)) (j := j) (by omega)
       have hkd := zch hpt
       refine zcs 30 [[], [], [1], [], [2, 3], [4], [0, 5], [6], [7], [8], [8, 9], [8], [8], [8, 11, 12], [8, 13], [8, 10, 14], [8, 15], [8, 16], [8, 17], [8, 18], [19], [19], [19, 21], [19], [19, 22, 23], [19, 24], [19, 20, 25], [19, 26], [8, 19, 27], [8, 28]] [137, 138, 139, 140, 141, 142, 143, 144, 145, 146, 147, 148, 149, 150, 151, 152, 153, 154, 155, 156, 157, 158, 159, 160, 161, 162, 163, 164, 165, 166] [.agg #[(D.getD k md0).sv, (D.getD k md0).av, (D.getD k md0).iv, (D.getD k md0).mv], .pointer (some ⟨b25, 0 + 2, none⟩), (((D.getD k md0).xs).getD i ix0).pv, .int .i64 (j : Int), elP ((((D.getD k md0).xs).getD i ix0).pv) (((j : Int)).toNat * 1), .int .i64 (((((D.getD k md0).xs).getD i ix0).ps).getD j 0), .int .i64 (knd (D.getD k md0) (((((D.getD k md0).xs).getD i ix0).ps).getD j 0)), .bool false, .bool false, .pointer (some ⟨b26, 0 + 0, none⟩), (D.getD (((((D.getD k md0).xs).getD i ix0).m).toNat) md0).sv, v27, .int .i64 (j : Int), elP v27 (((j : Int)).toNat * 1), .int .i64 ((ptsK (D.getD (((((D.getD k md0).xs).getD i ix0).m).toNat) md0)).getD j 0), elP ((D.getD (((((D.getD k md0).xs).getD i ix0).m).toNat) md0).sv) (((ptsK (D.getD (((((D.getD k md0).xs).getD i ix0).m).toNat) md0)).getD j 0).toNat * 3), elP ((D.getD (((((D.getD k md0).xs).getD i ix0).m).toNat) md0).sv) (((ptsK (D.getD (((((D.getD k md0).xs).getD i ix0).m).toNat) md0)).getD j 0).toNat * 3 + 0), .int .i64 ((((D.getD (((((D.getD k md0).xs).getD i ix0).m).toNat) md0).ss).getD (((ptsK (D.getD (((((D.getD k md0).xs).getD i ix0).m).toNat) md0)).getD j 0).toNat) sg0).k), .bool true, .bool true, .agg #[(D.getD k md0).sv, (D.getD k md0).av, (D.getD k md0).iv, (D.getD k md0).mv], .pointer (some ⟨b25, 0 + 2, none⟩), (((D.getD k md0).xs).getD i ix0).pv, .int .i64 (j : Int), elP ((((D.getD k md0).xs).getD i ix0).pv) (((j : Int)).toNat * 1), .int .i64 (((((D.getD k md0).xs).getD i ix0).ps).getD j 0), .bool true, .bool false, .bool false, .bool false] (by kernel_rfl) rfl ?_ ?_
       ·
        exact ⟨iaQ rfl (zaw (cs := [(D.getD k md0).sv, (D.getD k md0).av, (D.getD k md0).iv, (D.getD k md0).mv]) rfl rfl rfl rfl rfl (zau 3 rfl 0 rfl)) rfl, iaQ rfl (fdQ 2 rfl rfl rfl) rfl, iaQ rfl (zac rfl rfl rfl (zaa 2 rfl rfl)) rfl, iaQ rfl (zay rfl) rfl, iaQ rfl (riQ 1 rfl rfl rfl rfl (zag ((hd.at (k := k) (by omega)).p.at (k := i) (by omega)))) rfl, iaQ rfl (zat (u := .int .i64 (((((D.getD k md0).xs).getD i ix0).ps).getD j 0)) rfl rfl rfl (zag ((hd.at (k := k) (by omega)).p.at (k := i) (by omega))) (zcm (show _ < ((((D.getD k md0).xs).getD i ix0).ps).length by omega))) rfl, .inl ⟨rfl, zar rfl rfl (fun w hm => zav (zdn (D.getD k md0) (((((D.getD k md0).xs).getD i ix0).ps).getD j 0) w ((hd.at (k := k) (by omega)).below hm.bel)))⟩, .inl ⟨rfl, zes (zcu rfl rfl rfl rfl) hb33⟩, iaQ rfl (zay rfl) rfl, iaQ rfl (fdQ 0 rfl rfl rfl) rfl, iaQ rfl (zac rfl rfl rfl (zaa 1 rfl rfl)) rfl, iaQ rfl (zay rfl) rfl, iaQ rfl (zay rfl) rfl, iaQ rfl (riQ 1 rfl rfl rfl rfl (zam 0 rfl)) rfl, iaQ rfl (zat (u := .int .i64 ((ptsK (D.getD (((((D.getD k md0).xs).getD i ix0).m).toNat) md0)).getD j 0)) rfl rfl rfl (zam 0 rfl) (zcm (show _ < (ptsK (D.getD (((((D.getD k md0).xs).getD i ix0).m).toNat) md0)).length by omega))) rfl, iaQ rfl (riQ 3 rfl rfl rfl rfl (zag ((hd.at (k := ((((D.getD k md0).xs).getD i ix0).m).toNat) (by omega)).s))) rfl, iaQ rfl (zbe (k0 := 0) rfl rfl rfl (zag ((hd.at (k := ((((D.getD k md0).xs).getD i ix0).m).toNat) (by omega)).s)) (by omega)) rfl, iaQ rfl (zat (u := .int .i64 ((((D.getD (((((D.getD k md0).xs).getD i ix0).m).toNat) md0).ss).getD (((ptsK (D.getD (((((D.getD k md0).xs).getD i ix0).m).toNat) md0)).getD j 0).toNat) sg0).k)) rfl rfl rfl (zag ((hd.at (k := ((((D.getD k md0).xs).getD i ix0).m).toNat) (by omega)).s)) ((zce sgC 3 (fun _ => rfl) ((D.getD (((((D.getD k md0).xs).getD i ix0).m).toNat) md0).ss) sg0 (show ((ptsK (D.getD (((((D.getD k md0).xs).getD i ix0).m).toNat) md0)).getD j 0).toNat < _ by omega) (by decide)).trans rfl)) rfl, .inl ⟨rfl, zes (zcu rfl rfl rfl rfl) hb34⟩, iaQ rfl (zay rfl) rfl, iaQ rfl (zaw (cs := [(D.getD k md0).sv, (D.getD k md0).av, (D.getD k md0).iv, (D.getD k md0).mv]) rfl rfl rfl rfl rfl (zau 3 rfl 0 rfl)) rfl, iaQ rfl (fdQ 2 rfl rfl rfl) rfl, iaQ rfl (zac rfl rfl rfl (zaa 2 rfl rfl)) rfl, iaQ rfl (zay rfl) rfl, iaQ rfl (riQ 1 rfl rfl rfl rfl (zag ((hd.at (k := k) (by omega)).p.at (k := i) (by omega)))) rfl, iaQ rfl (zat (u := .int .i64 (((((D.getD k md0).xs).getD i ix0).ps).getD j 0)) rfl rfl rfl (zag ((hd.at (k := k) (by omega)).p.at (k := i) (by omega))) (zcm (show _ < ((((D.getD k md0).xs).getD i ix0).ps).length by omega))) rfl, .inl ⟨rfl, rq_cb (zar rfl rfl (fun w hm => zav (zen (D.getD k md0) (((((D.getD k md0).xs).getD i ix0).ps).getD j 0) w ((hd.at (k := k) (by omega)).below hm.bel)))) hb35⟩, iaQ rfl (zay rfl) rfl, iaQ rfl (zay rfl) rfl, iaQ rfl (zay rfl) rfl, trivial⟩
       simp only [List.drop_succ_cons, List.drop_zero]
       refine ntQ (fsQ rfl (zdq (reQ 1 rfl (hvQ rfl (vaQ rfl rfl rfl) (enQ 1 rfl ?_)))))
       exact zbw (j + 1) ⟨by omega, fun r hr9 => by by_cases e : r = j; (subst e; exact ⟨(zbc hsgA).1 (by omega), fun _ => by first | assumption | (exfalso; omega)⟩); exact hj9 r (by omega)⟩ (by omega) (saQ rfl) (pfQ rfl)
      have hb35p := zeg hb35
      have hpt := zdd (m := (D.getD (((((D.getD k md0).xs).getD i ix0).m).toNat) md0)) (j := j) (by omega)
      have hkd := zch hpt
      refine zcs 30 [[], [], [1], [], [2, 3], [4], [0, 5], [6], [7], [8], [8, 9], [8], [8], [8, 11, 12], [8, 13], [8, 10, 14], [8, 15], [8, 16], [8, 17], [8, 18], [19], [19], [19, 21], [19], [19, 22, 23], [19, 24], [19, 20, 25], [19, 26], [8, 19, 27], [8, 28]] [137, 138, 139, 140, 141, 142, 143, 144, 145, 146, 147, 148, 149, 150, 151, 152, 153, 154, 155, 156, 157, 158, 159, 160, 161, 162, 163, 164, 165, 166] [.agg #[(D.getD k md0).sv, (D.getD k md0).av, (D.getD k md0).iv, (D.getD k md0).mv], .pointer (some ⟨b25, 0 + 2, none⟩), (((D.getD k md0).xs).getD i ix0).pv, .int .i64 (j : Int), elP ((((D.getD k md0).xs).getD i ix0).pv) (((j : Int)).toNat * 1), .int .i64 (((((D.getD k md0).xs).getD i ix0).ps).getD j 0), .int .i64 (knd (D.getD k md0) (((((D.getD k md0).xs).getD i ix0).ps).getD j 0)), .bool false, .bool false, .pointer (some ⟨b26, 0 + 0, none⟩), (D.getD (((((D.getD k md0).xs).getD i ix0).m).toNat) md0).sv, v27, .int .i64 (j : Int), elP v27 (((j : Int)).toNat * 1), .int .i64 ((ptsK (D.getD (((((D.getD k md0).xs).getD i ix0).m).toNat) md0)).getD j 0), elP ((D.getD (((((D.getD k md0).xs).getD i ix0).m).toNat) md0).sv) (((ptsK (D.getD (((((D.getD k md0).xs).getD i ix0).m).toNat) md0)).getD j 0).toNat * 3), elP ((D.getD (((((D.getD k md0).xs).getD i ix0).m).toNat) md0).sv) (((ptsK (D.getD (((((D.getD k md0).xs).getD i ix0).m).toNat) md0)).getD j 0).toNat * 3 + 0), .int .i64 ((((D.getD (((((D.getD k md0).xs).getD i ix0).m).toNat) md0).ss).getD (((ptsK (D.getD (((((D.getD k md0).xs).getD i ix0).m).toNat) md0)).getD j 0).toNat) sg0).k), .bool true, .bool true, .agg #[(D.getD k md0).sv, (D.getD k md0).av, (D.getD k md0).iv, (D.getD k md0).mv], .pointer (some ⟨b25, 0 + 2, none⟩), (((D.getD k md0).xs).getD i ix0).pv, .int .i64 (j : Int), elP ((((D.getD k md0).xs).getD i ix0).pv) (((j : Int)).toNat * 1), .int .i64 (((((D.getD k md0).xs).getD i ix0).ps).getD j 0), .bool false, .bool true, .bool true, .bool true] (by kernel_rfl) rfl ?_ ?_
      ·
       exact ⟨iaQ rfl (zaw (cs := [(D.getD k md0).sv, (D.getD k md0).av, (D.getD k md0).iv, (D.getD k md0).mv]) rfl rfl rfl rfl rfl (zau 3 rfl 0 rfl)) rfl, iaQ rfl (fdQ 2 rfl rfl rfl) rfl, iaQ rfl (zac rfl rfl rfl (zaa 2 rfl rfl)) rfl, iaQ rfl (zay rfl) rfl, iaQ rfl (riQ 1 rfl rfl rfl rfl (zag ((hd.at (k := k) (by omega)).p.at (k := i) (by omega)))) rfl, iaQ rfl (zat (u := .int .i64 (((((D.getD k md0).xs).getD i ix0).ps).getD j 0)) rfl rfl rfl (zag ((hd.at (k := k) (by omega)).p.at (k := i) (by omega))) (zcm (show _ < ((((D.getD k md0).xs).getD i ix0).ps).length by omega))) rfl, .inl ⟨rfl, zar rfl rfl (fun w hm => zav (zdn (D.getD k md0) (((((D.getD k md0).xs).getD i ix0).ps).getD j 0) w ((hd.at (k := k) (by omega)).below hm.bel)))⟩, .inl ⟨rfl, zes (zcu rfl rfl rfl rfl) hb33⟩, iaQ rfl (zay rfl) rfl, iaQ rfl (fdQ 0 rfl rfl rfl) rfl, iaQ rfl (zac rfl rfl rfl (zaa 1 rfl rfl)) rfl, iaQ rfl (zay rfl) rfl, iaQ rfl (zay rfl) rfl, iaQ rfl (riQ 1 rfl rfl rfl rfl (zam 0 rfl)) rfl, iaQ rfl (zat (u := .int .i64 ((ptsK (D.getD (((((D.getD k md0).xs).getD i ix0).m).toNat) md0)).getD j 0)) rfl rfl rfl (zam 0 rfl) (zcm (show _ < (ptsK (D.getD (((((D.getD k md0).xs).getD i ix0).m).toNat) md0)).length by omega))) rfl, iaQ rfl (riQ 3 rfl rfl rfl rfl (zag ((hd.at (k := ((((D.getD k md0).xs).getD i ix0).m).toNat) (by omega)).s))) rfl, iaQ rfl (zbe (k0 := 0) rfl rfl rfl (zag ((hd.at (k := ((((D.getD k md0).xs).getD i ix0).m).toNat) (by omega)).s)) (by omega)) rfl, iaQ rfl (zat (u := .int .i64 ((((D.getD (((((D.getD k md0).xs).getD i ix0).m).toNat) md0).ss).getD (((ptsK (D.getD (((((D.getD k md0).xs).getD i ix0).m).toNat) md0)).getD j 0).toNat) sg0).k)) rfl rfl rfl (zag ((hd.at (k := ((((D.getD k md0).xs).getD i ix0).m).toNat) (by omega)).s)) ((zce sgC 3 (fun _ => rfl) ((D.getD (((((D.getD k md0).xs).getD i ix0).m).toNat) md0).ss) sg0 (show ((ptsK (D.getD (((((D.getD k md0).xs).getD i ix0).m).toNat) md0)).getD j 0).toNat < _ by omega) (by decide)).trans rfl)) rfl, .inl ⟨rfl, zes (zcu rfl rfl rfl rfl) hb34⟩, iaQ rfl (zay rfl) rfl, iaQ rfl (zaw (cs := [(D.getD k md0).sv, (D.getD k md0).av, (D.getD k md0).iv, (D.getD k md0).mv]) rfl rfl rfl rfl rfl (zau 3 rfl 0 rfl)) rfl, iaQ rfl (fdQ 2 rfl rfl rfl) rfl, iaQ rfl (zac rfl rfl rfl (zaa 2 rfl rfl)) rfl, iaQ rfl (zay rfl) rfl, iaQ rfl (riQ 1 rfl rfl rfl rfl (zag ((hd.at (k := k) (by omega)).p.at (k := i) (by omega)))) rfl, iaQ rfl (zat (u := .int .i64 (((((D.getD k md0).xs).getD i ix0).ps).getD j 0)) rfl rfl rfl (zag ((hd.at (k := k) (by omega)).p.at (k := i) (by omega))) (zcm (show _ < ((((D.getD k md0).xs).getD i ix0).ps).length by omega))) rfl, .inl ⟨rfl, rq_cb (zar rfl rfl (fun w hm => zav (zen (D.getD k md0) (((((D.getD k md0).xs).getD i ix0).ps).getD j 0) w ((hd.at (k := k) (by omega)).below hm.bel)))) hb35⟩, iaQ rfl (zay rfl) rfl, iaQ rfl (zay rfl) rfl, iaQ rfl (zay rfl) rfl, trivial⟩
      simp only [List.drop_succ_cons, List.drop_zero]
      refine ntQ (zaj rfl (zbk 1 rfl ?_))
      refine zal (zab ?_)
      refine zdx ?_
      refine zab (zab ?_)
      refine zdx ?_
      refine zab (zae ?_)
      exact zaq rfl rfl (congrArg _ (zbx (fun hp => by first | (exact absurd (show CtsP D k from ⟨hp.lt, hp.cnt, hp.ins⟩) (by assumption)) | (have h9 := hp.sg i (by omega); obtain ⟨⟨h1, h2⟩, ⟨h3, h4⟩, ⟨h5, h6⟩, h7⟩ := h9; omega) | (have h9 := hp.dr i (by omega) (by omega); omega) | (exact absurd (hp.gs i (by omega)).2 (by assumption)) | (have h9 := (hp.gs i (by omega)).1; have h8 : ¬ Drv (D.getD k md0) ((D.getD k md0).gs.getD i as0).t := (by assumption); exact h8 (by first | exact .inl (by omega) | exact .inr (by omega))) | (have h9 := (hp.gs i (by omega)).1; have h8 : ¬ Drv (D.getD k md0) ((D.getD k md0).gs.getD i as0).t := (by assumption); unfold Drv at h8; omega) | (have h9 := (hp.xs i (by omega)).1; omega) | (have h9 := ((hp.xs i (by omega)).2 j (by omega)).1; have h8 := (zbc hsgA).2 h9; omega) | (have h9 := ((hp.xs i (by omega)).2 j (by omega)).2 (by omega); exact absurd h9 (by assumption)) | (obtain ⟨⟨h1, h2, h3⟩, h4⟩ := hp.ms i (by omega); have g1 := (zbc hsgA).2 h1; have g2 := (zbc hsgA).2 h2; have g3 := (zbc hsgA).2 h3; first | omega | exact absurd h4 (by assumption)))).symm)
     have hb34p : (((D.getD (((((D.getD k md0).xs).getD i ix0).m).toNat) md0).ss).getD (((ptsK (D.getD (((((D.getD k md0).xs).getD i ix0).m).toNat) md0)).getD j 0).toNat) sg0).k ≠ 1 := beq_eq_false_iff_ne.1 hb34
     have hpt := zdd (m := (D.getD (((((D.getD k md0).xs).getD i ix0).m).toNat) md0)) (j := j) (by omega)
     have hkd := zch hpt
     refine zcs 30 [[], [], [1], [], [2, 3], [4], [0, 5], [6], [7], [8], [8, 9], [8], [8], [8, 11, 12], [8, 13], [8, 10, 14], [8, 15], [8, 16], [8, 17], [8, 18], [19], [19], [19], [19], [19], [19], [19], [19], [8, 19, 27], [8, 28]] [137, 138, 139, 140, 141, 142, 143, 144, 145, 146, 147, 148, 149, 150, 151, 152, 153, 154, 155, 156, 157, 158, 159, 160, 161, 162, 163, 164, 165, 166] [.agg #[(D.getD k md0).sv, (D.getD k md0).av, (D.getD k md0).iv, (D.getD k md0).mv], .pointer (some ⟨b25, 0 + 2, none⟩), (((D.getD k md0).xs).getD i ix0).pv, .int .i64 (j : Int), elP ((((D.getD k md0).xs).getD i ix0).pv) (((j : Int)).toNat * 1), .int .i64 (((((D.getD k md0).xs).getD i ix0).ps).getD j 0), .int .i64 (knd (D.getD k md0) (((((D.getD k md0).xs).getD i ix0).ps).getD j 0)), .bool false, .bool false, .pointer (some ⟨b26, 0 + 0, none⟩), (D.getD (((((D.getD k md0).xs).getD i ix0).m).toNat) md0).sv, v27, .int .i64 (j : Int), elP v27 (((j : Int)).toNat * 1), .int .i64 ((ptsK (D.getD (((((D.getD k md0).xs).getD i ix0).m).toNat) md0)).getD j 0), elP ((D.getD (((((D.getD k md0).xs).getD i ix0).m).toNat) md0).sv) (((ptsK (D.getD (((((D.getD k md0).xs).getD i ix0).m).toNat) md0)).getD j 0).toNat * 3), elP ((D.getD (((((D.getD k md0).xs).getD i ix0).m).toNat) md0).sv) (((ptsK (D.getD (((((D.getD k md0).xs).getD i ix0).m).toNat) md0)).getD j 0).toNat * 3 + 0), .int .i64 ((((D.getD (((((D.getD k md0).xs).getD i ix0).m).toNat) md0).ss).getD (((ptsK (D.getD (((((D.getD k md0).xs).getD i ix0).m).toNat) md0)).getD j 0).toNat) sg0).k), .bool false, .bool false, undef, undef, undef, undef, undef, undef, undef, undef, .bool false, .bool false] (by kernel_rfl) rfl ?_ ?_
     ·
      exact ⟨iaQ rfl (zaw (cs := [(D.getD k md0).sv, (D.getD k md0).av, (D.getD k md0).iv, (D.getD k md0).mv]) rfl rfl rfl rfl rfl (zau 3 rfl 0 rfl)) rfl, iaQ rfl (fdQ 2 rfl rfl rfl) rfl, iaQ rfl (zac rfl rfl rfl (zaa 2 rfl rfl)) rfl, iaQ rfl (zay rfl) rfl, iaQ rfl (riQ 1 rfl rfl rfl rfl (zag ((hd.at (k := k) (by omega)).p.at (k := i) (by omega)))) rfl, iaQ rfl (zat (u := .int .i64 (((((D.getD k md0).xs).getD i ix0).ps).getD j 0)) rfl rfl rfl (zag ((hd.at (k := k) (by omega)).p.at (k := i) (by omega))) (zcm (show _ < ((((D.getD k md0).xs).getD i ix0).ps).length by omega))) rfl, .inl ⟨rfl, zar rfl rfl (fun w hm => zav (zdn (D.getD k md0) (((((D.getD k md0).xs).getD i ix0).ps).getD j 0) w ((hd.at (k := k) (by omega)).below hm.bel)))⟩, .inl ⟨rfl, zes (zcu rfl rfl rfl rfl) hb33⟩, iaQ rfl (zay rfl) rfl, iaQ rfl (fdQ 0 rfl rfl rfl) rfl, iaQ rfl (zac rfl rfl rfl (zaa 1 rfl rfl)) rfl, iaQ rfl (zay rfl) rfl, iaQ rfl (zay rfl) rfl, iaQ rfl (riQ 1 rfl rfl rfl rfl (zam 0 rfl)) rfl, iaQ rfl (zat (u := .int .i64 ((ptsK (D.getD (((((D.getD k md0).xs).getD i ix0).m).toNat) md0)).getD j 0)) rfl rfl rfl (zam 0 rfl) (zcm (show _ < (ptsK (D.getD (((((D.getD k md0).xs).getD i ix0).m).toNat) md0)).length by omega))) rfl, iaQ rfl (riQ 3 rfl rfl rfl rfl (zag ((hd.at (k := ((((D.getD k md0).xs).getD i ix0).m).toNat) (by omega)).s))) rfl, iaQ rfl (zbe (k0 := 0) rfl rfl rfl (zag ((hd.at (k := ((((D.getD k md0).xs).getD i ix0).m).toNat) (by omega)).s)) (by omega)) rfl, iaQ rfl (zat (u := .int .i64 ((((D.getD (((((D.getD k md0).xs).getD i ix0).m).toNat) md0).ss).getD (((ptsK (D.getD (((((D.getD k md0).xs).getD i ix0).m).toNat) md0)).getD j 0).toNat) sg0).k)) rfl rfl rfl (zag ((hd.at (k := ((((D.getD k md0).xs).getD i ix0).m).toNat) (by omega)).s)) ((zce sgC 3 (fun _ => rfl) ((D.getD (((((D.getD k md0).xs).getD i ix0).m).toNat) md0).ss) sg0 (show ((ptsK (D.getD (((((D.getD k md0).xs).getD i ix0).m).toNat) md0)).getD j 0).toNat < _ by omega) (by decide)).trans rfl)) rfl, .inl ⟨rfl, zes (zcu rfl rfl rfl rfl) hb34⟩, iaQ rfl (zay rfl) rfl, .inr ⟨rfl, rfl⟩, .inr ⟨rfl, rfl⟩, .inr ⟨rfl, rfl⟩, .inr ⟨rfl, rfl⟩, .inr ⟨rfl, rfl⟩, .inr ⟨rfl, rfl⟩, .inr ⟨rfl, rfl⟩, .inr ⟨rfl, rfl⟩, iaQ rfl (zay rfl) rfl, iaQ rfl (zay rfl) rfl, trivial⟩
     simp only [List.drop_succ_cons, List.drop_zero]
     refine ntQ (fsQ rfl (zdq (reQ 1 rfl (hvQ rfl (vaQ rfl rfl rfl) (enQ 1 rfl ?_)))))
     exact zbw (j + 1) ⟨by omega, fun r hr9 => by by_cases e : r = j; (subst e; exact ⟨(zbc hsgA).1 (by omega), fun _ => by first | assumption | (exfalso; omega)⟩); exact hj9 r (by omega)⟩ (by omega) (saQ rfl) (pfQ rfl)
    refine ntQ (zap rfl ?_)
    refine zbv (zep ?_)
    refine zan (zdq (reQ 1 rfl (hvQ rfl (vaQ rfl rfl rfl) (enQ 1 rfl ?_))))
    exact zbw (i + 1) ⟨by omega, fun q hq => by by_cases e : q = i; (subst e; exact ⟨⟨by omega, by omega⟩, fun r hr9 => hj9 r (by omega)⟩); exact hxs q (by omega)⟩ (by omega) (saQ rfl) (slQ [3, 0] rfl)
   have h30a := zck h30
   refine zba 1 rfl (zaj rfl (zbk 1 rfl ?_))
   refine zal (zae ?_)
   refine zab (zdx ?_)
   refine zab (zae ?_)
   exact zaq rfl rfl (congrArg _ (zbx (fun hp => by first | (exact absurd (show CtsP D k from ⟨hp.lt, hp.cnt, hp.ins⟩) (by assumption)) | (have h9 := hp.sg i (by omega); obtain ⟨⟨h1, h2⟩, ⟨h3, h4⟩, ⟨h5, h6⟩, h7⟩ := h9; omega) | (have h9 := hp.dr i (by omega) (by omega); omega) | (exact absurd (hp.gs i (by omega)).2 (by assumption)) | (have h9 := (hp.gs i (by omega)).1; have h8 : ¬ Drv (D.getD k md0) ((D.getD k md0).gs.getD i as0).t := (by assumption); exact h8 (by first | exact .inl (by omega) | exact .inr (by omega))) | (have h9 := (hp.gs i (by omega)).1; have h8 : ¬ Drv (D.getD k md0) ((D.getD k md0).gs.getD i as0).t := (by assumption); unfold Drv at h8; omega) | (have h9 := (hp.xs i (by omega)).1; omega) | (have h9 := ((hp.xs i (by omega)).2 j (by omega)).1; have h8 := (zbc hsgA).2 h9; omega) | (have h9 := ((hp.xs i (by omega)).2 j (by omega)).2 (by omega); exact absurd h9 (by assumption)) | (obtain ⟨⟨h1, h2, h3⟩, h4⟩ := hp.ms i (by omega); have g1 := (zbc hsgA).2 h1; have g2 := (zbc hsgA).2 h2; have g3 := (zbc hsgA).2 h3; first | omega | exact absurd h4 (by assumption)))).symm)
  refine ntQ (zap rfl ?_)
  refine zbv (zep ?_)
  refine zan (zbf (zah (zbk 1 rfl (zbh ?_))))
  refine lkQ1 (α := Nat) [0, 1, 2, 4, 5, 20, 30, 78, 111] rfl (fun i => [boxE b3 #[(D.getD k md0).sv, (D.getD k md0).av, (D.getD k md0).iv, (D.getD k md0).mv] 35, boxE b1 #[v] 26]) (fun i => [(15, .int .i64 (i : Int))]) (fun i => i ≤ (D.getD k md0).ms.length ∧ ∀ q, q < i → MmP (D.getD k md0) ((D.getD k md0).ms.getD q mm0)) (fun i => (D.getD k md0).ms.length - i) 0 ⟨Nat.zero_le _, fun q hq => absurd hq (by omega)⟩ (saQ rfl) (pfQ rfl) ?_
  intro i hi36
  obtain ⟨hi, hms⟩ := hi36
  refine zah (zah (reQ 1 rfl (hvQ rfl (fdQ 3 rfl rfl rfl) (hvQ rfl (zac rfl rfl rfl (zaa 0 rfl rfl)) (hvQ rfl (lnQ rfl rfl rfl (zag ((hd.at (k := k) (by omega)).m))) ?_)))))
  refine zcb rfl rfl rfl rfl rfl rfl (fun h37 => ?_) (fun h37 => ?_)
  ·
   refine ntQ (zaj rfl (zdi (sbQ (srQ (hvQ rfl (fdQ 3 rfl rfl rfl) (hvQ rfl (zac rfl rfl rfl (zaa 0 rfl rfl)) (zak 1 rfl (hvQ rfl (riQ 4 rfl rfl rfl rfl (zag ((hd.at (k := k) (by omega)).m))) ?_))))))))
   refine hvQ rfl (zbi (us := [.int .i64 ((((D.getD k md0).ms).getD i mm0).a), .int .i64 ((((D.getD k md0).ms).getD i mm0).d), .int .i64 ((((D.getD k md0).ms).getD i mm0).w), .int .i64 ((((D.getD k md0).ms).getD i mm0).o)]) rfl rfl rfl rfl (zag ((hd.at (k := k) (by omega)).m)) (by omega) rfl (zca mmC 4 (fun _ => rfl) ((D.getD k md0).ms) mm0 (show i < _ by omega) rfl)) (zdv rfl (zbj (z := .agg #[.int .i64 0, .int .i64 0, .int .i64 0, .int .i64 0]) rfl rfl) ?_)
   intro b38
   refine zbn (cs' := #[.int .i64 ((((D.getD k md0).ms).getD i mm0).a), .int .i64 ((((D.getD k md0).ms).getD i mm0).d), .int .i64 ((((D.getD k md0).ms).getD i mm0).w), .int .i64 ((((D.getD k md0).ms).getD i mm0).o)]) (i := 0) (off := 0) (us := [.int .i64 ((((D.getD k md0).ms).getD i mm0).a), .int .i64 ((((D.getD k md0).ms).getD i mm0).d), .int .i64 ((((D.getD k md0).ms).getD i mm0).w), .int .i64 ((((D.getD k md0).ms).getD i mm0).o)]) rfl rfl rfl rfl rfl rfl rfl (zad rfl (zad rfl (zad rfl (zad rfl zbg)))) rfl rfl rfl (ntQ (srQ (hvQ rfl (zaw (cs := [(D.getD k md0).sv, (D.getD k md0).av, (D.getD k md0).iv, (D.getD k md0).mv]) rfl rfl rfl rfl rfl (zau 1 rfl 0 rfl)) (hvQ rfl (fdQ 0 rfl rfl rfl) (hvQ rfl (zac rfl rfl rfl (zaa 0 rfl rfl)) ?_)))))
   refine zdw rfl (zar rfl rfl (fun w hm => zav (zdn (D.getD k md0) ((((D.getD k md0).ms).getD i mm0).a) w ((hd.at (k := k) (by omega)).below hm.bel)))) (zcb rfl rfl rfl rfl rfl rfl (fun h39 => ?_) (fun h39 => ?_))
   ·
    refine zba 21 rfl (zaj rfl (zbk 1 rfl ?_))
    refine zal (zab ?_)
    refine zdx ?_
    refine zab (zae ?_)
    exact zaq rfl rfl (congrArg _ (zbx (fun hp => by first | (exact absurd (show CtsP D k from ⟨hp.lt, hp.cnt, hp.ins⟩) (by assumption)) | (have h9 := hp.sg i (by omega); obtain ⟨⟨h1, h2⟩, ⟨h3, h4⟩, ⟨h5, h6⟩, h7⟩ := h9; omega) | (have h9 := hp.dr i (by omega) (by omega); omega) | (exact absurd (hp.gs i (by omega)).2 (by assumption)) | (have h9 := (hp.gs i (by omega)).1; have h8 : ¬ Drv (D.getD k md0) ((D.getD k md0).gs.getD i as0).t := (by assumption); exact h8 (by first | exact .inl (by omega) | exact .inr (by omega))) | (have h9 := (hp.gs i (by omega)).1; have h8 : ¬ Drv (D.getD k md0) ((D.getD k md0).gs.getD i as0).t := (by assumption); unfold Drv at h8; omega) | (have h9 := (hp.xs i (by omega)).1; omega) | (have h9 := ((hp.xs i (by omega)).2 j (by omega)).1; have h8 := (zbc hsgA).2 h9; omega) | (have h9 := ((hp.xs i (by omega)).2 j (by omega)).2 (by omega); exact absurd h9 (by assumption)) | (obtain ⟨⟨h1, h2, h3⟩, h4⟩ := hp.ms i (by omega); have g1 := (zbc hsgA).2 h1; have g2 := (zbc hsgA).2 h2; have g3 := (zbc hsgA).2 h3; first | omega | exact absurd h4 (by assumption)))).symm)
   refine zak 1 rfl (hvQ rfl (zaw (cs := [(D.getD k md0).sv, (D.getD k md0).av, (D.getD k md0).iv, (D.getD k md0).mv]) rfl rfl rfl rfl rfl (zau 1 rfl 0 rfl)) (hvQ rfl (fdQ 1 rfl rfl rfl) (hvQ rfl (zac rfl rfl rfl (zaa 0 rfl rfl)) ?_)))
   refine zdw rfl (zar rfl rfl (fun w hm => zav (zdn (D.getD k md0) ((((D.getD k md0).ms).getD i mm0).d) w ((hd.at (k := k) (by omega)).below hm.bel)))) (zcb rfl rfl rfl rfl rfl rfl (fun h40 => ?_) (fun h40 => ?_))
   ·
    refine enQ 15 rfl ?_
    refine zbf (zaj rfl (zbk 1 rfl ?_))
    refine zal (zab ?_)
    refine zdx ?_
    refine zab (zae ?_)
    exact zaq rfl rfl (congrArg _ (zbx (fun hp => by first | (exact absurd (show CtsP D k from ⟨hp.lt, hp.cnt, hp.ins⟩) (by assumption)) | (have h9 := hp.sg i (by omega); obtain ⟨⟨h1, h2⟩, ⟨h3, h4⟩, ⟨h5, h6⟩, h7⟩ := h9; omega) | (have h9 := hp.dr i (by omega) (by omega); omega) | (exact absurd (hp.gs i (by omega)).2 (by assumption)) | (have h9 := (hp.gs i (by omega)).1; have h8 : ¬ Drv (D.getD k md0) ((D.getD k md0).gs.getD i as0).t := (by assumption); exact h8 (by first | exact .inl (by omega) | exact .inr (by omega))) | (have h9 := (hp.gs i (by omega)).1; have h8 : ¬ Drv (D.getD k md0) ((D.getD k md0).gs.getD i as0).t := (by assumption); unfold Drv at h8; omega) | (have h9 := (hp.xs i (by omega)).1; omega) | (have h9 := ((hp.xs i (by omega)).2 j (by omega)).1; have h8 := (zbc hsgA).2 h9; omega) | (have h9 := ((hp.xs i (by omega)).2 j (by omega)).2 (by omega); exact absurd h9 (by assumption)) | (obtain ⟨⟨h1, h2, h3⟩, h4⟩ := hp.ms i (by omega); have g1 := (zbc hsgA).2 h1; have g2 := (zbc hsgA).2 h2; have g3 := (zbc hsgA).2 h3; first | omega | exact absurd h4 (by assumption)))).symm)
   refine zak 2 rfl (hvQ rfl (zaw (cs := [(D.getD k md0).sv, (D.getD k md0).av, (D.getD k md0).iv, (D.getD k md0).mv]) rfl rfl rfl rfl rfl (zau 1 rfl 0 rfl)) (hvQ rfl (fdQ 2 rfl rfl rfl) (hvQ rfl (zac rfl rfl rfl (zaa 0 rfl rfl)) ?_)))
   refine zdw rfl (zar rfl rfl (fun w hm => zav (zdn (D.getD k md0) ((((D.getD k md0).ms).getD i mm0).w) w ((hd.at (k := k) (by omega)).below hm.bel)))) (zcb rfl rfl rfl rfl rfl rfl (fun h41 => ?_) (fun h41 => ?_))
   ·
    refine zba 8 rfl (zaj rfl (zah (reQ 1 rfl (?_))))
    refine ntQ ?_
    refine zal (zab ?_)
    refine zdx ?_
    refine zab (zae ?_)
    exact zaq rfl rfl (congrArg _ (zbx (fun hp => by first | (exact absurd (show CtsP D k from ⟨hp.lt, hp.cnt, hp.ins⟩) (by assumption)) | (have h9 := hp.sg i (by omega); obtain ⟨⟨h1, h2⟩, ⟨h3, h4⟩, ⟨h5, h6⟩, h7⟩ := h9; omega) | (have h9 := hp.dr i (by omega) (by omega); omega) | (exact absurd (hp.gs i (by omega)).2 (by assumption)) | (have h9 := (hp.gs i (by omega)).1; have h8 : ¬ Drv (D.getD k md0) ((D.getD k md0).gs.getD i as0).t := (by assumption); exact h8 (by first | exact .inl (by omega) | exact .inr (by omega))) | (have h9 := (hp.gs i (by omega)).1; have h8 : ¬ Drv (D.getD k md0) ((D.getD k md0).gs.getD i as0).t := (by assumption); unfold Drv at h8; omega) | (have h9 := (hp.xs i (by omega)).1; omega) | (have h9 := ((hp.xs i (by omega)).2 j (by omega)).1; have h8 := (zbc hsgA).2 h9; omega) | (have h9 := ((hp.xs i (by omega)).2 j (by omega)).2 (by omega); exact absurd h9 (by assumption)) | (obtain ⟨⟨h1, h2, h3⟩, h4⟩ := hp.ms i (by omega); have g1 := (zbc hsgA).2 h1; have g2 := (zbc hsgA).2 h2; have g3 := (zbc hsgA).2 h3; first | omega | exact absurd h4 (by assumption)))).symm)
   refine zak 2 rfl (hvQ rfl (zaw (cs := [(D.getD k md0).sv, (D.getD k md0).av, (D.getD k md0).iv, (D.getD k md0).mv]) rfl rfl rfl rfl rfl (zau 1 rfl 0 rfl)) (hvQ rfl (fdQ 3 rfl rfl rfl) (hvQ rfl (zac rfl rfl rfl (zaa 0 rfl rfl)) ?_)))
   refine zdw rfl (zar rfl rfl (fun w hm => zav (zen (D.getD k md0) ((((D.getD k md0).ms).getD i mm0).o) w ((hd.at (k := k) (by omega)).below hm.bel)))) (zbm (fun h42 => ?_) (fun h42 => ?_))
   ·
    have h42p := zfa h42
    refine zba 2 rfl (fsQ rfl (zdq (reQ 1 rfl (hvQ rfl (vaQ rfl rfl rfl) (enQ 1 rfl ?_)))))
    exact zbw (i + 1) ⟨by omega, fun q hq => by by_cases e : q = i; (subst e; exact ⟨⟨(zbc hsgA).1 (by omega), (zbc hsgA).1 (by omega), (zbc hsgA).1 (by omega)⟩, by assumption⟩); exact hms q (by omega)⟩ (by omega) (saQ rfl) (slQ [1, 0] rfl)
   have h42p := zeg h42
   refine zba 2 rfl (zaj rfl (zbk 1 rfl ?_))
   refine zal (zab ?_)
   refine zdx ?_
   refine zab (zae ?_)
   exact zaq rfl rfl (congrArg _ (zbx (fun hp => by first | (exact absurd (show CtsP D k from ⟨hp.lt, hp.cnt, hp.ins⟩) (by assumption)) | (have h9 := hp.sg i (by omega); obtain ⟨⟨h1, h2⟩, ⟨h3, h4⟩, ⟨h5, h6⟩, h7⟩ := h9; omega) | (have h9 := hp.dr i (by omega) (by omega); omega) | (exact absurd (hp.gs i (by omega)).2 (by assumption)) | (have h9 := (hp.gs i (by omega)).1; have h8 : ¬ Drv (D.getD k md0) ((D.getD k md0).gs.getD i as0).t := (by assumption); exact h8 (by first | exact .inl (by omega) | exact .inr (by omega))) | (have h9 := (hp.gs i (by omega)).1; have h8 : ¬ Drv (D.getD k md0) ((D.getD k md0).gs.getD i as0).t := (by assumption); unfold Drv at h8; omega) | (have h9 := (hp.xs i (by omega)).1; omega) | (have h9 := ((hp.xs i (by omega)).2 j (by omega)).1; have h8 := (zbc hsgA).2 h9; omega) | (have h9 := ((hp.xs i (by omega)).2 j (by omega)).2 (by omega); exact absurd h9 (by assumption)) | (obtain ⟨⟨h1, h2, h3⟩, h4⟩ := hp.ms i (by omega); have g1 := (zbc hsgA).2 h1; have g2 := (zbc hsgA).2 h2; have g3 := (zbc hsgA).2 h3; first | omega | exact absurd h4 (by assumption)))).symm)
  refine ntQ (zap rfl ?_)
  refine zbv (zep ?_)
  refine zan (zbf (zbk 1 rfl ?_))
  exact zal (zaq rfl rfl (congrArg _ (zcz ⟨hkl, hcnt, hins, hsgA, fun q hq => hgs q (by omega), fun q hq => hxs q (by omega), fun q hq => hms q (by omega), fun q hq => hdr q (by omega)⟩).symm))
 have h2p := zeg h2
 refine zba 1 rfl (zaj rfl (zbk 1 rfl ?_))
 refine zal (zae ?_)
 exact zaq rfl rfl (congrArg _ (zbx (fun hp => by first | (exact absurd (show CtsP D k from ⟨hp.lt, hp.cnt, hp.ins⟩) (by assumption)) | (have h9 := hp.sg i (by omega); obtain ⟨⟨h1, h2⟩, ⟨h3, h4⟩, ⟨h5, h6⟩, h7⟩ := h9; omega) | (have h9 := hp.dr i (by omega) (by omega); omega) | (exact absurd (hp.gs i (by omega)).2 (by assumption)) | (have h9 := (hp.gs i (by omega)).1; have h8 : ¬ Drv (D.getD k md0) ((D.getD k md0).gs.getD i as0).t := (by assumption); exact h8 (by first | exact .inl (by omega) | exact .inr (by omega))) | (have h9 := (hp.gs i (by omega)).1; have h8 : ¬ Drv (D.getD k md0) ((D.getD k md0).gs.getD i as0).t := (by assumption); unfold Drv at h8; omega) | (have h9 := (hp.xs i (by omega)).1; omega) | (have h9 := ((hp.xs i (by omega)).2 j (by omega)).1; have h8 := (zbc hsgA).2 h9; omega) | (have h9 := ((hp.xs i (by omega)).2 j (by omega)).2 (by omega); exact absurd h9 (by assumption)) | (obtain ⟨⟨h1, h2, h3⟩, h4⟩ := hp.ms i (by omega); have g1 := (zbc hsgA).2 h1; have g2 := (zbc hsgA).2 h2; have g3 := (zbc hsgA).2 h3; first | omega | exact absurd h4 (by assumption)))).symm)
theorem specDesignOk_ans (D : List Md) (v : Value) (w : World) (hd : RdsDs w v D) :
   Calls Try.prog 51 #[.agg #[v]] w (Ans w (.bool (pB (DesP D)))) := by
 have hd9 := sml hd.row
 refine zcf (N := 20) (args := [.agg #[v]]) Try.func51 rfl rfl (srQ ?_)
 refine zdv rfl (zdp rfl rfl) ?_
 intro b1
 refine zba 1 rfl (ssrQ (hvQ rfl (fdQ 0 rfl rfl rfl) (hvQ rfl (zac rfl rfl rfl (zaa 0 rfl rfl)) (hvQ rfl (lnQ rfl rfl rfl (zag hd.row)) ?_))))
 refine zdw rfl (zar rfl rfl (fun w hm => zav (inD_ans (D.length : Int) 1 4 w))) (zbm (fun h2 => ?_) (fun h2 => ?_))
 ·
  obtain ⟨h2a, h2b⟩ := (zco _ _ _).1 h2
  refine zba 1 rfl (zap rfl (zdi (zah (zbk 1 rfl ?_))))
  refine zbh ?_
  refine lkQ1 (α := Nat) [0, 1, 2, 8] rfl (fun k => [boxE b1 #[v] 26]) (fun k => [(3, .int .i64 (k : Int))]) (fun k => k ≤ D.length ∧ ∀ q, q < k → ModP D q) (fun k => D.length - k) 0 ⟨Nat.zero_le _, fun q hq => absurd hq (by omega)⟩ (saQ rfl) (pfQ rfl) ?_
  intro k hi3
  obtain ⟨hk, hall⟩ := hi3
  refine zah (zah (reQ 1 rfl (hvQ rfl (fdQ 0 rfl rfl rfl) (hvQ rfl (zac rfl rfl rfl (zaa 0 rfl rfl)) (hvQ rfl (lnQ rfl rfl rfl (zag hd.row)) ?_)))))
  refine zcb rfl rfl rfl rfl rfl rfl (fun h4 => ?_) (fun h4 => ?_)
  ·
   refine ntQ (zaj rfl (zdi (sbQ (srQ (hvQ rfl (zaw (cs := [v]) rfl rfl rfl rfl rfl (zau 0 rfl 0 rfl)) (zak 1 rfl ?_))))))
   refine zdw rfl (zar rfl rfl (fun w hm => zav (specModuleOk_ans D k v w (hd.below hm.bel) (by omega)))) (zbm (fun h5 => ?_) (fun h5 => ?_))
   ·
    have h5p := zfa h5
    refine zba 1 rfl (fsQ rfl (zdq (reQ 1 rfl (hvQ rfl (vaQ rfl rfl rfl) (enQ 1 rfl ?_)))))
    exact zbw (k + 1) ⟨by omega, fun q hq => by by_cases e : q = k; (subst e; assumption); exact hall q (by omega)⟩ (by omega) (saQ rfl) (pfQ rfl)
   have h5p := zeg h5
   refine zba 1 rfl (zaj rfl (zbk 1 rfl ?_))
   refine zal (zab ?_)
   refine zdx ?_
   refine zab (zae ?_)
   exact zaq rfl rfl (congrArg _ (zbx (fun hp => by first | (have := hp.1; omega) | (exact absurd (hp.2 k (by omega)) (by assumption)))).symm)
  refine ntQ (zap rfl ?_)
  refine zbv (zep ?_)
  refine zan (zbf (zbk 1 rfl ?_))
  exact zal (zaq rfl rfl (congrArg _ (zcz ⟨⟨by omega, by omega⟩, fun q hq => hall q (by omega)⟩).symm))
 have h2a := zck h2
 refine zba 1 rfl (zaj rfl (zbk 1 rfl ?_))
 refine zal (zae ?_)
 exact zaq rfl rfl (congrArg _ (zbx (fun hp => by first | (have := hp.1; omega) | (exact absurd (hp.2 k (by omega)) (by assumption)))).symm)
theorem zew {α : Type} {a b : List α} {d : α} {i : Nat} (h : i < a.length) : (a ++ b).getD i d = a.getD i d := by
  rw [List.getD_eq_getElem?_getD, List.getElem?_append_left h, ← List.getD_eq_getElem?_getD]
theorem gD_right {α : Type} {a b : List α} {d : α} {i : Nat} : (a ++ b).getD (a.length + i) d = b.getD i d := by
  rw [List.getD_eq_getElem?_getD, List.getElem?_append_right (by omega), Nat.add_sub_cancel_left, ← List.getD_eq_getElem?_getD]
theorem gD_last {α : Type} {a : List α} {x d : α} : (a ++ [x]).getD a.length d = x := by
  rw [show a.length = a.length + 0 from rfl, gD_right]; rfl
theorem needK_left (P E : List Oq) : ∀ i, i ≤ P.length → needK (P ++ E) i = needK P i
  | 0, _ => rfl
  | i + 1, h => by
    show needK (P ++ E) i + (arI ((P ++ E).getD i oq0).k - 1) = _
    rw [needK_left P E i (by omega), zew (by omega)]; rfl
theorem needK_right (P E : List Oq) : ∀ i, i ≤ E.length → needK (P ++ E) (P.length + i) = needK P P.length + needK E i - 1
  | 0, _ => by rw [Nat.add_zero, needK_left P E _ (Nat.le_refl _)]; show _ = _ + 1 - 1; omega
  | i + 1, h => by
    show needK (P ++ E) (P.length + i) + (arI ((P ++ E).getD (P.length + i) oq0).k - 1) = _
    rw [needK_right P E i (by omega), gD_right]
    show _ = needK P P.length + (needK E i + (arI (E.getD i oq0).k - 1)) - 1
    omega
def PartP (n : Int) (P : List Oq) (c : Int) : Prop := (∀ i, i < P.length → 1 ≤ needK P i ∧ OqP n (P.getD i oq0)) ∧ needK P P.length = c
theorem PartP.one {n : Int} {o : Oq} (h : OqP n o) : PartP n [o] (arI o.k) := ⟨fun i hi => by
  have : i = 0 := by have : i < 1 := hi; omega
  subst this; exact ⟨by show (1 : Int) ≤ 1; omega, h⟩, by show 1 + (arI o.k - 1) = _; omega⟩
theorem PartP.app {n : Int} {P E : List Oq} {c : Int} (h : PartP n P c) (hc : 1 ≤ c) (hE : PartP n E 0) : PartP n (P ++ E) (c - 1) := ⟨fun i hi => by
  rw [List.length_append] at hi
  by_cases e : i < P.length
  · rw [needK_left _ _ _ (by omega), zew e]; exact h.1 i e
  · obtain ⟨j, rfl⟩ : ∃ j, i = P.length + j := ⟨i - P.length, by omega⟩
    rw [needK_right _ _ _ (by omega), gD_right, h.2]
    have := hE.1 j (by omega)
    exact ⟨by omega, this.2⟩, by
  rw [List.length_append, needK_right _ _ _ (Nat.le_refl _), h.2, hE.2]; omega⟩
theorem PartP.ops {n : Int} {E : List Oq} (h : PartP n E 0) (hl : E.length ≤ 15) : OpsP n E := ⟨hl, fun i hi => ⟨by have := (h.1 i hi).1; omega, (h.1 i hi).2⟩, h.2⟩
theorem OqP.mono {n n' : Int} (h : n ≤ n') {o : Oq} (ho : OqP n o) : OqP n' o := by
  rcases ho with p | ⟨p1, ⟨p2, p3⟩, p4⟩ | ⟨p1, ⟨p2, p3⟩, p4⟩ | p
  · exact .inl p
  · exact .inr (.inl ⟨p1, ⟨p2, by omega⟩, p4⟩)
  · exact .inr (.inr (.inl ⟨p1, ⟨p2, by omega⟩, p4⟩))
  · exact .inr (.inr (.inr p))
theorem OpsP.mono {n n' : Int} (h : n ≤ n') {os : List Oq} (ho : OpsP n os) : OpsP n' os := ⟨ho.len, fun i hi => ⟨(ho.op i hi).1, (ho.op i hi).2.mono h⟩, ho.fin⟩
theorem stepQ (a q : Int) (k : Nat) : (a - ((k + 1 : Nat) : Int)) * q = (a - (k : Int)) * q - q := by
  rw [show a - ((k + 1 : Nat) : Int) = (a - (k : Int)) - 1 by omega, Int.sub_mul, Int.one_mul]
theorem arKind {x : Int} (h : x ∈ ([4, 5, 6, 7, 8, 9, 10, 11, 12, 7, 12] : List Int)) : 4 ≤ x ∧ x ≤ 12 := by
  simp only [List.mem_cons, List.not_mem_nil, or_false] at h; omega
theorem arI_op {x : Int} (h : 4 ≤ x ∧ x ≤ 12) : 1 ≤ arI x ∧ arI x ≤ 3 := by unfold arI; (repeat' split) <;> omega
def ExP (n M : Int) (os : List Oq) : Prop := PartP n os 0 ∧ 1 ≤ os.length ∧ (os.length : Int) ≤ M
theorem zcq {n M : Int} {o : Oq} (h : OqP n o) (ha : arI o.k = 0) (hM : 1 ≤ M) : ExP n M [o] := ⟨by have := PartP.one h; rwa [ha] at this, by simp, by simpa using hM⟩
theorem flat_onesD {α : Type} (f : α → List Value) (xs : List α) (h : ∀ r u, u ∈ f r → u.oneCell' = true) : ∀ q ∈ xs.flatMap f, q.oneCell' = true := fun q hq => by
  obtain ⟨r, -, h2⟩ := List.mem_flatMap.1 hq
  exact h r q h2
theorem flat_app {α : Type} (f : α → List Value) (xs ys : List α) : xs.flatMap f ++ ys.flatMap f = (xs ++ ys).flatMap f := List.flatMap_append.symm
theorem rv_buildMD {P : Program} {N : Nat} {w0 : World} {l : List HP} {env : List (Nat × Value)} {o : Oper} {t : TypeId} {ps : Array (Nat × Operand)} {vs : List (Nat × Value)} {cs : Array Value} (ho : o.op = .build t ps)
    (hp : ps.toList.mapM (fun p => (ev env p.2).map fun v => (p.1, v)) = some vs) (hb : ∀ w, Mem w0 l w → P.built t vs = some cs) : RunV P N w0 l env o (.agg cs) := fun a w st => zax ho hp (hb w st.mem) a w st
theorem exStart (n : Int) {M x : Int} (hx : 4 ≤ x ∧ x ≤ 12) : PartP n [Oq.mk x 0 0] (arI x - ((0 : Nat) : Int)) ∧ 1 ≤ ([Oq.mk x 0 0] : List Oq).length ∧ (([Oq.mk x 0 0] : List Oq).length : Int) + (arI x - ((0 : Nat) : Int)) * ((M - 1) / arI x) ≤ M := by
  have ha := arI_op hx
  have h0 : arI x - ((0 : Nat) : Int) = arI x := by omega
  have h1 : OqP n (Oq.mk x 0 0) := .inr (.inr (.inr ⟨by show x ≠ 0; omega, by show x ≠ 2; omega, by show x ≠ 3; omega, by show 0 ≤ arI x; omega, rfl, rfl⟩))
  rw [h0]
  refine ⟨PartP.one h1, by simp, ?_⟩
  have h2 := Int.mul_ediv_self_le (x := M - 1) (k := arI x) (by omega)
  show (1 : Int) + arI x * ((M - 1) / arI x) ≤ M
  omega
theorem exStep {n M x : Int} {k : Nat} {os es : List Oq} (hx : 4 ≤ x ∧ x ≤ 12) (hk : (k : Int) < arI x) (hP : PartP n os (arI x - (k : Int))) (h1 : 1 ≤ os.length) (hl : (os.length : Int) + (arI x - (k : Int)) * ((M - 1) / arI x) ≤ M) (hE : ExP n ((M - 1) / arI x) es) :
    PartP n (os ++ es) (arI x - ((k + 1 : Nat) : Int)) ∧ 1 ≤ (os ++ es).length ∧ ((os ++ es).length : Int) + (arI x - ((k + 1 : Nat) : Int)) * ((M - 1) / arI x) ≤ M := by
  obtain ⟨e1, e2, e3⟩ := hE
  refine ⟨?_, by rw [List.length_append]; omega, ?_⟩
  · have := hP.app (by omega) e1
    rwa [show arI x - (k : Int) - 1 = arI x - ((k + 1 : Nat) : Int) by omega] at this
  · rw [stepQ, List.length_append]; omega
theorem exEnd {n M x : Int} {k : Nat} {os : List Oq} (hk : (k : Int) = arI x) (hP : PartP n os (arI x - (k : Int))) (h1 : 1 ≤ os.length) (hl : (os.length : Int) + (arI x - (k : Int)) * ((M - 1) / arI x) ≤ M) : ExP n M os := by
  rw [show arI x - (k : Int) = 0 by omega] at hP hl
  rw [Int.zero_mul] at hl
  exact ⟨hP, h1, by omega⟩
theorem exLen {M x : Int} {k : Nat} {os : List Oq} (hx : 4 ≤ x ∧ x ≤ 12) (hM : 1 ≤ M) (hk : (k : Int) ≤ arI x) (hl : (os.length : Int) + (arI x - (k : Int)) * ((M - 1) / arI x) ≤ M) : (os.length : Int) ≤ M := by
  have ha := arI_op hx
  have h1 : 0 ≤ (M - 1) / arI x := Int.ediv_nonneg (by omega) (by omega)
  have h2 := Int.mul_nonneg (show 0 ≤ arI x - (k : Int) by omega) h1
  omega
theorem exQuo {M x : Int} (hx : 4 ≤ x ∧ x ≤ 12) (hM : 4 ≤ M) : 1 ≤ (M - 1) / arI x ∧ (M - 1) / arI x < M := by
  have ha := arI_op hx
  have h1 : (M - 1) / 3 ≤ (M - 1) / arI x := by
    rcases (by omega : arI x = 1 ∨ arI x = 2 ∨ arI x = 3) with e | e | e <;> rw [e] <;> omega
  have h2 : (M - 1) / arI x ≤ M - 1 := by
    rcases (by omega : arI x = 1 ∨ arI x = 2 ∨ arI x = 3) with e | e | e <;> rw [e] <;> omega
  omega
structure BldP (D : List Md) (m : Md) (P : List Int) : Prop where
  sg : ∀ s ∈ m.ss, SgP s
  gs : ∀ g ∈ m.gs, AsP m g
  xs : ∀ x ∈ m.xs, ((0 ≤ x.m ∧ x.m < D.length) ∧ x.ps.length = (ptsK (D.getD x.m.toNat md0)).length) ∧ IxP D m x
  ms : ∀ x ∈ m.ms, MmP m x
  dr : ∀ s, s < m.ss.length → (drvL D m).count (s : Int) = if (m.ss.getD s sg0).k = 0 then 0 else if (s : Int) ∈ P then 0 else 1
  pn : ∀ x ∈ P, 1 ≤ knd m x ∧ knd m x ≤ 3
theorem Inn_of {m : Md} {x : Int} (h : 1 ≤ knd m x ∧ knd m x ≤ 3) : Inn m x := Classical.byContradiction fun h9 => by rw [zdr h9] at h; omega
structure Ext (m m' : Md) : Prop where
  len : m.ss.length ≤ m'.ss.length
  kk : ∀ i, i < m.ss.length → (m'.ss.getD i sg0).k = (m.ss.getD i sg0).k
theorem Ext.knd {m m' : Md} (h : Ext m m') {x : Int} (hx : Inn m x) : knd m' x = knd m x := by
  obtain ⟨h0, h1⟩ := hx; have := h.len
  rw [zch ⟨h0, by omega⟩, zch ⟨h0, h1⟩, h.kk _ (by omega)]
theorem Ext.inn {m m' : Md} (h : Ext m m') {x : Int} (hx : Inn m x) : Inn m' x := ⟨hx.1, by have := hx.2; have := h.len; omega⟩
theorem Ext.drv {m m' : Md} (h : Ext m m') {x : Int} (hx : Drv m x) : Drv m' x := by unfold Drv; rw [h.knd hx.inn]; exact hx
theorem Ext.as {m m' : Md} (h : Ext m m') {g : As} (hg : AsP m g) : AsP m' g := ⟨by rw [h.knd (Inn_of hg.1)]; exact hg.1, hg.2.mono (by have := h.len; omega)⟩
theorem Ext.ix {D : List Md} {m m' : Md} (h : Ext m m') {x : Ix} (hx : IxP D m x) : IxP D m' x := ⟨hx.1, fun j hj => ⟨h.inn (hx.2 j hj).1, fun hk => h.drv ((hx.2 j hj).2 hk)⟩⟩
theorem Ext.mm {m m' : Md} (h : Ext m m') {x : Mm} (hx : MmP m x) : MmP m' x := ⟨⟨h.inn hx.1.1, h.inn hx.1.2.1, h.inn hx.1.2.2⟩, h.drv hx.2⟩
theorem ext_app {m : Md} (v : Value) (l : List Sg) : Ext m { m with sv := v, ss := m.ss ++ l } := ⟨by show m.ss.length ≤ (m.ss ++ l).length; rw [List.length_append]; omega, fun i hi => by show ((m.ss ++ l).getD i sg0).k = _; rw [zew hi]⟩
theorem BldP.inn {D : List Md} {m : Md} {P : List Int} (h : BldP D m P) {x : Int} (hx : x ∈ drvL D m) : Inn m x := by
  unfold drvL at hx
  rcases List.mem_append.1 hx with hx | hx
  · rcases List.mem_append.1 hx with hx | hx
    · obtain ⟨g, hg, rfl⟩ := List.mem_map.1 hx; exact Inn_of (h.gs g hg).1
    · obtain ⟨g, hg, rfl⟩ := List.mem_map.1 hx; exact (h.ms g hg).2.inn
  · obtain ⟨g, hg, hx⟩ := List.mem_flatMap.1 hx
    have : ∀ j, j ≤ (ptsK (D.getD g.m.toNat md0)).length → x ∈ xoA D g j → Inn m x := by
      intro j
      induction j with
      | zero => intro _ h9; cases h9
      | succ j ih =>
        intro hj h9
        rcases List.mem_append.1 h9 with h9 | h9
        · exact ih (by omega) h9
        · split at h9
          · rw [List.mem_singleton] at h9; subst h9; exact ((h.xs g hg).2.2 j (by omega)).1
          · cases h9
    exact this _ (Nat.le_refl _) hx
theorem BldP.app {D : List Md} {m : Md} {P : List Int} (h : BldP D m P) (v : Value) {l : List Sg} (hl : ∀ s ∈ l, SgP s) {P' : List Int} (hP : ∀ x, x ∈ P' ↔ x ∈ P ∨ ∃ j, j < l.length ∧ (l.getD j sg0).k ≠ 0 ∧ x = ((m.ss.length + j : Nat) : Int)) : BldP D { m with sv := v, ss := m.ss ++ l } P' := by
  have e := ext_app (m := m) v l
  refine ⟨fun s hs => ?_, fun g hg => e.as (h.gs g hg), fun x hx => ⟨(h.xs x hx).1, e.ix (h.xs x hx).2⟩, fun x hx => e.mm (h.ms x hx), fun s hs => ?_, fun x hx => ?_⟩
  · rcases List.mem_append.1 hs with hs | hs
    · exact h.sg s hs
    · exact hl s hs
  · show (drvL D m).count (s : Int) = if ((m.ss ++ l).getD s sg0).k = 0 then 0 else if (s : Int) ∈ P' then 0 else 1
    have hs' : s < (m.ss ++ l).length := hs
    rw [List.length_append] at hs'
    by_cases e9 : s < m.ss.length
    · rw [zew e9, h.dr s e9]
      split
      · rfl
      · by_cases hp : (s : Int) ∈ P
        · rw [if_pos hp, if_pos ((hP _).2 (.inl hp))]
        · rw [if_neg hp, if_neg (fun h8 => (hP _).1 h8 |>.elim hp (fun ⟨j, _, _, h7⟩ => by omega))]
    · obtain ⟨j, rfl⟩ : ∃ j, s = m.ss.length + j := ⟨s - m.ss.length, by omega⟩
      rw [gD_right, List.count_eq_zero.2 (fun h9 => by have := (h.inn h9).2; omega)]
      split
      · rfl
      · rename_i hk; rw [if_pos ((hP _).2 (.inr ⟨j, by omega, hk, rfl⟩))]
  · rcases (hP x).1 hx with hx | ⟨j, hj, hk, rfl⟩
    · rw [e.knd (Inn_of (h.pn x hx))]; exact h.pn x hx
    · rw [zch ⟨by omega, by show _ < (((m.ss ++ l).length : Nat) : Int); rw [List.length_append]; omega⟩]
      show 1 ≤ ((m.ss ++ l).getD (((m.ss.length + j : Nat) : Int)).toNat sg0).k ∧ _ ≤ _
      rw [Int.toNat_natCast, gD_right]
      have := (hl _ (zbp (d := sg0) hj)).1; omega
theorem BldP.assign {D : List Md} {m : Md} {P : List Int} (h : BldP D m P) (v : Value) {s : Int} (hs : s ∈ P) (ov : Value) {os : List Oq} (ho : OpsP m.ss.length os) {P' : List Int} (hP : ∀ x, x ∈ P' ↔ x ∈ P ∧ x ≠ s) : BldP D { m with av := v, gs := m.gs ++ [As.mk s ov os] } P' := by
  refine ⟨h.sg, fun g hg => ?_, h.xs, h.ms, fun q hq => ?_, fun x hx => h.pn x ((hP x).1 hx).1⟩
  · rcases List.mem_append.1 hg with hg | hg
    · exact h.gs g hg
    · rw [List.mem_singleton] at hg; subst hg; exact ⟨h.pn s hs, ho⟩
  · have h1 := h.dr q hq
    have e : (drvL D { m with av := v, gs := m.gs ++ [As.mk s ov os] }).count (q : Int) = (drvL D m).count (q : Int) + if s = (q : Int) then 1 else 0 := by
      unfold drvL
      show List.count _ ((m.gs ++ [As.mk s ov os]).map As.t ++ m.ms.map Mm.o ++ m.xs.flatMap (xoK D)) = _
      rw [List.map_append]
      simp only [List.count_append]
      have : ([As.mk s ov os].map As.t).count (q : Int) = if s = (q : Int) then 1 else 0 := by
        show [s].count (q : Int) = _
        rw [List.count_singleton]; by_cases e : s = (q : Int) <;> simp [e]
      omega
    rw [e, h1]
    show _ = if (m.ss.getD q sg0).k = 0 then 0 else _
    have hk := h.pn s hs
    by_cases e2 : s = (q : Int)
    · subst e2
      have hq' : q < m.ss.length := hq
      rw [zch ⟨by omega, by omega⟩, Int.toNat_natCast] at hk
      rw [if_neg (by omega), if_pos hs, if_pos rfl, if_neg (by omega), if_neg (fun h9 => ((hP _).1 h9).2 rfl)]
    · rw [if_neg e2, Nat.add_zero]
      split
      · rfl
      · by_cases hp : (q : Int) ∈ P
        · rw [if_pos hp, if_pos ((hP _).2 ⟨hp, fun h9 => e2 h9.symm⟩)]
        · rw [if_neg hp, if_neg (fun h9 => hp ((hP _).1 h9).1)]
theorem BldP.mem {D : List Md} {m : Md} {P : List Int} (h : BldP D m P) (v : Value) {x : Mm} (hx : MmP m x) (ho : x.o ∈ P) {P' : List Int} (hP : ∀ y, y ∈ P' ↔ y ∈ P ∧ y ≠ x.o) : BldP D { m with mv := v, ms := m.ms ++ [x] } P' := by
  refine ⟨h.sg, h.gs, h.xs, fun g hg => ?_, fun q hq => ?_, fun y hy => h.pn y ((hP y).1 hy).1⟩
  · rcases List.mem_append.1 hg with hg | hg
    · exact h.ms g hg
    · rw [List.mem_singleton] at hg; subst hg; exact hx
  · have h1 := h.dr q hq
    have e : (drvL D { m with mv := v, ms := m.ms ++ [x] }).count (q : Int) = (drvL D m).count (q : Int) + if x.o = (q : Int) then 1 else 0 := by
      unfold drvL
      show List.count _ (m.gs.map As.t ++ (m.ms ++ [x]).map Mm.o ++ m.xs.flatMap (xoK D)) = _
      rw [List.map_append]
      simp only [List.count_append]
      have : ([x].map Mm.o).count (q : Int) = if x.o = (q : Int) then 1 else 0 := by
        show [x.o].count (q : Int) = _
        rw [List.count_singleton]; by_cases e : x.o = (q : Int) <;> simp [e]
      omega
    rw [e, h1]
    show _ = if (m.ss.getD q sg0).k = 0 then 0 else _
    have hk := h.pn _ ho
    by_cases e2 : x.o = (q : Int)
    · have hq' : q < m.ss.length := hq
      rw [e2] at hk ho
      rw [zch ⟨by omega, by omega⟩, Int.toNat_natCast] at hk
      rw [if_neg (by omega), if_pos ho, if_pos e2, if_neg (by omega), if_neg (fun h9 => ((hP _).1 h9).2 e2.symm)]
    · rw [if_neg e2, Nat.add_zero]
      split
      · rfl
      · by_cases hp : (q : Int) ∈ P
        · rw [if_pos hp, if_pos ((hP _).2 ⟨hp, fun h9 => e2 h9.symm⟩)]
        · rw [if_neg hp, if_neg (fun h9 => hp ((hP _).1 h9).1)]
theorem BldP.inst {D : List Md} {m : Md} {P : List Int} (h : BldP D m P) (v : Value) {x : Ix} (hx : ((0 ≤ x.m ∧ x.m < D.length) ∧ x.ps.length = (ptsK (D.getD x.m.toNat md0)).length) ∧ IxP D m x) (hn : (xoK D x).Nodup) (ho : ∀ y ∈ xoK D x, y ∈ P) {P' : List Int} (hP : ∀ y, y ∈ P' ↔ y ∈ P ∧ y ∉ xoK D x) : BldP D { m with iv := v, xs := m.xs ++ [x] } P' := by
  refine ⟨h.sg, h.gs, fun g hg => ?_, h.ms, fun q hq => ?_, fun y hy => h.pn y ((hP y).1 hy).1⟩
  · rcases List.mem_append.1 hg with hg | hg
    · exact h.xs g hg
    · rw [List.mem_singleton] at hg; subst hg; exact hx
  · have h1 := h.dr q hq
    have e : (drvL D { m with iv := v, xs := m.xs ++ [x] }).count (q : Int) = (drvL D m).count (q : Int) + (xoK D x).count (q : Int) := by
      unfold drvL
      show List.count _ (m.gs.map As.t ++ m.ms.map Mm.o ++ (m.xs ++ [x]).flatMap (xoK D)) = _
      rw [List.flatMap_append]
      simp only [List.count_append, List.flatMap_cons, List.flatMap_nil, List.append_nil]
      omega
    rw [e, h1]
    show _ = if (m.ss.getD q sg0).k = 0 then 0 else _
    by_cases e2 : (q : Int) ∈ xoK D x
    · have hq' : q < m.ss.length := hq
      have hk := h.pn _ (ho _ e2)
      rw [zch ⟨by omega, by omega⟩, Int.toNat_natCast] at hk
      have h3 := List.nodup_iff_count.1 hn (q : Int)
      have h4 := List.count_pos_iff.2 e2
      rw [if_neg (by omega), if_pos (ho _ e2), if_neg (by omega), if_neg (fun h9 => ((hP _).1 h9).2 e2)]; omega
    · rw [List.count_eq_zero.2 e2, Nat.add_zero]
      split
      · rfl
      · by_cases hp : (q : Int) ∈ P
        · rw [if_pos hp, if_pos ((hP _).2 ⟨hp, e2⟩)]
        · rw [if_neg hp, if_neg (fun h9 => hp ((hP _).1 h9).1)]
theorem BldP.start (D : List Md) : BldP D md0 [] := ⟨fun s hs => (by cases hs), fun s hs => (by cases hs), fun s hs => (by cases hs), fun s hs => (by cases hs), fun s hs => absurd hs (by show ¬ s < 0; omega), fun s hs => (by cases hs)⟩
def nPt (ss : List Sg) : Nat := (ss.filter isPt).length
theorem nPt_app (a b : List Sg) : nPt (a ++ b) = nPt a + nPt b := by unfold nPt; rw [List.filter_append, List.length_append]
theorem ptsA_len (ss : List Sg) : ∀ i, i ≤ ss.length → (ptsA ss i).length = nPt (ss.take i)
  | 0, _ => rfl
  | i + 1, hi => by
    have h1 := ptsA_len ss i (by omega)
    rw [zex sg0 (show i < ss.length by omega), nPt_app]
    unfold ptsA; rw [List.length_append, h1]; unfold nPt
    by_cases e : isPt (ss.getD i sg0) = true
    · rw [if_pos e, List.filter_cons_of_pos e]; rfl
    · rw [if_neg e, List.filter_cons_of_neg e]; rfl
theorem ptsK_len {m : Md} (h : m.ss.length ≤ 30) : (ptsK m).length = nPt m.ss := by
  unfold ptsK; rw [if_pos h, ptsA_len _ _ (Nat.le_refl _), List.take_length]
theorem nPt_le (ss : List Sg) : nPt ss ≤ ss.length := List.length_filter_le _ _
theorem nPt_not {s : Sg} (h : s.k ≠ 0 ∧ s.k ≠ 1) : nPt [s] = 0 := by
  unfold nPt; rw [List.filter_cons_of_neg (fun h9 => (isPt_iff.1 h9).elim h.1 h.2)]; rfl
theorem nPt_one (s : Sg) : nPt [s] ≤ 1 := nPt_le [s]
structure DmP (D : List Md) (m : Md) : Prop where
  b : BldP D m []
  len : LenP m
  pt : nPt m.ss ≤ 4
structure DdP (D : List Md) : Prop where
  md : ∀ k, k < D.length → DmP (D.take k) (D.getD k md0)
  len : D.length ≤ 3
theorem DdP.nil : DdP [] := ⟨fun k hk => absurd hk (by simp), by simp⟩
theorem DdP.app {D : List Md} (h : DdP D) (hl : D.length < 3) {m : Md} (hm : DmP D m) : DdP (D ++ [m]) := ⟨fun k hk => by
  rw [List.length_append, List.length_singleton] at hk
  by_cases e : k < D.length
  · rw [List.take_append_of_le_length (by omega), zew e]; exact h.md k e
  · obtain rfl : k = D.length := by omega
    rw [List.take_append_of_le_length (Nat.le_refl _), List.take_length, gD_last]; exact hm, by rw [List.length_append, List.length_singleton]; omega⟩
theorem ixP_take {D : List Md} {k : Nat} {m : Md} {x : Ix} (h0 : 0 ≤ x.m ∧ x.m < k) (hk : k ≤ D.length) : (D.take k).getD x.m.toNat md0 = D.getD x.m.toNat md0 := by
  rw [List.getD_eq_getElem?_getD, List.getElem?_take_of_lt (by omega), ← List.getD_eq_getElem?_getD]
theorem xoA_congr {D D' : List Md} {x : Ix} (h : D'.getD x.m.toNat md0 = D.getD x.m.toNat md0) : ∀ j, xoA D' x j = xoA D x j
  | 0 => rfl
  | j + 1 => by unfold xoA; rw [xoA_congr h j, h]
theorem flat_congr {α : Type} {f g : α → List Int} : ∀ {L : List α}, (∀ x ∈ L, f x = g x) → L.flatMap f = L.flatMap g
  | [], _ => rfl
  | a :: L, h => by rw [List.flatMap_cons, List.flatMap_cons, h a (by simp), flat_congr (L := L) (fun x hx => h x (by simp [hx]))]
theorem DdP.ok {D : List Md} (h : DdP D) (h1 : 1 ≤ D.length) : DesP D := by
  have hl := h.len
  have hcnt : CntP D := ⟨by omega, fun k hk => (h.md k hk).len⟩
  refine ⟨⟨h1, by omega⟩, fun k hk => ?_⟩
  have hm := h.md k hk
  have hlt : (D.take k).length = k := by rw [List.length_take]; omega
  have hx : ∀ i, i < (D.getD k md0).xs.length → ((0 ≤ ((D.getD k md0).xs.getD i ix0).m ∧ ((D.getD k md0).xs.getD i ix0).m < k) ∧ ((D.getD k md0).xs.getD i ix0).ps.length = (ptsK (D.getD ((D.getD k md0).xs.getD i ix0).m.toNat md0)).length) ∧ IxP D (D.getD k md0) ((D.getD k md0).xs.getD i ix0) := by
    intro i hi
    have h2 := hm.b.xs _ (zbp (d := ix0) hi)
    rw [hlt] at h2
    have h3 := ixP_take (D := D) (m := md0) h2.1.1 (by omega)
    obtain ⟨⟨h4, h5⟩, h6⟩ := h2
    rw [h3] at h5
    unfold IxP at h6
    rw [h3] at h6
    exact ⟨⟨h4, h5⟩, h6⟩
  refine ⟨hk, hcnt, fun i hi => (hx i hi).1, fun i hi => hm.b.sg _ (zbp hi), fun i hi => hm.b.gs _ (zbp hi), fun i hi => (hx i hi).2, fun i hi => hm.b.ms _ (zbp hi), fun s hs hk0 => ?_⟩
  have h2 := hm.b.dr s hs
  rw [if_neg hk0, if_neg (by simp)] at h2
  rw [← h2]
  unfold drvL
  have : (D.getD k md0).xs.flatMap (xoK D) = (D.getD k md0).xs.flatMap (xoK (D.take k)) := by
    refine flat_congr (fun x hx9 => ?_)
    obtain ⟨i, hi, rfl⟩ : ∃ i, i < (D.getD k md0).xs.length ∧ (D.getD k md0).xs.getD i ix0 = x := by
      obtain ⟨i, hi, e⟩ := List.getElem_of_mem hx9; exact ⟨i, hi, by rw [List.getD_eq_getElem?_getD, List.getElem?_eq_getElem hi]; exact e⟩
    have h3 := ixP_take (D := D) (m := md0) (hx i hi).1.1 (by omega)
    unfold xoK; rw [h3, xoA_congr h3]
  rw [this]
theorem zdf (g : Nat) (a : Option Addr) (len cap : Nat) (z : List Int) (v : Value) (L : List Int) (w0 : World) (l : List HP) (w : World) (hm0 : Mem w0 (curE g a len cap :: l) w) (hb : BRow .u8 w0 a len cap z) (hv : Rd w0 l v 1 L.length (L.map (Value.int .i64))) (hL : 1 ≤ L.length ∧ L.length ≤ 256) :
   Calls Try.prog 85 #[.pointer (some ⟨g, 0, none⟩), v] w (fun e_ w_ => ∃ v_ p_, e_ = .returned v_ ∧ (fun u_ p_ => (∃ x : Int, u_ = .int .i64 x ∧ x ∈ L) ∧ p_ = curE g a len cap) v_ p_ ∧ Mem w0 (p_ :: l) w_) := by
 refine zer (N := 12) (args := [.pointer (some ⟨g, 0, none⟩), v]) Try.func85 rfl rfl hm0 (zbk 1 rfl (zah (reQ 3 rfl ?_)))
 refine hvQ rfl (lnQ rfl rfl rfl (fun w hm => hv w (hm.sub (.cons _ (.refl _))))) (zbz (R := (fun u_ p_ => (∃ x_ : Int, u_ = .int .i64 x_ ∧ 0 ≤ x_ ∧ x_ < (L.length : Int)) ∧ p_ = curE g a len cap)) 0 rfl rfl rfl rfl rfl (fun l' w hm => zbl g a len cap z (L.length : Int) _ _ _ hm hb (by constructor <;> omega)) ?_)
 intro v1 p2 hR3
 obtain ⟨⟨xhR3, rfl, xhR30, xhR31⟩, rfl⟩ := hR3
 refine zci (l' := (curE g a len cap :: l)) rfl ?_
 refine hvQ rfl (riQ 1 rfl rfl rfl rfl (fun w hm => hv w (hm.sub (.cons _ (.refl _))))) (hvQ rfl (lzQ rfl rfl rfl (fun w hm => hv w (hm.sub (.cons _ (.refl _))))) ?_)
 refine zba 1 rfl ?_
 exact zal (zcv (rs := [.tmp 4]) (vs := [.int .i64 (L.getD ((xhR3).toNat) 0)]) rfl ⟨rfl, trivial⟩ rfl (fun w hm => ⟨_, curE g a len cap, rfl, ⟨⟨_, rfl, getD_mem' (es := L) (d := 0) (by omega)⟩, rfl⟩, hm.sub (.refl _)⟩))
theorem l04Expr_step (g : Nat) (a : Option Addr) (len cap : Nat) (z : List Int) (n : Int) (u : Value) (A : List Int) (M : Int) (w0 : World) (l : List HP) (w : World) (hm0 : Mem w0 (curE g a len cap :: l) w) (hb : BRow .u8 w0 a len cap z) (hu : Rd w0 l u 1 A.length (A.map (Value.int .i64))) (hA : ∀ x ∈ A, 0 ≤ x ∧ x < n) (hAl : A.length ≤ 100) (hM : 1 ≤ M ∧ M ≤ 15) (IH : ∀ (q : Int), 1 ≤ q → q < M → ∀ (l2 : List HP) (w2 : World), Mem w0 (curE g a len cap :: l2) w2 → Rd w0 l2 u 1 A.length (A.map (Value.int .i64)) → Calls Try.prog 86 #[.pointer (some ⟨g, 0, none⟩), u, .int .i64 (q)] w2 (fun e_ w_ => ∃ v_ p_, e_ = .returned v_ ∧ (fun u_ p_ => ∃ os : List Oq, p_ = bigE [curE g a len cap, rowE 97 3 u_ os.length (os.flatMap oqC)] ∧ ExP n q os) v_ p_ ∧ Mem w0 (p_ :: l2) w_)) :
   Calls Try.prog 86 #[.pointer (some ⟨g, 0, none⟩), u, .int .i64 M] w (fun e_ w_ => ∃ v_ p_, e_ = .returned v_ ∧ (fun u_ p_ => ∃ os : List Oq, p_ = bigE [curE g a len cap, rowE 97 3 u_ os.length (os.flatMap oqC)] ∧ ExP n M os) v_ p_ ∧ Mem w0 (p_ :: l) w_) := by
 refine zer (N := 85) (args := [.pointer (some ⟨g, 0, none⟩), u, .int .i64 M]) Try.func86 rfl rfl hm0 (zbk 1 rfl (zah (zah (reQ 1 rfl ?_))))
 refine zcb rfl rfl rfl rfl rfl rfl (fun h1 => ?_) (fun h1 => ?_)
 ·
  refine zba 4 rfl (zaj rfl (zah (zah (reQ 1 rfl ?_))))
  refine zbz (R := (fun u_ p_ => (∃ x_ : Int, u_ = .int .i64 x_ ∧ 0 ≤ x_ ∧ x_ < 8) ∧ p_ = curE g a len cap)) 0 rfl rfl rfl rfl rfl (fun l' w hm => zbl g a len cap z 8 _ _ _ hm hb (by constructor <;> omega)) ?_
  intro v2 p3 hR4
  obtain ⟨⟨xhR4, rfl, xhR40, xhR41⟩, rfl⟩ := hR4
  refine zci (l' := (curE g a len cap :: l)) rfl ?_
  refine ntQ (zbh (srQ ?_))
  refine zby rfl rfl rfl rfl rfl rfl (fun h5 => ?_) (fun h5 => ?_)
  ·
   refine zba 1 rfl (zaj rfl (zah (reQ 1 rfl ?_)))
   refine zbz (R := (fun u_ p_ => (∃ x_ : Int, u_ = .int .i64 x_ ∧ 0 ≤ x_ ∧ x_ < 16) ∧ p_ = curE g a len cap)) 0 rfl rfl rfl rfl rfl (fun l' w hm => zbl g a len cap z 16 _ _ _ hm hb (by constructor <;> omega)) ?_
   intro v6 p7 hR8
   obtain ⟨⟨xhR8, rfl, xhR80, xhR81⟩, rfl⟩ := hR8
   refine zci (l' := (curE g a len cap :: l)) rfl ?_
   refine hvQ rfl (zax (cs := #[.int .i64 0, .int .i64 xhR8, .int .i64 0]) rfl rfl rfl) (zeb rfl (zai (z := .agg #[.int .i64 0, .int .i64 0, .int .i64 0]) (s := 3) (cs := ([0, xhR8, 0].map (Value.int .i64))) rfl Try.underlying71 rfl (by decide) rfl (by kernel_rfl) rfl) ?_)
   intro g9
   refine zba 1 rfl ?_
   refine zal (zab ?_)
   refine zdx ?_
   refine zbd 2 [0, 1] rfl rfl (by decide) ?_
   refine zbu 2 rfl ?_
   exact zcv (rs := [.tmp 6]) (vs := [.slice (some ⟨g9, 0, none⟩) 1 1]) rfl ⟨rfl, trivial⟩ rfl (fun w hm => ⟨_, bigE [curE g a len cap, rowE 97 3 (.slice (some ⟨g9, 0, none⟩) 1 1) 1 ([0, xhR8, 0].map (Value.int .i64))], rfl, ⟨[Oq.mk 0 xhR8 0], rfl, zcq (by first | exact .inl ⟨rfl, ⟨by dsimp only; omega, by dsimp only; omega⟩, rfl⟩ | exact .inr (.inl ⟨rfl, ⟨by dsimp only; omega, by dsimp only; omega⟩, rfl⟩) | exact .inr (.inr (.inl ⟨rfl, ⟨by dsimp only; omega, by dsimp only; omega⟩, by dsimp only; omega, by dsimp only; omega⟩)) | exact .inr (.inr (.inr ⟨by decide, by decide, by decide, by decide, rfl, rfl⟩))) rfl (by omega)⟩, hm.sub (.refl _)⟩)
  refine zba 1 rfl (zap rfl (srQ ?_))
  refine zby rfl rfl rfl rfl rfl rfl (fun h10 => ?_) (fun h10 => ?_)
  ·
   refine zba 1 rfl (zaj rfl (zah (reQ 1 rfl ?_)))
   refine zbz (R := (fun u_ p_ => (∃ b : Bool, u_ = .bool b) ∧ p_ = curE g a len cap)) 0 rfl rfl rfl rfl rfl (fun l' w hm => once_mut hm hb (3) (by omega) (by omega)) ?_
   intro v11 p12 hR13
   obtain ⟨⟨xhR13, rfl⟩, rfl⟩ := hR13
   refine zci (l' := (curE g a len cap :: l)) rfl ?_
   refine zbm (fun h14 => ?_) (fun h14 => ?_)
   ·
    refine ntQ (zaj rfl (srQ (hvQ rfl (zax (cs := #[.int .i64 1, .int .i64 0, .int .i64 0]) rfl rfl rfl) ?_)))
    refine zeb rfl (zai (z := .agg #[.int .i64 0, .int .i64 0, .int .i64 0]) (s := 3) (cs := ([1, 0, 0].map (Value.int .i64))) rfl Try.underlying71 rfl (by decide) rfl (by kernel_rfl) rfl) ?_
    intro g15
    refine zba 1 rfl ?_
    refine zal (zab ?_)
    refine zdx ?_
    refine zbd 2 [0, 1] rfl rfl (by decide) ?_
    refine zbu 2 rfl ?_
    exact zcv (rs := [.tmp 6]) (vs := [.slice (some ⟨g15, 0, none⟩) 1 1]) rfl ⟨rfl, trivial⟩ rfl (fun w hm => ⟨_, bigE [curE g a len cap, rowE 97 3 (.slice (some ⟨g15, 0, none⟩) 1 1) 1 ([1, 0, 0].map (Value.int .i64))], rfl, ⟨[Oq.mk 1 0 0], rfl, zcq (by first | exact .inl ⟨rfl, ⟨by dsimp only; omega, by dsimp only; omega⟩, rfl⟩ | exact .inr (.inl ⟨rfl, ⟨by dsimp only; omega, by dsimp only; omega⟩, rfl⟩) | exact .inr (.inr (.inl ⟨rfl, ⟨by dsimp only; omega, by dsimp only; omega⟩, by dsimp only; omega, by dsimp only; omega⟩)) | exact .inr (.inr (.inr ⟨by decide, by decide, by decide, by decide, rfl, rfl⟩))) rfl (by omega)⟩, hm.sub (.refl _)⟩)
   refine ntQ (fsQ rfl (zdq (zah (zah (reQ 1 rfl ?_)))))
   refine hvQ rfl (lnQ rfl rfl rfl (fun w hm => hu w (hm.sub (.cons _ (.refl _))))) (zby rfl rfl rfl rfl rfl rfl (fun h16 => ?_) (fun h16 => ?_))
   ·
    refine ntQ (zaj rfl (srQ (hvQ rfl (zax (cs := #[.int .i64 0, .int .i64 1, .int .i64 0]) rfl rfl rfl) ?_)))
    refine zeb rfl (zai (z := .agg #[.int .i64 0, .int .i64 0, .int .i64 0]) (s := 3) (cs := ([0, 1, 0].map (Value.int .i64))) rfl Try.underlying71 rfl (by decide) rfl (by kernel_rfl) rfl) ?_
    intro g17
    refine zba 1 rfl ?_
    refine zal (zdx ?_)
    refine zbd 2 [0, 1] rfl rfl (by decide) ?_
    refine zbu 2 rfl ?_
    exact zcv (rs := [.tmp 6]) (vs := [.slice (some ⟨g17, 0, none⟩) 1 1]) rfl ⟨rfl, trivial⟩ rfl (fun w hm => ⟨_, bigE [curE g a len cap, rowE 97 3 (.slice (some ⟨g17, 0, none⟩) 1 1) 1 ([0, 1, 0].map (Value.int .i64))], rfl, ⟨[Oq.mk 0 1 0], rfl, zcq (by first | exact .inl ⟨rfl, ⟨by dsimp only; omega, by dsimp only; omega⟩, rfl⟩ | exact .inr (.inl ⟨rfl, ⟨by dsimp only; omega, by dsimp only; omega⟩, rfl⟩) | exact .inr (.inr (.inl ⟨rfl, ⟨by dsimp only; omega, by dsimp only; omega⟩, by dsimp only; omega, by dsimp only; omega⟩)) | exact .inr (.inr (.inr ⟨by decide, by decide, by decide, by decide, rfl, rfl⟩))) rfl (by omega)⟩, hm.sub (.refl _)⟩)
   refine ntQ (zap rfl (zdi (zah (reQ 3 rfl ?_))))
   refine hvQ rfl (lnQ rfl rfl rfl (fun w hm => hu w (hm.sub (.cons _ (.refl _))))) (zbz (R := (fun u_ p_ => (∃ x_ : Int, u_ = .int .i64 x_ ∧ 0 ≤ x_ ∧ x_ < (A.length : Int)) ∧ p_ = curE g a len cap)) 0 rfl rfl rfl rfl rfl (fun l' w hm => zbl g a len cap z (A.length : Int) _ _ _ hm hb (by constructor <;> omega)) ?_)
   intro v18 p19 hR20
   obtain ⟨⟨xhR20, rfl, xhR200, xhR201⟩, rfl⟩ := hR20
   refine zci (l' := (curE g a len cap :: l)) rfl ?_
   refine hvQ rfl (riQ 1 rfl rfl rfl rfl (fun w hm => hu w (hm.sub (.cons _ (.refl _))))) (hvQ rfl (lzQ rfl rfl rfl (fun w hm => hu w (hm.sub (.cons _ (.refl _))))) ?_)
   refine hvQ rfl (zax (cs := #[.int .i64 2, .int .i64 (A.getD ((xhR20).toNat) 0), .int .i64 0]) rfl rfl rfl) (zeb rfl (zai (z := .agg #[.int .i64 0, .int .i64 0, .int .i64 0]) (s := 3) (cs := ([2, A.getD ((xhR20).toNat) 0, 0].map (Value.int .i64))) rfl Try.underlying71 rfl (by decide) rfl (by kernel_rfl) rfl) ?_)
   intro g21
   refine zba 1 rfl ?_
   refine zal (zae ?_)
   have hA8 := hA _ (zbp (d := (0 : Int)) (show xhR20.toNat < A.length by omega))
   refine zbd 2 [0, 1] rfl rfl (by decide) ?_
   refine zbu 2 rfl ?_
   exact zcv (rs := [.tmp 6]) (vs := [.slice (some ⟨g21, 0, none⟩) 1 1]) rfl ⟨rfl, trivial⟩ rfl (fun w hm => ⟨_, bigE [curE g a len cap, rowE 97 3 (.slice (some ⟨g21, 0, none⟩) 1 1) 1 ([2, A.getD ((xhR20).toNat) 0, 0].map (Value.int .i64))], rfl, ⟨[Oq.mk 2 (A.getD ((xhR20).toNat) 0) 0], rfl, zcq (by first | exact .inl ⟨rfl, ⟨by dsimp only; omega, by dsimp only; omega⟩, rfl⟩ | exact .inr (.inl ⟨rfl, ⟨by dsimp only; omega, by dsimp only; omega⟩, rfl⟩) | exact .inr (.inr (.inl ⟨rfl, ⟨by dsimp only; omega, by dsimp only; omega⟩, by dsimp only; omega, by dsimp only; omega⟩)) | exact .inr (.inr (.inr ⟨by decide, by decide, by decide, by decide, rfl, rfl⟩))) rfl (by omega)⟩, hm.sub (.refl _)⟩)
  refine zba 1 rfl (zap rfl (ssrQ ?_))
  refine zby rfl rfl rfl rfl rfl rfl (fun h22 => ?_) (fun h22 => ?_)
  ·
   refine zba 1 rfl (zaj rfl (zdi (zaj rfl (zah (reQ 1 rfl ?_)))))
   refine hvQ rfl (lnQ rfl rfl rfl (fun w hm => hu w (hm.sub (.cons _ (.refl _))))) (zed rfl rfl rfl rfl rfl rfl (fun h23 => ?_) (fun h23 => ?_))
   ·
    refine ntQ (zaj rfl (zah ?_))
    refine zei (l := (l)) rfl 11 [0, 1, 2, 3, 4, 5, 6, 7, 8, 9, 10] (List.take 11 _) (List.drop 11 _) [[], [], [], [2], [1, 3], [0, 4], [4, 5], [], [4, 7], [4, 6, 8], [4, 8, 9]] [37, 38, 39, 40, 41, 42, 43, 44, 45, 46, 47] (fun i_ vs_ v_ p_ => match i_ with | 0 => v_ = u ∧ p_ = [] | 1 => v_ = .pointer (some ⟨g, 0, none⟩) ∧ p_ = [] | 2 => v_ = u ∧ p_ = [] | 3 => v_ = .int .i64 (A.length : Int) ∧ p_ = [] | 4 => (∃ pm_, p_ = [pm_] ∧ (fun u_ p_ => (∃ x_ : Int, u_ = .int .i64 x_ ∧ 0 ≤ x_ ∧ x_ < (A.length : Int)) ∧ p_ = curE g a len cap) v_ pm_) | 5 => v_ = elP u (((intOf_o (List.getD vs_ 1 undef))).toNat * 1) ∧ p_ = [] | 6 => v_ = .int .i64 (A.getD (((intOf_o (List.getD vs_ 0 undef))).toNat) 0) ∧ p_ = [] | 7 => v_ = .pointer (some ⟨g, 0, none⟩) ∧ p_ = [] | 8 => (∃ pm_, p_ = [pm_] ∧ (fun u_ p_ => (∃ x_ : Int, u_ = .int .i64 x_ ∧ 0 ≤ x_ ∧ x_ < 2) ∧ p_ = curE g a len cap) v_ pm_) | 9 => v_ = .agg #[.int .i64 3, .int .i64 (A.getD (((intOf_o (List.getD vs_ 0 undef))).toNat) 0), .int .i64 (intOf_o (List.getD vs_ 2 undef))] ∧ p_ = [] | 10 => IsRow 97 3 1 ([3, A.getD (((intOf_o (List.getD vs_ 0 undef))).toNat) 0, (intOf_o (List.getD vs_ 1 undef))].map (Value.int .i64)) v_ p_ | _ => True) [[], [], [], [2], [1, 3], [0], [5], [], [7], [6, 8], [8, 9]] [none, none, none, none, some 12, none, none, none, some 4, none, none] [curE g a len cap] [0, 1, 2, 3, 5, 6, 7, 8, 9, 10] 12 (List.take_append_drop 11 _).symm (by kernel_rfl) (by kernel_rfl) (by kernel_rfl) rfl rfl ?_ ?_
    ·
     refine ⟨?_, ?_, ?_, ?_, ?_, ?_, ?_, ?_, ?_, ?_, ?_, trivial⟩
     ·
      intro vf pf hmu hR
      refine dqQ [] [] rfl (zbr (zao [1] rfl) ?_)
      exact zbq (zay rfl)
     ·
      intro vf pf hmu hR
      refine dqQ [] [] rfl (zbr (zao [0] rfl) ?_)
      exact zbq (zay rfl)
     ·
      intro vf pf hmu hR
      refine dqQ [] [] rfl (zbr (zao [1] rfl) ?_)
      exact zbq (zay rfl)
     ·
      intro vf pf hmu hR
      have e2 := hR 2 (by decide)
      refine dqQ [2] [2] rfl (zaz (sk 39 (congrArg some e2.1) (zaf _)) (List.sublist_append_right _ _) ?_)
      exact zbq (lnQ rfl rfl rfl (fun w hm => hu w (hm.sub (.refl _))))
     ·
      intro vf pf hmu hR
      have e1 := hR 1 (by decide)
      have e3 := hR 3 (by decide)
      refine Or.inl ⟨rfl, ?_⟩
      show RunM _ _ _ (pf 12) (([1, 3] : List Nat).flatMap pf ++ _) (envOf _ vf [1, 3] ++ _) _ _
      rw [hmu]
      exact zcp (sk 38 (congrArg some e1.1) (sk 40 (congrArg some e3.1) (zaf _))) (by simp only [e1.2, e3.2, fS] <;> rfl) (zcy (R := (fun u_ p_ => (∃ x_ : Int, u_ = .int .i64 x_ ∧ 0 ≤ x_ ∧ x_ < (A.length : Int)) ∧ p_ = curE g a len cap)) rfl rfl (fun L w hX hm => zbl g a len cap z (A.length : Int) _ _ _ hm hb (by constructor <;> omega)))
     ·
      intro vf pf hmu hR
      have e0 := hR 0 (by decide)
      have e4 : (∃ pm_, (pf 4) = [pm_] ∧ (fun u_ p_ => (∃ x_ : Int, u_ = .int .i64 x_ ∧ 0 ≤ x_ ∧ x_ < (A.length : Int)) ∧ p_ = curE g a len cap) (vf 4) pm_) := hR 4 (by decide)
      obtain ⟨p25, pE4, hR26⟩ := e4
      obtain ⟨v24, vE4⟩ : ∃ x, vf 4 = x := ⟨_, rfl⟩
      rw [vE4] at hR26
      obtain ⟨⟨xhR26, rfl, xhR260, xhR261⟩, rfl⟩ := hR26
      refine dqQ [0] [0, 4] rfl (zaz (sk 37 (congrArg some e0.1) (sk 41 (congrArg some vE4) (zaf _))) (List.sublist_append_right _ _) ?_)
      exact zcc (zbq (riQ 1 rfl rfl rfl rfl (fun w hm => hu w (hm.sub (.refl _))))) (fun _ _ h => ⟨h.1.trans (by show _ = (elP u (((intOf_o (vf 4))).toNat * 1) : Value); first | (rw [vE4]; done) | (rw [vE4]; rfl)), h.2⟩)
     ·
      intro vf pf hmu hR
      have e4 : (∃ pm_, (pf 4) = [pm_] ∧ (fun u_ p_ => (∃ x_ : Int, u_ = .int .i64 x_ ∧ 0 ≤ x_ ∧ x_ < (A.length : Int)) ∧ p_ = curE g a len cap) (vf 4) pm_) := hR 4 (by decide)
      obtain ⟨p25, pE4, hR26⟩ := e4
      obtain ⟨v24, vE4⟩ : ∃ x, vf 4 = x := ⟨_, rfl⟩
      rw [vE4] at hR26
      obtain ⟨⟨xhR26, rfl, xhR260, xhR261⟩, rfl⟩ := hR26
      have e5 : (vf 5) = elP u (((intOf_o (vf 4))).toNat * 1) ∧ (pf 5) = [] := hR 5 (by decide)
      rw [vE4] at e5; try simp only [intOf_o] at e5
      refine dqQ [5] [4, 5] rfl (zaz (sk 42 (congrArg some e5.1) (zaf _)) (List.sublist_append_right _ _) ?_)
      exact zcc (zbq (lzQ rfl rfl rfl (fun w hm => hu w (hm.sub (.refl _))))) (fun _ _ h => ⟨h.1.trans (by show _ = (.int .i64 (A.getD (((intOf_o (vf 4))).toNat) 0) : Value); first | (rw [vE4]; done) | (rw [vE4]; rfl)), h.2⟩)
     ·
      intro vf pf hmu hR
      refine dqQ [] [] rfl (zbr (zao [0] rfl) ?_)
      exact zbq (zay rfl)
     ·
      intro vf pf hmu hR
      have e4 : (∃ pm_, (pf 4) = [pm_] ∧ (fun u_ p_ => (∃ x_ : Int, u_ = .int .i64 x_ ∧ 0 ≤ x_ ∧ x_ < (A.length : Int)) ∧ p_ = curE g a len cap) (vf 4) pm_) := hR 4 (by decide)
      obtain ⟨p25, pE4, hR26⟩ := e4
      obtain ⟨v24, vE4⟩ : ∃ x, vf 4 = x := ⟨_, rfl⟩
      rw [vE4] at hR26
      obtain ⟨⟨xhR26, rfl, xhR260, xhR261⟩, rfl⟩ := hR26
      have e7 := hR 7 (by decide)
      refine Or.inl ⟨rfl, ?_⟩
      show RunM _ _ _ (pf 4) (([7] : List Nat).flatMap pf ++ _) (envOf _ vf [4, 7] ++ _) _ _
      rw [pE4]
      exact zcp (sk 44 (congrArg some e7.1) (zaf _)) (by simp only [e7.2, fS] <;> rfl) (zcy (R := (fun u_ p_ => (∃ x_ : Int, u_ = .int .i64 x_ ∧ 0 ≤ x_ ∧ x_ < 2) ∧ p_ = curE g a len cap)) rfl rfl (fun L w hX hm => zbl g a len cap z 2 _ _ _ hm hb (by constructor <;> omega)))
     ·
      intro vf pf hmu hR
      have e4 : (∃ pm_, (pf 4) = [pm_] ∧ (fun u_ p_ => (∃ x_ : Int, u_ = .int .i64 x_ ∧ 0 ≤ x_ ∧ x_ < (A.length : Int)) ∧ p_ = curE g a len cap) (vf 4) pm_) := hR 4 (by decide)
      obtain ⟨p25, pE4, hR26⟩ := e4
      obtain ⟨v24, vE4⟩ : ∃ x, vf 4 = x := ⟨_, rfl⟩
      rw [vE4] at hR26
      obtain ⟨⟨xhR26, rfl, xhR260, xhR261⟩, rfl⟩ := hR26
      have e6 : (vf 6) = .int .i64 (A.getD (((intOf_o (vf 4))).toNat) 0) ∧ (pf 6) = [] := hR 6 (by decide)
      rw [vE4] at e6; try simp only [intOf_o] at e6
      have e8 : (∃ pm_, (pf 8) = [pm_] ∧ (fun u_ p_ => (∃ x_ : Int, u_ = .int .i64 x_ ∧ 0 ≤ x_ ∧ x_ < 2) ∧ p_ = curE g a len cap) (vf 8) pm_) := hR 8 (by decide)
      obtain ⟨p28, pE8, hR29⟩ := e8
      obtain ⟨v27, vE8⟩ : ∃ x, vf 8 = x := ⟨_, rfl⟩
      rw [vE8] at hR29
      obtain ⟨⟨xhR29, rfl, xhR290, xhR291⟩, rfl⟩ := hR29
      refine dqQ [6, 8] [4, 6, 8] rfl (zcd (sk 43 (congrArg some e6.1) (sk 45 (congrArg some vE8) (zaf _))) (by simp only [pE8, vE8, e6.2, fS] <;> rfl) ?_)
      exact zcc (zbq (zax (cs := #[.int .i64 3, .int .i64 (A.getD ((xhR26).toNat) 0), .int .i64 xhR29]) rfl rfl rfl)) (fun _ _ h => ⟨h.1.trans (by show _ = (.agg #[.int .i64 3, .int .i64 (A.getD (((intOf_o (vf 4))).toNat) 0), .int .i64 (intOf_o (vf 8))] : Value); first | (rw [vE4, vE8]; done) | (rw [vE4, vE8]; rfl)), h.2⟩)
     intro vf pf hmu hR
     have e4 : (∃ pm_, (pf 4) = [pm_] ∧ (fun u_ p_ => (∃ x_ : Int, u_ = .int .i64 x_ ∧ 0 ≤ x_ ∧ x_ < (A.length : Int)) ∧ p_ = curE g a len cap) (vf 4) pm_) := hR 4 (by decide)
     obtain ⟨p25, pE4, hR26⟩ := e4
     obtain ⟨v24, vE4⟩ : ∃ x, vf 4 = x := ⟨_, rfl⟩
     rw [vE4] at hR26
     obtain ⟨⟨xhR26, rfl, xhR260, xhR261⟩, rfl⟩ := hR26
     have e8 : (∃ pm_, (pf 8) = [pm_] ∧ (fun u_ p_ => (∃ x_ : Int, u_ = .int .i64 x_ ∧ 0 ≤ x_ ∧ x_ < 2) ∧ p_ = curE g a len cap) (vf 8) pm_) := hR 8 (by decide)
     obtain ⟨p28, pE8, hR29⟩ := e8
     obtain ⟨v27, vE8⟩ : ∃ x, vf 8 = x := ⟨_, rfl⟩
     rw [vE8] at hR29
     obtain ⟨⟨xhR29, rfl, xhR290, xhR291⟩, rfl⟩ := hR29
     have e9 : (vf 9) = .agg #[.int .i64 3, .int .i64 (A.getD (((intOf_o (vf 4))).toNat) 0), .int .i64 (intOf_o (vf 8))] ∧ (pf 9) = [] := hR 9 (by decide)
     rw [vE4, vE8] at e9; try simp only [intOf_o] at e9
     refine dqQ [8, 9] [4, 8, 9] rfl (zcd (sk 46 (congrArg some e9.1) (zaf _)) (by simp only [pE8, vE8, e9.2, fS] <;> rfl) ?_)
     exact zcc (zai (z := .agg #[.int .i64 0, .int .i64 0, .int .i64 0]) (s := 3) (cs := ([3, A.getD ((xhR26).toNat) 0, xhR29].map (Value.int .i64))) rfl Try.underlying71 rfl (by decide) rfl (by kernel_rfl) rfl) (fun v_ p_ h => by show IsRow 97 3 1 ([3, A.getD (((intOf_o (vf 4))).toNat) 0, (intOf_o (vf 8))].map (Value.int .i64)) v_ p_; rw [vE4, vE8]; exact h)
    intro vf pf hmu hR
    have e4 : (∃ pm_, (pf 4) = [pm_] ∧ (fun u_ p_ => (∃ x_ : Int, u_ = .int .i64 x_ ∧ 0 ≤ x_ ∧ x_ < (A.length : Int)) ∧ p_ = curE g a len cap) (vf 4) pm_) := hR 4 (by decide)
    obtain ⟨p25, pE4, hR26⟩ := e4
    obtain ⟨v24, vE4⟩ : ∃ x, vf 4 = x := ⟨_, rfl⟩
    rw [vE4] at hR26
    obtain ⟨⟨xhR26, rfl, xhR260, xhR261⟩, rfl⟩ := hR26
    have e8 : (∃ pm_, (pf 8) = [pm_] ∧ (fun u_ p_ => (∃ x_ : Int, u_ = .int .i64 x_ ∧ 0 ≤ x_ ∧ x_ < 2) ∧ p_ = curE g a len cap) (vf 8) pm_) := hR 8 (by decide)
    obtain ⟨p28, pE8, hR29⟩ := e8
    obtain ⟨v27, vE8⟩ : ∃ x, vf 8 = x := ⟨_, rfl⟩
    rw [vE8] at hR29
    obtain ⟨⟨xhR29, rfl, xhR290, xhR291⟩, rfl⟩ := hR29
    have e10 : IsRow 97 3 1 ([3, A.getD (((intOf_o (vf 4))).toNat) 0, (intOf_o (vf 8))].map (Value.int .i64)) (vf 10) (pf 10) := hR 10 (by decide)
    rw [vE4, vE8] at e10; try simp only [intOf_o] at e10
    obtain ⟨g30, vE10, pE10⟩ := e10
    have q0 := hR 0 (by decide)
    have q1 := hR 1 (by decide)
    have q2 := hR 2 (by decide)
    have q3 := hR 3 (by decide)
    have q5 := hR 5 (by decide)
    have q6 := hR 6 (by decide)
    have q7 := hR 7 (by decide)
    have q9 := hR 9 (by decide)
    refine zcr (zcg [36, 31, 25, 19, 18, 16, 6, 2, 1, 0] _ (sk 47 (congrArg some vE10) (zaf _)) rfl) (by simp only [pE8, vE8, pE10, vE10, q0.2, q1.2, q2.2, q3.2, q5.2, q6.2, q7.2, q9.2, fS] <;> rfl) ?_
    simp only [List.drop_succ_cons, List.drop_zero]
    refine zba 1 rfl ?_
    refine zal (zab ?_)
    refine zdx ?_
    have hA8 := hA _ (zbp (d := (0 : Int)) (show xhR26.toNat < A.length by omega))
    refine zbd 2 [1, 0] rfl rfl (by decide) ?_
    refine zbu 2 rfl ?_
    exact zcv (rs := [.tmp 6]) (vs := [.slice (some ⟨g30, 0, none⟩) 1 1]) rfl ⟨rfl, trivial⟩ rfl (fun w hm => ⟨_, bigE [curE g a len cap, rowE 97 3 (.slice (some ⟨g30, 0, none⟩) 1 1) 1 ([3, A.getD ((xhR26).toNat) 0, xhR29].map (Value.int .i64))], rfl, ⟨[Oq.mk 3 (A.getD ((xhR26).toNat) 0) xhR29], rfl, zcq (by first | exact .inl ⟨rfl, ⟨by dsimp only; omega, by dsimp only; omega⟩, rfl⟩ | exact .inr (.inl ⟨rfl, ⟨by dsimp only; omega, by dsimp only; omega⟩, rfl⟩) | exact .inr (.inr (.inl ⟨rfl, ⟨by dsimp only; omega, by dsimp only; omega⟩, by dsimp only; omega, by dsimp only; omega⟩)) | exact .inr (.inr (.inr ⟨by decide, by decide, by decide, by decide, rfl, rfl⟩))) rfl (by omega)⟩, hm.sub (.refl _)⟩)
   refine ntQ (fsQ rfl (zdq (zah (zah (reQ 1 rfl ?_)))))
   refine hvQ rfl (lnQ rfl rfl rfl (fun w hm => hu w (hm.sub (.cons _ (.refl _))))) (zby rfl rfl rfl rfl rfl rfl (fun h31 => ?_) (fun h31 => ?_))
   ·
    refine ntQ (zaj rfl (srQ (hvQ rfl (zax (cs := #[.int .i64 0, .int .i64 1, .int .i64 0]) rfl rfl rfl) ?_)))
    refine zeb rfl (zai (z := .agg #[.int .i64 0, .int .i64 0, .int .i64 0]) (s := 3) (cs := ([0, 1, 0].map (Value.int .i64))) rfl Try.underlying71 rfl (by decide) rfl (by kernel_rfl) rfl) ?_
    intro g32
    refine zba 1 rfl ?_
    refine zal (zdx ?_)
    refine zbd 2 [0, 1] rfl rfl (by decide) ?_
    refine zbu 2 rfl ?_
    exact zcv (rs := [.tmp 6]) (vs := [.slice (some ⟨g32, 0, none⟩) 1 1]) rfl ⟨rfl, trivial⟩ rfl (fun w hm => ⟨_, bigE [curE g a len cap, rowE 97 3 (.slice (some ⟨g32, 0, none⟩) 1 1) 1 ([0, 1, 0].map (Value.int .i64))], rfl, ⟨[Oq.mk 0 1 0], rfl, zcq (by first | exact .inl ⟨rfl, ⟨by dsimp only; omega, by dsimp only; omega⟩, rfl⟩ | exact .inr (.inl ⟨rfl, ⟨by dsimp only; omega, by dsimp only; omega⟩, rfl⟩) | exact .inr (.inr (.inl ⟨rfl, ⟨by dsimp only; omega, by dsimp only; omega⟩, by dsimp only; omega, by dsimp only; omega⟩)) | exact .inr (.inr (.inr ⟨by decide, by decide, by decide, by decide, rfl, rfl⟩))) rfl (by omega)⟩, hm.sub (.refl _)⟩)
   refine ntQ (zap rfl (zdi (zah (reQ 3 rfl ?_))))
   refine hvQ rfl (lnQ rfl rfl rfl (fun w hm => hu w (hm.sub (.cons _ (.refl _))))) (zbz (R := (fun u_ p_ => (∃ x_ : Int, u_ = .int .i64 x_ ∧ 0 ≤ x_ ∧ x_ < (A.length : Int)) ∧ p_ = curE g a len cap)) 0 rfl rfl rfl rfl rfl (fun l' w hm => zbl g a len cap z (A.length : Int) _ _ _ hm hb (by constructor <;> omega)) ?_)
   intro v33 p34 hR35
   obtain ⟨⟨xhR35, rfl, xhR350, xhR351⟩, rfl⟩ := hR35
   refine zci (l' := (curE g a len cap :: l)) rfl ?_
   refine hvQ rfl (riQ 1 rfl rfl rfl rfl (fun w hm => hu w (hm.sub (.cons _ (.refl _))))) (hvQ rfl (lzQ rfl rfl rfl (fun w hm => hu w (hm.sub (.cons _ (.refl _))))) ?_)
   refine hvQ rfl (zax (cs := #[.int .i64 2, .int .i64 (A.getD ((xhR35).toNat) 0), .int .i64 0]) rfl rfl rfl) (zeb rfl (zai (z := .agg #[.int .i64 0, .int .i64 0, .int .i64 0]) (s := 3) (cs := ([2, A.getD ((xhR35).toNat) 0, 0].map (Value.int .i64))) rfl Try.underlying71 rfl (by decide) rfl (by kernel_rfl) rfl) ?_)
   intro g36
   refine zba 1 rfl ?_
   refine zal (zae ?_)
   have hA8 := hA _ (zbp (d := (0 : Int)) (show xhR35.toNat < A.length by omega))
   refine zbd 2 [0, 1] rfl rfl (by decide) ?_
   refine zbu 2 rfl ?_
   exact zcv (rs := [.tmp 6]) (vs := [.slice (some ⟨g36, 0, none⟩) 1 1]) rfl ⟨rfl, trivial⟩ rfl (fun w hm => ⟨_, bigE [curE g a len cap, rowE 97 3 (.slice (some ⟨g36, 0, none⟩) 1 1) 1 ([2, A.getD ((xhR35).toNat) 0, 0].map (Value.int .i64))], rfl, ⟨[Oq.mk 2 (A.getD ((xhR35).toNat) 0) 0], rfl, zcq (by first | exact .inl ⟨rfl, ⟨by dsimp only; omega, by dsimp only; omega⟩, rfl⟩ | exact .inr (.inl ⟨rfl, ⟨by dsimp only; omega, by dsimp only; omega⟩, rfl⟩) | exact .inr (.inr (.inl ⟨rfl, ⟨by dsimp only; omega, by dsimp only; omega⟩, by dsimp only; omega, by dsimp only; omega⟩)) | exact .inr (.inr (.inr ⟨by decide, by decide, by decide, by decide, rfl, rfl⟩))) rfl (by omega)⟩, hm.sub (.refl _)⟩)
  refine zba 1 rfl (zap rfl (zbb ?_))
  refine zby rfl rfl rfl rfl rfl rfl (fun h37 => ?_) (fun h37 => ?_)
  ·
   refine zba 1 rfl (zaj rfl (zah (reQ 1 rfl ?_)))
   refine hvQ rfl (lnQ rfl rfl rfl (fun w hm => hu w (hm.sub (.cons _ (.refl _))))) (zed rfl rfl rfl rfl rfl rfl (fun h38 => ?_) (fun h38 => ?_))
   ·
    refine ntQ (zaj rfl (zah ?_))
    refine zei (l := (l)) rfl 11 [0, 1, 2, 3, 4, 5, 6, 7, 8, 9, 10] (List.take 11 _) (List.drop 11 _) [[], [], [], [2], [1, 3], [0, 4], [4, 5], [], [4, 7], [4, 6, 8], [4, 8, 9]] [37, 38, 39, 40, 41, 42, 43, 44, 45, 46, 47] (fun i_ vs_ v_ p_ => match i_ with | 0 => v_ = u ∧ p_ = [] | 1 => v_ = .pointer (some ⟨g, 0, none⟩) ∧ p_ = [] | 2 => v_ = u ∧ p_ = [] | 3 => v_ = .int .i64 (A.length : Int) ∧ p_ = [] | 4 => (∃ pm_, p_ = [pm_] ∧ (fun u_ p_ => (∃ x_ : Int, u_ = .int .i64 x_ ∧ 0 ≤ x_ ∧ x_ < (A.length : Int)) ∧ p_ = curE g a len cap) v_ pm_) | 5 => v_ = elP u (((intOf_o (List.getD vs_ 1 undef))).toNat * 1) ∧ p_ = [] | 6 => v_ = .int .i64 (A.getD (((intOf_o (List.getD vs_ 0 undef))).toNat) 0) ∧ p_ = [] | 7 => v_ = .pointer (some ⟨g, 0, none⟩) ∧ p_ = [] | 8 => (∃ pm_, p_ = [pm_] ∧ (fun u_ p_ => (∃ x_ : Int, u_ = .int .i64 x_ ∧ 0 ≤ x_ ∧ x_ < 2) ∧ p_ = curE g a len cap) v_ pm_) | 9 => v_ = .agg #[.int .i64 3, .int .i64 (A.getD (((intOf_o (List.getD vs_ 0 undef))).toNat) 0), .int .i64 (intOf_o (List.getD vs_ 2 undef))] ∧ p_ = [] | 10 => IsRow 97 3 1 ([3, A.getD (((intOf_o (List.getD vs_ 0 undef))).toNat) 0, (intOf_o (List.getD vs_ 1 undef))].map (Value.int .i64)) v_ p_ | _ => True) [[], [], [], [2], [1, 3], [0], [5], [], [7], [6, 8], [8, 9]] [none, none, none, none, some 12, none, none, none, some 4, none, none] [curE g a len cap] [0, 1, 2, 3, 5, 6, 7, 8, 9, 10] 12 (List.take_append_drop 11 _).symm (by kernel_rfl) (by kernel_rfl) (by kernel_rfl) rfl rfl ?_ ?_
    ·
     refine ⟨?_, ?_, ?_, ?_, ?_, ?_, ?_, ?_, ?_, ?_, ?_, trivial⟩
     ·
      intro vf pf hmu hR
      refine dqQ [] [] rfl (zbr (zao [1] rfl) ?_)
      exact zbq (zay rfl)
     ·
      intro vf pf hmu hR
      refine dqQ [] [] rfl (zbr (zao [0] rfl) ?_)
      exact zbq (zay rfl)
     ·
      intro vf pf hmu hR
      refine dqQ [] [] rfl (zbr (zao [1] rfl) ?_)
      exact zbq (zay rfl)
     ·
      intro vf pf hmu hR
      have e2 := hR 2 (by decide)
      refine dqQ [2] [2] rfl (zaz (sk 39 (congrArg some e2.1) (zaf _)) (List.sublist_append_right _ _) ?_)
      exact zbq (lnQ rfl rfl rfl (fun w hm => hu w (hm.sub (.refl _))))
     ·
      intro vf pf hmu hR
      have e1 := hR 1 (by decide)
      have e3 := hR 3 (by decide)
      refine Or.inl ⟨rfl, ?_⟩
      show RunM _ _ _ (pf 12) (([1, 3] : List Nat).flatMap pf ++ _) (envOf _ vf [1, 3] ++ _) _ _
      rw [hmu]
      exact zcp (sk 38 (congrArg some e1.1) (sk 40 (congrArg some e3.1) (zaf _))) (by simp only [e1.2, e3.2, fS] <;> rfl) (zcy (R := (fun u_ p_ => (∃ x_ : Int, u_ = .int .i64 x_ ∧ 0 ≤ x_ ∧ x_ < (A.length : Int)) ∧ p_ = curE g a len cap)) rfl rfl (fun L w hX hm => zbl g a len cap z (A.length : Int) _ _ _ hm hb (by constructor <;> omega)))
     ·
      intro vf pf hmu hR
      have e0 := hR 0 (by decide)
      have e4 : (∃ pm_, (pf 4) = [pm_] ∧ (fun u_ p_ => (∃ x_ : Int, u_ = .int .i64 x_ ∧ 0 ≤ x_ ∧ x_ < (A.length : Int)) ∧ p_ = curE g a len cap) (vf 4) pm_) := hR 4 (by decide)
      obtain ⟨p40, pE4, hR41⟩ := e4
      obtain ⟨v39, vE4⟩ : ∃ x, vf 4 = x := ⟨_, rfl⟩
      rw [vE4] at hR41
      obtain ⟨⟨xhR41, rfl, xhR410, xhR411⟩, rfl⟩ := hR41
      refine dqQ [0] [0, 4] rfl (zaz (sk 37 (congrArg some e0.1) (sk 41 (congrArg some vE4) (zaf _))) (List.sublist_append_right _ _) ?_)
      exact zcc (zbq (riQ 1 rfl rfl rfl rfl (fun w hm => hu w (hm.sub (.refl _))))) (fun _ _ h => ⟨h.1.trans (by show _ = (elP u (((intOf_o (vf 4))).toNat * 1) : Value); first | (rw [vE4]; done) | (rw [vE4]; rfl)), h.2⟩)
     ·
      intro vf pf hmu hR
      have e4 : (∃ pm_, (pf 4) = [pm_] ∧ (fun u_ p_ => (∃ x_ : Int, u_ = .int .i64 x_ ∧ 0 ≤ x_ ∧ x_ < (A.length : Int)) ∧ p_ = curE g a len cap) (vf 4) pm_) := hR 4 (by decide)
      obtain ⟨p40, pE4, hR41⟩ := e4
      obtain ⟨v39, vE4⟩ : ∃ x, vf 4 = x := ⟨_, rfl⟩
      rw [vE4] at hR41
      obtain ⟨⟨xhR41, rfl, xhR410, xhR411⟩, rfl⟩ := hR41
      have e5 : (vf 5) = elP u (((intOf_o (vf 4))).toNat * 1) ∧ (pf 5) = [] := hR 5 (by decide)
      rw [vE4] at e5; try simp only [intOf_o] at e5
      refine dqQ [5] [4, 5] rfl (zaz (sk 42 (congrArg some e5.1) (zaf _)) (List.sublist_append_right _ _) ?_)
      exact zcc (zbq (lzQ rfl rfl rfl (fun w hm => hu w (hm.sub (.refl _))))) (fun _ _ h => ⟨h.1.trans (by show _ = (.int .i64 (A.getD (((intOf_o (vf 4))).toNat) 0) : Value); first | (rw [vE4]; done) | (rw [vE4]; rfl)), h.2⟩)
     ·
      intro vf pf hmu hR
      refine dqQ [] [] rfl (zbr (zao [0] rfl) ?_)
      exact zbq (zay rfl)
     ·
      intro vf pf hmu hR
      have e4 : (∃ pm_, (pf 4) = [pm_] ∧ (fun u_ p_ => (∃ x_ : Int, u_ = .int .i64 x_ ∧ 0 ≤ x_ ∧ x_ < (A.length : Int)) ∧ p_ = curE g a len cap) (vf 4) pm_) := hR 4 (by decide)
      obtain ⟨p40, pE4, hR41⟩ := e4
      obtain ⟨v39, vE4⟩ : ∃ x, vf 4 = x := ⟨_, rfl⟩
      rw [vE4] at hR41
      obtain ⟨⟨xhR41, rfl, xhR410, xhR411⟩, rfl⟩ := hR41
      have e7 := hR 7 (by decide)
      refine Or.inl ⟨rfl, ?_⟩
      show RunM _ _ _ (pf 4) (([7] : List Nat).flatMap pf ++ _) (envOf _ vf [4, 7] ++ _) _ _
      rw [pE4]
      exact zcp (sk 44 (congrArg some e7.1) (zaf _)) (by simp only [e7.2, fS] <;> rfl) (zcy (R := (fun u_ p_ => (∃ x_ : Int, u_ = .int .i64 x_ ∧ 0 ≤ x_ ∧ x_ < 2) ∧ p_ = curE g a len cap)) rfl rfl (fun L w hX hm => zbl g a len cap z 2 _ _ _ hm hb (by constructor <;> omega)))
     ·
      intro vf pf hmu hR
      have e4 : (∃ pm_, (pf 4) = [pm_] ∧ (fun u_ p_ => (∃ x_ : Int, u_ = .int .i64 x_ ∧ 0 ≤ x_ ∧ x_ < (A.length : Int)) ∧ p_ = curE g a len cap) (vf 4) pm_) := hR 4 (by decide)
      obtain ⟨p40, pE4, hR41⟩ := e4
      obtain ⟨v39, vE4⟩ : ∃ x, vf 4 = x := ⟨_, rfl⟩
      rw [vE4] at hR41
      obtain ⟨⟨xhR41, rfl, xhR410, xhR411⟩, rfl⟩ := hR41
      have e6 : (vf 6) = .int .i64 (A.getD (((intOf_o (vf 4))).toNat) 0) ∧ (pf 6) = [] := hR 6 (by decide)
      rw [vE4] at e6; try simp only [intOf_o] at e6
      have e8 : (∃ pm_, (pf 8) = [pm_] ∧ (fun u_ p_ => (∃ x_ : Int, u_ = .int .i64 x_ ∧ 0 ≤ x_ ∧ x_ < 2) ∧ p_ = curE g a len cap) (vf 8) pm_) := hR 8 (by decide)
      obtain ⟨p43, pE8, hR44⟩ := e8
      obtain ⟨v42, vE8⟩ : ∃ x, vf 8 = x := ⟨_, rfl⟩
      rw [vE8] at hR44
      obtain ⟨⟨xhR44, rfl, xhR440, xhR441⟩, rfl⟩ := hR44
      refine dqQ [6, 8] [4, 6, 8] rfl (zcd (sk 43 (congrArg some e6.1) (sk 45 (congrArg some vE8) (zaf _))) (by simp only [pE8, vE8, e6.2, fS] <;> rfl) ?_)
      exact zcc (zbq (zax (cs := #[.int .i64 3, .int .i64 (A.getD ((xhR41).toNat) 0), .int .i64 xhR44]) rfl rfl rfl)) (fun _ _ h => ⟨h.1.trans (by show _ = (.agg #[.int .i64 3, .int .i64 (A.getD (((intOf_o (vf 4))).toNat) 0), .int .i64 (intOf_o (vf 8))] : Value); first | (rw [vE4, vE8]; done) | (rw [vE4, vE8]; rfl)), h.2⟩)
     intro vf pf hmu hR
     have e4 : (∃ pm_, (pf 4) = [pm_] ∧ (fun u_ p_ => (∃ x_ : Int, u_ = .int .i64 x_ ∧ 0 ≤ x_ ∧ x_ < (A.length : Int)) ∧ p_ = curE g a len cap) (vf 4) pm_) := hR 4 (by decide)
     obtain ⟨p40, pE4, hR41⟩ := e4
     obtain ⟨v39, vE4⟩ : ∃ x, vf 4 = x := ⟨_, rfl⟩
     rw [vE4] at hR41
     obtain ⟨⟨xhR41, rfl, xhR410, xhR411⟩, rfl⟩ := hR41
     have e8 : (∃ pm_, (pf 8) = [pm_] ∧ (fun u_ p_ => (∃ x_ : Int, u_ = .int .i64 x_ ∧ 0 ≤ x_ ∧ x_ < 2) ∧ p_ = curE g a len cap) (vf 8) pm_) := hR 8 (by decide)
     obtain ⟨p43, pE8, hR44⟩ := e8
     obtain ⟨v42, vE8⟩ : ∃ x, vf 8 = x := ⟨_, rfl⟩
     rw [vE8] at hR44
     obtain ⟨⟨xhR44, rfl, xhR440, xhR441⟩, rfl⟩ := hR44
     have e9 : (vf 9) = .agg #[.int .i64 3, .int .i64 (A.getD (((intOf_o (vf 4))).toNat) 0), .int .i64 (intOf_o (vf 8))] ∧ (pf 9) = [] := hR 9 (by decide)
     rw [vE4, vE8] at e9; try simp only [intOf_o] at e9
     refine dqQ [8, 9] [4, 8, 9] rfl (zcd (sk 46 (congrArg some e9.1) (zaf _)) (by simp only [pE8, vE8, e9.2, fS] <;> rfl) ?_)
     exact zcc (zai (z := .agg #[.int .i64 0, .int .i64 0, .int .i64 0]) (s := 3) (cs := ([3, A.getD ((xhR41).toNat) 0, xhR44].map (Value.int .i64))) rfl Try.underlying71 rfl (by decide) rfl (by kernel_rfl) rfl) (fun v_ p_ h => by show IsRow 97 3 1 ([3, A.getD (((intOf_o (vf 4))).toNat) 0, (intOf_o (vf 8))].map (Value.int .i64)) v_ p_; rw [vE4, vE8]; exact h)
    intro vf pf hmu hR
    have e4 : (∃ pm_, (pf 4) = [pm_] ∧ (fun u_ p_ => (∃ x_ : Int, u_ = .int .i64 x_ ∧ 0 ≤ x_ ∧ x_ < (A.length : Int)) ∧ p_ = curE g a len cap) (vf 4) pm_) := hR 4 (by decide)
    obtain ⟨p40, pE4, hR41⟩ := e4
    obtain ⟨v39, vE4⟩ : ∃ x, vf 4 = x := ⟨_, rfl⟩
    rw [vE4] at hR41
    obtain ⟨⟨xhR41, rfl, xhR410, xhR411⟩, rfl⟩ := hR41
    have e8 : (∃ pm_, (pf 8) = [pm_] ∧ (fun u_ p_ => (∃ x_ : Int, u_ = .int .i64 x_ ∧ 0 ≤ x_ ∧ x_ < 2) ∧ p_ = curE g a len cap) (vf 8) pm_) := hR 8 (by decide)
    obtain ⟨p43, pE8, hR44⟩ := e8
    obtain ⟨v42, vE8⟩ : ∃ x, vf 8 = x := ⟨_, rfl⟩
    rw [vE8] at hR44
    obtain ⟨⟨xhR44, rfl, xhR440, xhR441⟩, rfl⟩ := hR44
    have e10 : IsRow 97 3 1 ([3, A.getD (((intOf_o (vf 4))).toNat) 0, (intOf_o (vf 8))].map (Value.int .i64)) (vf 10) (pf 10) := hR 10 (by decide)
    rw [vE4, vE8] at e10; try simp only [intOf_o] at e10
    obtain ⟨g45, vE10, pE10⟩ := e10
    have q0 := hR 0 (by decide)
    have q1 := hR 1 (by decide)
    have q2 := hR 2 (by decide)
    have q3 := hR 3 (by decide)
    have q5 := hR 5 (by decide)
    have q6 := hR 6 (by decide)
    have q7 := hR 7 (by decide)
    have q9 := hR 9 (by decide)
    refine zcr (zcg [36, 31, 25, 19, 18, 16, 6, 2, 1, 0] _ (sk 47 (congrArg some vE10) (zaf _)) rfl) (by simp only [pE8, vE8, pE10, vE10, q0.2, q1.2, q2.2, q3.2, q5.2, q6.2, q7.2, q9.2, fS] <;> rfl) ?_
    simp only [List.drop_succ_cons, List.drop_zero]
    refine zba 1 rfl ?_
    refine zal (zab ?_)
    refine zdx ?_
    have hA8 := hA _ (zbp (d := (0 : Int)) (show xhR41.toNat < A.length by omega))
    refine zbd 2 [1, 0] rfl rfl (by decide) ?_
    refine zbu 2 rfl ?_
    exact zcv (rs := [.tmp 6]) (vs := [.slice (some ⟨g45, 0, none⟩) 1 1]) rfl ⟨rfl, trivial⟩ rfl (fun w hm => ⟨_, bigE [curE g a len cap, rowE 97 3 (.slice (some ⟨g45, 0, none⟩) 1 1) 1 ([3, A.getD ((xhR41).toNat) 0, xhR44].map (Value.int .i64))], rfl, ⟨[Oq.mk 3 (A.getD ((xhR41).toNat) 0) xhR44], rfl, zcq (by first | exact .inl ⟨rfl, ⟨by dsimp only; omega, by dsimp only; omega⟩, rfl⟩ | exact .inr (.inl ⟨rfl, ⟨by dsimp only; omega, by dsimp only; omega⟩, rfl⟩) | exact .inr (.inr (.inl ⟨rfl, ⟨by dsimp only; omega, by dsimp only; omega⟩, by dsimp only; omega, by dsimp only; omega⟩)) | exact .inr (.inr (.inr ⟨by decide, by decide, by decide, by decide, rfl, rfl⟩))) rfl (by omega)⟩, hm.sub (.refl _)⟩)
   refine ntQ (fsQ rfl (zdq (zah (zah (reQ 1 rfl ?_)))))
   refine hvQ rfl (lnQ rfl rfl rfl (fun w hm => hu w (hm.sub (.cons _ (.refl _))))) (zby rfl rfl rfl rfl rfl rfl (fun h46 => ?_) (fun h46 => ?_))
   ·
    refine ntQ (zaj rfl (srQ (hvQ rfl (zax (cs := #[.int .i64 0, .int .i64 1, .int .i64 0]) rfl rfl rfl) ?_)))
    refine zeb rfl (zai (z := .agg #[.int .i64 0, .int .i64 0, .int .i64 0]) (s := 3) (cs := ([0, 1, 0].map (Value.int .i64))) rfl Try.underlying71 rfl (by decide) rfl (by kernel_rfl) rfl) ?_
    intro g47
    refine zba 1 rfl ?_
    refine zal (zdx ?_)
    refine zbd 2 [0, 1] rfl rfl (by decide) ?_
    refine zbu 2 rfl ?_
    exact zcv (rs := [.tmp 6]) (vs := [.slice (some ⟨g47, 0, none⟩) 1 1]) rfl ⟨rfl, trivial⟩ rfl (fun w hm => ⟨_, bigE [curE g a len cap, rowE 97 3 (.slice (some ⟨g47, 0, none⟩) 1 1) 1 ([0, 1, 0].map (Value.int .i64))], rfl, ⟨[Oq.mk 0 1 0], rfl, zcq (by first | exact .inl ⟨rfl, ⟨by dsimp only; omega, by dsimp only; omega⟩, rfl⟩ | exact .inr (.inl ⟨rfl, ⟨by dsimp only; omega, by dsimp only; omega⟩, rfl⟩) | exact .inr (.inr (.inl ⟨rfl, ⟨by dsimp only; omega, by dsimp only; omega⟩, by dsimp only; omega, by dsimp only; omega⟩)) | exact .inr (.inr (.inr ⟨by decide, by decide, by decide, by decide, rfl, rfl⟩))) rfl (by omega)⟩, hm.sub (.refl _)⟩)
   refine ntQ (zap rfl (zdi (zah (reQ 3 rfl ?_))))
   refine hvQ rfl (lnQ rfl rfl rfl (fun w hm => hu w (hm.sub (.cons _ (.refl _))))) (zbz (R := (fun u_ p_ => (∃ x_ : Int, u_ = .int .i64 x_ ∧ 0 ≤ x_ ∧ x_ < (A.length : Int)) ∧ p_ = curE g a len cap)) 0 rfl rfl rfl rfl rfl (fun l' w hm => zbl g a len cap z (A.length : Int) _ _ _ hm hb (by constructor <;> omega)) ?_)
   intro v48 p49 hR50
   obtain ⟨⟨xhR50, rfl, xhR500, xhR501⟩, rfl⟩ := hR50
   refine zci (l' := (curE g a len cap :: l)) rfl ?_
   refine hvQ rfl (riQ 1 rfl rfl rfl rfl (fun w hm => hu w (hm.sub (.cons _ (.refl _))))) (hvQ rfl (lzQ rfl rfl rfl (fun w hm => hu w (hm.sub (.cons _ (.refl _))))) ?_)
   refine hvQ rfl (zax (cs := #[.int .i64 2, .int .i64 (A.getD ((xhR50).toNat) 0), .int .i64 0]) rfl rfl rfl) (zeb rfl (zai (z := .agg #[.int .i64 0, .int .i64 0, .int .i64 0]) (s := 3) (cs := ([2, A.getD ((xhR50).toNat) 0, 0].map (Value.int .i64))) rfl Try.underlying71 rfl (by decide) rfl (by kernel_rfl) rfl) ?_)
   intro g51
   refine zba 1 rfl ?_
   refine zal (zae ?_)
   have hA8 := hA _ (zbp (d := (0 : Int)) (show xhR50.toNat < A.length by omega))
   refine zbd 2 [0, 1] rfl rfl (by decide) ?_
   refine zbu 2 rfl ?_
   exact zcv (rs := [.tmp 6]) (vs := [.slice (some ⟨g51, 0, none⟩) 1 1]) rfl ⟨rfl, trivial⟩ rfl (fun w hm => ⟨_, bigE [curE g a len cap, rowE 97 3 (.slice (some ⟨g51, 0, none⟩) 1 1) 1 ([2, A.getD ((xhR50).toNat) 0, 0].map (Value.int .i64))], rfl, ⟨[Oq.mk 2 (A.getD ((xhR50).toNat) 0) 0], rfl, zcq (by first | exact .inl ⟨rfl, ⟨by dsimp only; omega, by dsimp only; omega⟩, rfl⟩ | exact .inr (.inl ⟨rfl, ⟨by dsimp only; omega, by dsimp only; omega⟩, rfl⟩) | exact .inr (.inr (.inl ⟨rfl, ⟨by dsimp only; omega, by dsimp only; omega⟩, by dsimp only; omega, by dsimp only; omega⟩)) | exact .inr (.inr (.inr ⟨by decide, by decide, by decide, by decide, rfl, rfl⟩))) rfl (by omega)⟩, hm.sub (.refl _)⟩)
  refine zba 1 rfl (fsQ rfl (zdq (zah (zah (reQ 1 rfl ?_)))))
  refine hvQ rfl (lnQ rfl rfl rfl (fun w hm => hu w (hm.sub (.cons _ (.refl _))))) (zby rfl rfl rfl rfl rfl rfl (fun h52 => ?_) (fun h52 => ?_))
  ·
   refine ntQ (zaj rfl (srQ (hvQ rfl (zax (cs := #[.int .i64 0, .int .i64 1, .int .i64 0]) rfl rfl rfl) ?_)))
   refine zeb rfl (zai (z := .agg #[.int .i64 0, .int .i64 0, .int .i64 0]) (s := 3) (cs := ([0, 1, 0].map (Value.int .i64))) rfl Try.underlying71 rfl (by decide) rfl (by kernel_rfl) rfl) ?_
   intro g53
   refine zba 1 rfl ?_
   refine zal (zdx ?_)
   refine zbd 2 [0, 1] rfl rfl (by decide) ?_
   refine zbu 2 rfl ?_
   exact zcv (rs := [.tmp 6]) (vs := [.slice (some ⟨g53, 0, none⟩) 1 1]) rfl ⟨rfl, trivial⟩ rfl (fun w hm => ⟨_, bigE [curE g a len cap, rowE 97 3 (.slice (some ⟨g53, 0, none⟩) 1 1) 1 ([0, 1, 0].map (Value.int .i64))], rfl, ⟨[Oq.mk 0 1 0], rfl, zcq (by first | exact .inl ⟨rfl, ⟨by dsimp only; omega, by dsimp only; omega⟩, rfl⟩ | exact .inr (.inl ⟨rfl, ⟨by dsimp only; omega, by dsimp only; omega⟩, rfl⟩) | exact .inr (.inr (.inl ⟨rfl, ⟨by dsimp only; omega, by dsimp only; omega⟩, by dsimp only; omega, by dsimp only; omega⟩)) | exact .inr (.inr (.inr ⟨by decide, by decide, by decide, by decide, rfl, rfl⟩))) rfl (by omega)⟩, hm.sub (.refl _)⟩)
  refine ntQ (zap rfl (zdi (zah (reQ 3 rfl ?_))))
  refine hvQ rfl (lnQ rfl rfl rfl (fun w hm => hu w (hm.sub (.cons _ (.refl _))))) (zbz (R := (fun u_ p_ => (∃ x_ : Int, u_ = .int .i64 x_ ∧ 0 ≤ x_ ∧ x_ < (A.length : Int)) ∧ p_ = curE g a len cap)) 0 rfl rfl rfl rfl rfl (fun l' w hm => zbl g a len cap z (A.length : Int) _ _ _ hm hb (by constructor <;> omega)) ?_)
  intro v54 p55 hR56
  obtain ⟨⟨xhR56, rfl, xhR560, xhR561⟩, rfl⟩ := hR56
  refine zci (l' := (curE g a len cap :: l)) rfl ?_
  refine hvQ rfl (riQ 1 rfl rfl rfl rfl (fun w hm => hu w (hm.sub (.cons _ (.refl _))))) (hvQ rfl (lzQ rfl rfl rfl (fun w hm => hu w (hm.sub (.cons _ (.refl _))))) ?_)
  refine hvQ rfl (zax (cs := #[.int .i64 2, .int .i64 (A.getD ((xhR56).toNat) 0), .int .i64 0]) rfl rfl rfl) (zeb rfl (zai (z := .agg #[.int .i64 0, .int .i64 0, .int .i64 0]) (s := 3) (cs := ([2, A.getD ((xhR56).toNat) 0, 0].map (Value.int .i64))) rfl Try.underlying71 rfl (by decide) rfl (by kernel_rfl) rfl) ?_)
  intro g57
  refine zba 1 rfl ?_
  refine zal (zae ?_)
  have hA8 := hA _ (zbp (d := (0 : Int)) (show xhR56.toNat < A.length by omega))
  refine zbd 2 [0, 1] rfl rfl (by decide) ?_
  refine zbu 2 rfl ?_
  exact zcv (rs := [.tmp 6]) (vs := [.slice (some ⟨g57, 0, none⟩) 1 1]) rfl ⟨rfl, trivial⟩ rfl (fun w hm => ⟨_, bigE [curE g a len cap, rowE 97 3 (.slice (some ⟨g57, 0, none⟩) 1 1) 1 ([2, A.getD ((xhR56).toNat) 0, 0].map (Value.int .i64))], rfl, ⟨[Oq.mk 2 (A.getD ((xhR56).toNat) 0) 0], rfl, zcq (by first | exact .inl ⟨rfl, ⟨by dsimp only; omega, by dsimp only; omega⟩, rfl⟩ | exact .inr (.inl ⟨rfl, ⟨by dsimp only; omega, by dsimp only; omega⟩, rfl⟩) | exact .inr (.inr (.inl ⟨rfl, ⟨by dsimp only; omega, by dsimp only; omega⟩, by dsimp only; omega, by dsimp only; omega⟩)) | exact .inr (.inr (.inr ⟨by decide, by decide, by decide, by decide, rfl, rfl⟩))) rfl (by omega)⟩, hm.sub (.refl _)⟩)
 refine zak 2 rfl (zbz (R := (fun u_ p_ => (∃ b : Bool, u_ = .bool b) ∧ p_ = curE g a len cap)) 0 rfl rfl rfl rfl rfl (fun l' w hm => once_mut hm hb (3) (by omega) (by omega)) ?_)
 intro v58 p59 hR60
 obtain ⟨⟨xhR60, rfl⟩, rfl⟩ := hR60
 refine zci (l' := (curE g a len cap :: l)) rfl ?_
 refine zbm (fun h61 => ?_) (fun h61 => ?_)
 ·
  refine zba 1 rfl (zaj rfl (zah (zah (reQ 1 rfl ?_))))
  refine zbz (R := (fun u_ p_ => (∃ x_ : Int, u_ = .int .i64 x_ ∧ 0 ≤ x_ ∧ x_ < 8) ∧ p_ = curE g a len cap)) 0 rfl rfl rfl rfl rfl (fun l' w hm => zbl g a len cap z 8 _ _ _ hm hb (by constructor <;> omega)) ?_
  intro v62 p63 hR64
  obtain ⟨⟨xhR64, rfl, xhR640, xhR641⟩, rfl⟩ := hR64
  refine zci (l' := (curE g a len cap :: l)) rfl ?_
  refine ntQ (zbh (srQ ?_))
  refine zby rfl rfl rfl rfl rfl rfl (fun h65 => ?_) (fun h65 => ?_)
  ·
   refine zba 1 rfl (zaj rfl (zah (reQ 1 rfl ?_)))
   refine zbz (R := (fun u_ p_ => (∃ x_ : Int, u_ = .int .i64 x_ ∧ 0 ≤ x_ ∧ x_ < 16) ∧ p_ = curE g a len cap)) 0 rfl rfl rfl rfl rfl (fun l' w hm => zbl g a len cap z 16 _ _ _ hm hb (by constructor <;> omega)) ?_
   intro v66 p67 hR68
   obtain ⟨⟨xhR68, rfl, xhR680, xhR681⟩, rfl⟩ := hR68
   refine zci (l' := (curE g a len cap :: l)) rfl ?_
   refine hvQ rfl (zax (cs := #[.int .i64 0, .int .i64 xhR68, .int .i64 0]) rfl rfl rfl) (zeb rfl (zai (z := .agg #[.int .i64 0, .int .i64 0, .int .i64 0]) (s := 3) (cs := ([0, xhR68, 0].map (Value.int .i64))) rfl Try.underlying71 rfl (by decide) rfl (by kernel_rfl) rfl) ?_)
   intro g69
   refine zba 1 rfl ?_
   refine zal (zab ?_)
   refine zdx ?_
   refine zbd 2 [0, 1] rfl rfl (by decide) ?_
   refine zbu 2 rfl ?_
   exact zcv (rs := [.tmp 6]) (vs := [.slice (some ⟨g69, 0, none⟩) 1 1]) rfl ⟨rfl, trivial⟩ rfl (fun w hm => ⟨_, bigE [curE g a len cap, rowE 97 3 (.slice (some ⟨g69, 0, none⟩) 1 1) 1 ([0, xhR68, 0].map (Value.int .i64))], rfl, ⟨[Oq.mk 0 xhR68 0], rfl, zcq (by first | exact .inl ⟨rfl, ⟨by dsimp only; omega, by dsimp only; omega⟩, rfl⟩ | exact .inr (.inl ⟨rfl, ⟨by dsimp only; omega, by dsimp only; omega⟩, rfl⟩) | exact .inr (.inr (.inl ⟨rfl, ⟨by dsimp only; omega, by dsimp only; omega⟩, by dsimp only; omega, by dsimp only; omega⟩)) | exact .inr (.inr (.inr ⟨by decide, by decide, by decide, by decide, rfl, rfl⟩))) rfl (by omega)⟩, hm.sub (.refl _)⟩)
  refine zba 1 rfl (zap rfl (srQ ?_))
  refine zby rfl rfl rfl rfl rfl rfl (fun h70 => ?_) (fun h70 => ?_)
  ·
   refine zba 1 rfl (zaj rfl (zah (reQ 1 rfl ?_)))
   refine zbz (R := (fun u_ p_ => (∃ b : Bool, u_ = .bool b) ∧ p_ = curE g a len cap)) 0 rfl rfl rfl rfl rfl (fun l' w hm => once_mut hm hb (3) (by omega) (by omega)) ?_
   intro v71 p72 hR73
   obtain ⟨⟨xhR73, rfl⟩, rfl⟩ := hR73
   refine zci (l' := (curE g a len cap :: l)) rfl ?_
   refine zbm (fun h74 => ?_) (fun h74 => ?_)
   ·
    refine ntQ (zaj rfl (srQ (hvQ rfl (zax (cs := #[.int .i64 1, .int .i64 0, .int .i64 0]) rfl rfl rfl) ?_)))
    refine zeb rfl (zai (z := .agg #[.int .i64 0, .int .i64 0, .int .i64 0]) (s := 3) (cs := ([1, 0, 0].map (Value.int .i64))) rfl Try.underlying71 rfl (by decide) rfl (by kernel_rfl) rfl) ?_
    intro g75
    refine zba 1 rfl ?_
    refine zal (zab ?_)
    refine zdx ?_
    refine zbd 2 [0, 1] rfl rfl (by decide) ?_
    refine zbu 2 rfl ?_
    exact zcv (rs := [.tmp 6]) (vs := [.slice (some ⟨g75, 0, none⟩) 1 1]) rfl ⟨rfl, trivial⟩ rfl (fun w hm => ⟨_, bigE [curE g a len cap, rowE 97 3 (.slice (some ⟨g75, 0, none⟩) 1 1) 1 ([1, 0, 0].map (Value.int .i64))], rfl, ⟨[Oq.mk 1 0 0], rfl, zcq (by first | exact .inl ⟨rfl, ⟨by dsimp only; omega, by dsimp only; omega⟩, rfl⟩ | exact .inr (.inl ⟨rfl, ⟨by dsimp only; omega, by dsimp only; omega⟩, rfl⟩) | exact .inr (.inr (.inl ⟨rfl, ⟨by dsimp only; omega, by dsimp only; omega⟩, by dsimp only; omega, by dsimp only; omega⟩)) | exact .inr (.inr (.inr ⟨by decide, by decide, by decide, by decide, rfl, rfl⟩))) rfl (by omega)⟩, hm.sub (.refl _)⟩)
   refine ntQ (fsQ rfl (zdq (zah (zah (reQ 1 rfl ?_)))))
   refine hvQ rfl (lnQ rfl rfl rfl (fun w hm => hu w (hm.sub (.cons _ (.refl _))))) (zby rfl rfl rfl rfl rfl rfl (fun h76 => ?_) (fun h76 => ?_))
   ·
    refine ntQ (zaj rfl (srQ (hvQ rfl (zax (cs := #[.int .i64 0, .int .i64 1, .int .i64 0]) rfl rfl rfl) ?_)))
    refine zeb rfl (zai (z := .agg #[.int .i64 0, .int .i64 0, .int .i64 0]) (s := 3) (cs := ([0, 1, 0].map (Value.int .i64))) rfl Try.underlying71 rfl (by decide) rfl (by kernel_rfl) rfl) ?_
    intro g77
    refine zba 1 rfl ?_
    refine zal (zdx ?_)
    refine zbd 2 [0, 1] rfl rfl (by decide) ?_
    refine zbu 2 rfl ?_
    exact zcv (rs := [.tmp 6]) (vs := [.slice (some ⟨g77, 0, none⟩) 1 1]) rfl ⟨rfl, trivial⟩ rfl (fun w hm => ⟨_, bigE [curE g a len cap, rowE 97 3 (.slice (some ⟨g77, 0, none⟩) 1 1) 1 ([0, 1, 0].map (Value.int .i64))], rfl, ⟨[Oq.mk 0 1 0], rfl, zcq (by first | exact .inl ⟨rfl, ⟨by dsimp only; omega, by dsimp only; omega⟩, rfl⟩ | exact .inr (.inl ⟨rfl, ⟨by dsimp only; omega, by dsimp only; omega⟩, rfl⟩) | exact .inr (.inr (.inl ⟨rfl, ⟨by dsimp only; omega, by dsimp only; omega⟩, by dsimp only; omega, by dsimp only; omega⟩)) | exact .inr (.inr (.inr ⟨by decide, by decide, by decide, by decide, rfl, rfl⟩))) rfl (by omega)⟩, hm.sub (.refl _)⟩)
   refine ntQ (zap rfl (zdi (zah (reQ 3 rfl ?_))))
   refine hvQ rfl (lnQ rfl rfl rfl (fun w hm => hu w (hm.sub (.cons _ (.refl _))))) (zbz (R := (fun u_ p_ => (∃ x_ : Int, u_ = .int .i64 x_ ∧ 0 ≤ x_ ∧ x_ < (A.length : Int)) ∧ p_ = curE g a len cap)) 0 rfl rfl rfl rfl rfl (fun l' w hm => zbl g a len cap z (A.length : Int) _ _ _ hm hb (by constructor <;> omega)) ?_)
   intro v78 p79 hR80
   obtain ⟨⟨xhR80, rfl, xhR800, xhR801⟩, rfl⟩ := hR80
   refine zci (l' := (curE g a len cap :: l)) rfl ?_
   refine hvQ rfl (riQ 1 rfl rfl rfl rfl (fun w hm => hu w (hm.sub (.cons _ (.refl _))))) (hvQ rfl (lzQ rfl rfl rfl (fun w hm => hu w (hm.sub (.cons _ (.refl _))))) ?_)
   refine hvQ rfl (zax (cs := #[.int .i64 2, .int .i64 (A.getD ((xhR80).toNat) 0), .int .i64 0]) rfl rfl rfl) (zeb rfl (zai (z := .agg #[.int .i64 0, .int .i64 0, .int .i64 0]) (s := 3) (cs := ([2, A.getD ((xhR80).toNat) 0, 0].map (Value.int .i64))) rfl Try.underlying71 rfl (by decide) rfl (by kernel_rfl) rfl) ?_)
   intro g81
   refine zba 1 rfl ?_
   refine zal (zae ?_)
   have hA8 := hA _ (zbp (d := (0 : Int)) (show xhR80.toNat < A.length by omega))
   refine zbd 2 [0, 1] rfl rfl (by decide) ?_
   refine zbu 2 rfl ?_
   exact zcv (rs := [.tmp 6]) (vs := [.slice (some ⟨g81, 0, none⟩) 1 1]) rfl ⟨rfl, trivial⟩ rfl (fun w hm => ⟨_, bigE [curE g a len cap, rowE 97 3 (.slice (some ⟨g81, 0, none⟩) 1 1) 1 ([2, A.getD ((xhR80).toNat) 0, 0].map (Value.int .i64))], rfl, ⟨[Oq.mk 2 (A.getD ((xhR80).toNat) 0) 0], rfl, zcq (by first | exact .inl ⟨rfl, ⟨by dsimp only; omega, by dsimp only; omega⟩, rfl⟩ | exact .inr (.inl ⟨rfl, ⟨by dsimp only; omega, by dsimp only; omega⟩, rfl⟩) | exact .inr (.inr (.inl ⟨rfl, ⟨by dsimp only; omega, by dsimp only; omega⟩, by dsimp only; omega, by dsimp only; omega⟩)) | exact .inr (.inr (.inr ⟨by decide, by decide, by decide, by decide, rfl, rfl⟩))) rfl (by omega)⟩, hm.sub (.refl _)⟩)
  refine zba 1 rfl (zap rfl (ssrQ ?_))
  refine zby rfl rfl rfl rfl rfl rfl (fun h82 => ?_) (fun h82 => ?_)
  ·
   refine zba 1 rfl (zaj rfl (zdi (zaj rfl (zah (reQ 1 rfl ?_)))))
   refine hvQ rfl (lnQ rfl rfl rfl (fun w hm => hu w (hm.sub (.cons _ (.refl _))))) (zed rfl rfl rfl rfl rfl rfl (fun h83 => ?_) (fun h83 => ?_))
   ·
    refine ntQ (zaj rfl (zah ?_))
    refine zei (l := (l)) rfl 11 [0, 1, 2, 3, 4, 5, 6, 7, 8, 9, 10] (List.take 11 _) (List.drop 11 _) [[], [], [], [2], [1, 3], [0, 4], [4, 5], [], [4, 7], [4, 6, 8], [4, 8, 9]] [37, 38, 39, 40, 41, 42, 43, 44, 45, 46, 47] (fun i_ vs_ v_ p_ => match i_ with | 0 => v_ = u ∧ p_ = [] | 1 => v_ = .pointer (some ⟨g, 0, none⟩) ∧ p_ = [] | 2 => v_ = u ∧ p_ = [] | 3 => v_ = .int .i64 (A.length : Int) ∧ p_ = [] | 4 => (∃ pm_, p_ = [pm_] ∧ (fun u_ p_ => (∃ x_ : Int, u_ = .int .i64 x_ ∧ 0 ≤ x_ ∧ x_ < (A.length : Int)) ∧ p_ = curE g a len cap) v_ pm_) | 5 => v_ = elP u (((intOf_o (List.getD vs_ 1 undef))).toNat * 1) ∧ p_ = [] | 6 => v_ = .int .i64 (A.getD (((intOf_o (List.getD vs_ 0 undef))).toNat) 0) ∧ p_ = [] | 7 => v_ = .pointer (some ⟨g, 0, none⟩) ∧ p_ = [] | 8 => (∃ pm_, p_ = [pm_] ∧ (fun u_ p_ => (∃ x_ : Int, u_ = .int .i64 x_ ∧ 0 ≤ x_ ∧ x_ < 2) ∧ p_ = curE g a len cap) v_ pm_) | 9 => v_ = .agg #[.int .i64 3, .int .i64 (A.getD (((intOf_o (List.getD vs_ 0 undef))).toNat) 0), .int .i64 (intOf_o (List.getD vs_ 2 undef))] ∧ p_ = [] | 10 => IsRow 97 3 1 ([3, A.getD (((intOf_o (List.getD vs_ 0 undef))).toNat) 0, (intOf_o (List.getD vs_ 1 undef))].map (Value.int .i64)) v_ p_ | _ => True) [[], [], [], [2], [1, 3], [0], [5], [], [7], [6, 8], [8, 9]] [none, none, none, none, some 12, none, none, none, some 4, none, none] [curE g a len cap] [0, 1, 2, 3, 5, 6, 7, 8, 9, 10] 12 (List.take_append_drop 11 _).symm (by kernel_rfl) (by kernel_rfl) (by kernel_rfl) rfl rfl ?_ ?_
    ·
     refine ⟨?_, ?_, ?_, ?_, ?_, ?_, ?_, ?_, ?_, ?_, ?_, trivial⟩
     ·
      intro vf pf hmu hR
      refine dqQ [] [] rfl (zbr (zao [1] rfl) ?_)
      exact zbq (zay rfl)
     ·
      intro vf pf hmu hR
      refine dqQ [] [] rfl (zbr (zao [0] rfl) ?_)
      exact zbq (zay rfl)
     ·
      intro vf pf hmu hR
      refine dqQ [] [] rfl (zbr (zao [1] rfl) ?_)
      exact zbq (zay rfl)
     ·
      intro vf pf hmu hR
      have e2 := hR 2 (by decide)
      refine dqQ [2] [2] rfl (zaz (sk 39 (congrArg some e2.1) (zaf _)) (List.sublist_append_right _ _) ?_)
      exact zbq (lnQ rfl rfl rfl (fun w hm => hu w (hm.sub (.refl _))))
     ·
      intro vf pf hmu hR
      have e1 := hR 1 (by decide)
      have e3 := hR 3 (by decide)
      refine Or.inl ⟨rfl, ?_⟩
      show RunM _ _ _ (pf 12) (([1, 3] : List Nat).flatMap pf ++ _) (envOf _ vf [1, 3] ++ _) _ _
      rw [hmu]
      exact zcp (sk 38 (congrArg some e1.1) (sk 40 (congrArg some e3.1) (zaf _))) (by simp only [e1.2, e3.2, fS] <;> rfl) (zcy (R := (fun u_ p_ => (∃ x_ : Int, u_ = .int .i64 x_ ∧ 0 ≤ x_ ∧ x_ < (A.length : Int)) ∧ p_ = curE g a len cap)) rfl rfl (fun L w hX hm => zbl g a len cap z (A.length : Int) _ _ _ hm hb (by constructor <;> omega)))
     ·
      intro vf pf hmu hR
      have e0 := hR 0 (by decide)
      have e4 : (∃ pm_, (pf 4) = [pm_] ∧ (fun u_ p_ => (∃ x_ : Int, u_ = .int .i64 x_ ∧ 0 ≤ x_ ∧ x_ < (A.length : Int)) ∧ p_ = curE g a len cap) (vf 4) pm_) := hR 4 (by decide)
      obtain ⟨p85, pE4, hR86⟩ := e4
      obtain ⟨v84, vE4⟩ : ∃ x, vf 4 = x := ⟨_, rfl⟩
      rw [vE4] at hR86
      obtain ⟨⟨xhR86, rfl, xhR860, xhR861⟩, rfl⟩ := hR86
      refine dqQ [0] [0, 4] rfl (zaz (sk 37 (congrArg some e0.1) (sk 41 (congrArg some vE4) (zaf _))) (List.sublist_append_right _ _) ?_)
      exact zcc (zbq (riQ 1 rfl rfl rfl rfl (fun w hm => hu w (hm.sub (.refl _))))) (fun _ _ h => ⟨h.1.trans (by show _ = (elP u (((intOf_o (vf 4))).toNat * 1) : Value); first | (rw [vE4]; done) | (rw [vE4]; rfl)), h.2⟩)
     ·
      intro vf pf hmu hR
      have e4 : (∃ pm_, (pf 4) = [pm_] ∧ (fun u_ p_ => (∃ x_ : Int, u_ = .int .i64 x_ ∧ 0 ≤ x_ ∧ x_ < (A.length : Int)) ∧ p_ = curE g a len cap) (vf 4) pm_) := hR 4 (by decide)
      obtain ⟨p85, pE4, hR86⟩ := e4
      obtain ⟨v84, vE4⟩ : ∃ x, vf 4 = x := ⟨_, rfl⟩
      rw [vE4] at hR86
      obtain ⟨⟨xhR86, rfl, xhR860, xhR861⟩, rfl⟩ := hR86
      have e5 : (vf 5) = elP u (((intOf_o (vf 4))).toNat * 1) ∧ (pf 5) = [] := hR 5 (by decide)
      rw [vE4] at e5; try simp only [intOf_o] at e5
      refine dqQ [5] [4, 5] rfl (zaz (sk 42 (congrArg some e5.1) (zaf _)) (List.sublist_append_right _ _) ?_)
      exact zcc (zbq (lzQ rfl rfl rfl (fun w hm => hu w (hm.sub (.refl _))))) (fun _ _ h => ⟨h.1.trans (by show _ = (.int .i64 (A.getD (((intOf_o (vf 4))).toNat) 0) : Value); first | (rw [vE4]; done) | (rw [vE4]; rfl)), h.2⟩)
     ·
      intro vf pf hmu hR
      refine dqQ [] [] rfl (zbr (zao [0] rfl) ?_)
      exact zbq (zay rfl)
     ·
      intro vf pf hmu hR
      have e4 : (∃ pm_, (pf 4) = [pm_] ∧ (fun u_ p_ => (∃ x_ : Int, u_ = .int .i64 x_ ∧ 0 ≤ x_ ∧ x_ < (A.length : Int)) ∧ p_ = curE g a len cap) (vf 4) pm_) := hR 4 (by decide)
      obtain ⟨p85, pE4, hR86⟩ := e4
      obtain ⟨v84, vE4⟩ : ∃ x, vf 4 = x := ⟨_, rfl⟩
      rw [vE4] at hR86
      obtain ⟨⟨xhR86, rfl, xhR860, xhR861⟩, rfl⟩ := hR86
      have e7 := hR 7 (by decide)
      refine Or.inl ⟨rfl, ?_⟩
      show RunM _ _ _ (pf 4) (([7] : List Nat).flatMap pf ++ _) (envOf _ vf [4, 7] ++ _) _ _
      rw [pE4]
      exact zcp (sk 44 (congrArg some e7.1) (zaf _)) (by simp only [e7.2, fS] <;> rfl) (zcy (R := (fun u_ p_ => (∃ x_ : Int, u_ = .int .i64 x_ ∧ 0 ≤ x_ ∧ x_ < 2) ∧ p_ = curE g a len cap)) rfl rfl (fun L w hX hm => zbl g a len cap z 2 _ _ _ hm hb (by constructor <;> omega)))
     ·
      intro vf pf hmu hR
      have e4 : (∃ pm_, (pf 4) = [pm_] ∧ (fun u_ p_ => (∃ x_ : Int, u_ = .int .i64 x_ ∧ 0 ≤ x_ ∧ x_ < (A.length : Int)) ∧ p_ = curE g a len cap) (vf 4) pm_) := hR 4 (by decide)
      obtain ⟨p85, pE4, hR86⟩ := e4
      obtain ⟨v84, vE4⟩ : ∃ x, vf 4 = x := ⟨_, rfl⟩
      rw [vE4] at hR86
      obtain ⟨⟨xhR86, rfl, xhR860, xhR861⟩, rfl⟩ := hR86
      have e6 : (vf 6) = .int .i64 (A.getD (((intOf_o (vf 4))).toNat) 0) ∧ (pf 6) = [] := hR 6 (by decide)
      rw [vE4] at e6; try simp only [intOf_o] at e6
      have e8 : (∃ pm_, (pf 8) = [pm_] ∧ (fun u_ p_ => (∃ x_ : Int, u_ = .int .i64 x_ ∧ 0 ≤ x_ ∧ x_ < 2) ∧ p_ = curE g a len cap) (vf 8) pm_) := hR 8 (by decide)
      obtain ⟨p88, pE8, hR89⟩ := e8
      obtain ⟨v87, vE8⟩ : ∃ x, vf 8 = x := ⟨_, rfl⟩
      rw [vE8] at hR89
      obtain ⟨⟨xhR89, rfl, xhR890, xhR891⟩, rfl⟩ := hR89
      refine dqQ [6, 8] [4, 6, 8] rfl (zcd (sk 43 (congrArg some e6.1) (sk 45 (congrArg some vE8) (zaf _))) (by simp only [pE8, vE8, e6.2, fS] <;> rfl) ?_)
      exact zcc (zbq (zax (cs := #[.int .i64 3, .int .i64 (A.getD ((xhR86).toNat) 0), .int .i64 xhR89]) rfl rfl rfl)) (fun _ _ h => ⟨h.1.trans (by show _ = (.agg #[.int .i64 3, .int .i64 (A.getD (((intOf_o (vf 4))).toNat) 0), .int .i64 (intOf_o (vf 8))] : Value); first | (rw [vE4, vE8]; done) | (rw [vE4, vE8]; rfl)), h.2⟩)
     intro vf pf hmu hR
     have e4 : (∃ pm_, (pf 4) = [pm_] ∧ (fun u_ p_ => (∃ x_ : Int, u_ = .int .i64 x_ ∧ 0 ≤ x_ ∧ x_ < (A.length : Int)) ∧ p_ = curE g a len cap) (vf 4) pm_) := hR 4 (by decide)
     obtain ⟨p85, pE4, hR86⟩ := e4
     obtain ⟨v84, vE4⟩ : ∃ x, vf 4 = x := ⟨_, rfl⟩
     rw [vE4] at hR86
     obtain ⟨⟨xhR86, rfl, xhR860, xhR861⟩, rfl⟩ := hR86
     have e8 : (∃ pm_, (pf 8) = [pm_] ∧ (fun u_ p_ => (∃ x_ : Int, u_ = .int .i64 x_ ∧ 0 ≤ x_ ∧ x_ < 2) ∧ p_ = curE g a len cap) (vf 8) pm_) := hR 8 (by decide)
     obtain ⟨p88, pE8, hR89⟩ := e8
     obtain ⟨v87, vE8⟩ : ∃ x, vf 8 = x := ⟨_, rfl⟩
     rw [vE8] at hR89
     obtain ⟨⟨xhR89, rfl, xhR890, xhR891⟩, rfl⟩ := hR89
     have e9 : (vf 9) = .agg #[.int .i64 3, .int .i64 (A.getD (((intOf_o (vf 4))).toNat) 0), .int .i64 (intOf_o (vf 8))] ∧ (pf 9) = [] := hR 9 (by decide)
     rw [vE4, vE8] at e9; try simp only [intOf_o] at e9
     refine dqQ [8, 9] [4, 8, 9] rfl (zcd (sk 46 (congrArg some e9.1) (zaf _)) (by simp only [pE8, vE8, e9.2, fS] <;> rfl) ?_)
     exact zcc (zai (z := .agg #[.int .i64 0, .int .i64 0, .int .i64 0]) (s := 3) (cs := ([3, A.getD ((xhR86).toNat) 0, xhR89].map (Value.int .i64))) rfl Try.underlying71 rfl (by decide) rfl (by kernel_rfl) rfl) (fun v_ p_ h => by show IsRow 97 3 1 ([3, A.getD (((intOf_o (vf 4))).toNat) 0, (intOf_o (vf 8))].map (Value.int .i64)) v_ p_; rw [vE4, vE8]; exact h)
    intro vf pf hmu hR
    have e4 : (∃ pm_, (pf 4) = [pm_] ∧ (fun u_ p_ => (∃ x_ : Int, u_ = .int .i64 x_ ∧ 0 ≤ x_ ∧ x_ < (A.length : Int)) ∧ p_ = curE g a len cap) (vf 4) pm_) := hR 4 (by decide)
    obtain ⟨p85, pE4, hR86⟩ := e4
    obtain ⟨v84, vE4⟩ : ∃ x, vf 4 = x := ⟨_, rfl⟩
    rw [vE4] at hR86
    obtain ⟨⟨xhR86, rfl, xhR860, xhR861⟩, rfl⟩ := hR86
    have e8 : (∃ pm_, (pf 8) = [pm_] ∧ (fun u_ p_ => (∃ x_ : Int, u_ = .int .i64 x_ ∧ 0 ≤ x_ ∧ x_ < 2) ∧ p_ = curE g a len cap) (vf 8) pm_) := hR 8 (by decide)
    obtain ⟨p88, pE8, hR89⟩ := e8
    obtain ⟨v87, vE8⟩ : ∃ x, vf 8 = x := ⟨_, rfl⟩
    rw [vE8] at hR89
    obtain ⟨⟨xhR89, rfl, xhR890, xhR891⟩, rfl⟩ := hR89
    have e10 : IsRow 97 3 1 ([3, A.getD (((intOf_o (vf 4))).toNat) 0, (intOf_o (vf 8))].map (Value.int .i64)) (vf 10) (pf 10) := hR 10 (by decide)
    rw [vE4, vE8] at e10; try simp only [intOf_o] at e10
    obtain ⟨g90, vE10, pE10⟩ := e10
    have q0 := hR 0 (by decide)
    have q1 := hR 1 (by decide)
    have q2 := hR 2 (by decide)
    have q3 := hR 3 (by decide)
    have q5 := hR 5 (by decide)
    have q6 := hR 6 (by decide)
    have q7 := hR 7 (by decide)
    have q9 := hR 9 (by decide)
    refine zcr (zcg [36, 31, 25, 19, 18, 16, 6, 2, 1, 0] _ (sk 47 (congrArg some vE10) (zaf _)) rfl) (by simp only [pE8, vE8, pE10, vE10, q0.2, q1.2, q2.2, q3.2, q5.2, q6.2, q7.2, q9.2, fS] <;> rfl) ?_
    simp only [List.drop_succ_cons, List.drop_zero]
    refine zba 1 rfl ?_
    refine zal (zab ?_)
    refine zdx ?_
    have hA8 := hA _ (zbp (d := (0 : Int)) (show xhR86.toNat < A.length by omega))
    refine zbd 2 [1, 0] rfl rfl (by decide) ?_
    refine zbu 2 rfl ?_
    exact zcv (rs := [.tmp 6]) (vs := [.slice (some ⟨g90, 0, none⟩) 1 1]) rfl ⟨rfl, trivial⟩ rfl (fun w hm => ⟨_, bigE [curE g a len cap, rowE 97 3 (.slice (some ⟨g90, 0, none⟩) 1 1) 1 ([3, A.getD ((xhR86).toNat) 0, xhR89].map (Value.int .i64))], rfl, ⟨[Oq.mk 3 (A.getD ((xhR86).toNat) 0) xhR89], rfl, zcq (by first | exact .inl ⟨rfl, ⟨by dsimp only; omega, by dsimp only; omega⟩, rfl⟩ | exact .inr (.inl ⟨rfl, ⟨by dsimp only; omega, by dsimp only; omega⟩, rfl⟩) | exact .inr (.inr (.inl ⟨rfl, ⟨by dsimp only; omega, by dsimp only; omega⟩, by dsimp only; omega, by dsimp only; omega⟩)) | exact .inr (.inr (.inr ⟨by decide, by decide, by decide, by decide, rfl, rfl⟩))) rfl (by omega)⟩, hm.sub (.refl _)⟩)
   refine ntQ (fsQ rfl (zdq (zah (zah (reQ 1 rfl ?_)))))
   refine hvQ rfl (lnQ rfl rfl rfl (fun w hm => hu w (hm.sub (.cons _ (.refl _))))) (zby rfl rfl rfl rfl rfl rfl (fun h91 => ?_) (fun h91 => ?_))
   ·
    refine ntQ (zaj rfl (srQ (hvQ rfl (zax (cs := #[.int .i64 0, .int .i64 1, .int .i64 0]) rfl rfl rfl) ?_)))
    refine zeb rfl (zai (z := .agg #[.int .i64 0, .int .i64 0, .int .i64 0]) (s := 3) (cs := ([0, 1, 0].map (Value.int .i64))) rfl Try.underlying71 rfl (by decide) rfl (by kernel_rfl) rfl) ?_
    intro g92
    refine zba 1 rfl ?_
    refine zal (zdx ?_)
    refine zbd 2 [0, 1] rfl rfl (by decide) ?_
    refine zbu 2 rfl ?_
    exact zcv (rs := [.tmp 6]) (vs := [.slice (some ⟨g92, 0, none⟩) 1 1]) rfl ⟨rfl, trivial⟩ rfl (fun w hm => ⟨_, bigE [curE g a len cap, rowE 97 3 (.slice (some ⟨g92, 0, none⟩) 1 1) 1 ([0, 1, 0].map (Value.int .i64))], rfl, ⟨[Oq.mk 0 1 0], rfl, zcq (by first | exact .inl ⟨rfl, ⟨by dsimp only; omega, by dsimp only; omega⟩, rfl⟩ | exact .inr (.inl ⟨rfl, ⟨by dsimp only; omega, by dsimp only; omega⟩, rfl⟩) | exact .inr (.inr (.inl ⟨rfl, ⟨by dsimp only; omega, by dsimp only; omega⟩, by dsimp only; omega, by dsimp only; omega⟩)) | exact .inr (.inr (.inr ⟨by decide, by decide, by decide, by decide, rfl, rfl⟩))) rfl (by omega)⟩, hm.sub (.refl _)⟩)
   refine ntQ (zap rfl (zdi (zah (reQ 3 rfl ?_))))
   refine hvQ rfl (lnQ rfl rfl rfl (fun w hm => hu w (hm.sub (.cons _ (.refl _))))) (zbz (R := (fun u_ p_ => (∃ x_ : Int, u_ = .int .i64 x_ ∧ 0 ≤ x_ ∧ x_ < (A.length : Int)) ∧ p_ = curE g a len cap)) 0 rfl rfl rfl rfl rfl (fun l' w hm => zbl g a len cap z (A.length : Int) _ _ _ hm hb (by constructor <;> omega)) ?_)
   intro v93 p94 hR95
   obtain ⟨⟨xhR95, rfl, xhR950, xhR951⟩, rfl⟩ := hR95
   refine zci (l' := (curE g a len cap :: l)) rfl ?_
   refine hvQ rfl (riQ 1 rfl rfl rfl rfl (fun w hm => hu w (hm.sub (.cons _ (.refl _))))) (hvQ rfl (lzQ rfl rfl rfl (fun w hm => hu w (hm.sub (.cons _ (.refl _))))) ?_)
   refine hvQ rfl (zax (cs := #[.int .i64 2, .int .i64 (A.getD ((xhR95).toNat) 0), .int .i64 0]) rfl rfl rfl) (zeb rfl (zai (z := .agg #[.int .i64 0, .int .i64 0, .int .i64 0]) (s := 3) (cs := ([2, A.getD ((xhR95).toNat) 0, 0].map (Value.int .i64))) rfl Try.underlying71 rfl (by decide) rfl (by kernel_rfl) rfl) ?_)
   intro g96
   refine zba 1 rfl ?_
   refine zal (zae ?_)
   have hA8 := hA _ (zbp (d := (0 : Int)) (show xhR95.toNat < A.length by omega))
   refine zbd 2 [0, 1] rfl rfl (by decide) ?_
   refine zbu 2 rfl ?_
   exact zcv (rs := [.tmp 6]) (vs := [.slice (some ⟨g96, 0, none⟩) 1 1]) rfl ⟨rfl, trivial⟩ rfl (fun w hm => ⟨_, bigE [curE g a len cap, rowE 97 3 (.slice (some ⟨g96, 0, none⟩) 1 1) 1 ([2, A.getD ((xhR95).toNat) 0, 0].map (Value.int .i64))], rfl, ⟨[Oq.mk 2 (A.getD ((xhR95).toNat) 0) 0], rfl, zcq (by first | exact .inl ⟨rfl, ⟨by dsimp only; omega, by dsimp only; omega⟩, rfl⟩ | exact .inr (.inl ⟨rfl, ⟨by dsimp only; omega, by dsimp only; omega⟩, rfl⟩) | exact .inr (.inr (.inl ⟨rfl, ⟨by dsimp only; omega, by dsimp only; omega⟩, by dsimp only; omega, by dsimp only; omega⟩)) | exact .inr (.inr (.inr ⟨by decide, by decide, by decide, by decide, rfl, rfl⟩))) rfl (by omega)⟩, hm.sub (.refl _)⟩)
  refine zba 1 rfl (zap rfl (zbb ?_))
  refine zby rfl rfl rfl rfl rfl rfl (fun h97 => ?_) (fun h97 => ?_)
  ·
   refine zba 1 rfl (zaj rfl (zah (reQ 1 rfl ?_)))
   refine hvQ rfl (lnQ rfl rfl rfl (fun w hm => hu w (hm.sub (.cons _ (.refl _))))) (zed rfl rfl rfl rfl rfl rfl (fun h98 => ?_) (fun h98 => ?_))
   ·
    refine ntQ (zaj rfl (zah ?_))
    refine zei (l := (l)) rfl 11 [0, 1, 2, 3, 4, 5, 6, 7, 8, 9, 10] (List.take 11 _) (List.drop 11 _) [[], [], [], [2], [1, 3], [0, 4], [4, 5], [], [4, 7], [4, 6, 8], [4, 8, 9]] [37, 38, 39, 40, 41, 42, 43, 44, 45, 46, 47] (fun i_ vs_ v_ p_ => match i_ with | 0 => v_ = u ∧ p_ = [] | 1 => v_ = .pointer (some ⟨g, 0, none⟩) ∧ p_ = [] | 2 => v_ = u ∧ p_ = [] | 3 => v_ = .int .i64 (A.length : Int) ∧ p_ = [] | 4 => (∃ pm_, p_ = [pm_] ∧ (fun u_ p_ => (∃ x_ : Int, u_ = .int .i64 x_ ∧ 0 ≤ x_ ∧ x_ < (A.length : Int)) ∧ p_ = curE g a len cap) v_ pm_) | 5 => v_ = elP u (((intOf_o (List.getD vs_ 1 undef))).toNat * 1) ∧ p_ = [] | 6 => v_ = .int .i64 (A.getD (((intOf_o (List.getD vs_ 0 undef))).toNat) 0) ∧ p_ = [] | 7 => v_ = .pointer (some ⟨g, 0, none⟩) ∧ p_ = [] | 8 => (∃ pm_, p_ = [pm_] ∧ (fun u_ p_ => (∃ x_ : Int, u_ = .int .i64 x_ ∧ 0 ≤ x_ ∧ x_ < 2) ∧ p_ = curE g a len cap) v_ pm_) | 9 => v_ = .agg #[.int .i64 3, .int .i64 (A.getD (((intOf_o (List.getD vs_ 0 undef))).toNat) 0), .int .i64 (intOf_o (List.getD vs_ 2 undef))] ∧ p_ = [] | 10 => IsRow 97 3 1 ([3, A.getD (((intOf_o (List.getD vs_ 0 undef))).toNat) 0, (intOf_o (List.getD vs_ 1 undef))].map (Value.int .i64)) v_ p_ | _ => True) [[], [], [], [2], [1, 3], [0], [5], [], [7], [6, 8], [8, 9]] [none, none, none, none, some 12, none, none, none, some 4, none, none] [curE g a len cap] [0, 1, 2, 3, 5, 6, 7, 8, 9, 10] 12 (List.take_append_drop 11 _).symm (by kernel_rfl) (by kernel_rfl) (by kernel_rfl) rfl rfl ?_ ?_
    ·
     refine ⟨?_, ?_, ?_, ?_, ?_, ?_, ?_, ?_, ?_, ?_, ?_, trivial⟩
     ·
      intro vf pf hmu hR
      refine dqQ [] [] rfl (zbr (zao [1] rfl) ?_)
      exact zbq (zay rfl)
     ·
      intro vf pf hmu hR
      refine dqQ [] [] rfl (zbr (zao [0] rfl) ?_)
      exact zbq (zay rfl)
     ·
      intro vf pf hmu hR
      refine dqQ [] [] rfl (zbr (zao [1] rfl) ?_)
      exact zbq (zay rfl)
     ·
      intro vf pf hmu hR
      have e2 := hR 2 (by decide)
      refine dqQ [2] [2] rfl (zaz (sk 39 (congrArg some e2.1) (zaf _)) (List.sublist_append_right _ _) ?_)
      exact zbq (lnQ rfl rfl rfl (fun w hm => hu w (hm.sub (.refl _))))
     ·
      intro vf pf hmu hR
      have e1 := hR 1 (by decide)
      have e3 := hR 3 (by decide)
      refine Or.inl ⟨rfl, ?_⟩
      show RunM _ _ _ (pf 12) (([1, 3] : List Nat).flatMap pf ++ _) (envOf _ vf [1, 3] ++ _) _ _
      rw [hmu]
      exact zcp (sk 38 (congrArg some e1.1) (sk 40 (congrArg some e3.1) (zaf _))) (by simp only [e1.2, e3.2, fS] <;> rfl) (zcy (R := (fun u_ p_ => (∃ x_ : Int, u_ = .int .i64 x_ ∧ 0 ≤ x_ ∧ x_ < (A.length : Int)) ∧ p_ = curE g a len cap)) rfl rfl (fun L w hX hm => zbl g a len cap z (A.length : Int) _ _ _ hm hb (by constructor <;> omega)))
     ·
      intro vf pf hmu hR
      have e0 := hR 0 (by decide)
      have e4 : (∃ pm_, (pf 4) = [pm_] ∧ (fun u_ p_ => (∃ x_ : Int, u_ = .int .i64 x_ ∧ 0 ≤ x_ ∧ x_ < (A.length : Int)) ∧ p_ = curE g a len cap) (vf 4) pm_) := hR 4 (by decide)
      obtain ⟨p100, pE4, hR101⟩ := e4
      obtain ⟨v99, vE4⟩ : ∃ x, vf 4 = x := ⟨_, rfl⟩
      rw [vE4] at hR101
      obtain ⟨⟨xhR101, rfl, xhR1010, xhR1011⟩, rfl⟩ := hR101
      refine dqQ [0] [0, 4] rfl (zaz (sk 37 (congrArg some e0.1) (sk 41 (congrArg some vE4) (zaf _))) (List.sublist_append_right _ _) ?_)
      exact zcc (zbq (riQ 1 rfl rfl rfl rfl (fun w hm => hu w (hm.sub (.refl _))))) (fun _ _ h => ⟨h.1.trans (by show _ = (elP u (((intOf_o (vf 4))).toNat * 1) : Value); first | (rw [vE4]; done) | (rw [vE4]; rfl)), h.2⟩)
     ·
      intro vf pf hmu hR
      have e4 : (∃ pm_, (pf 4) = [pm_] ∧ (fun u_ p_ => (∃ x_ : Int, u_ = .int .i64 x_ ∧ 0 ≤ x_ ∧ x_ < (A.length : Int)) ∧ p_ = curE g a len cap) (vf 4) pm_) := hR 4 (by decide)
      obtain ⟨p100, pE4, hR101⟩ := e4
      obtain ⟨v99, vE4⟩ : ∃ x, vf 4 = x := ⟨_, rfl⟩
      rw [vE4] at hR101
      obtain ⟨⟨xhR101, rfl, xhR1010, xhR1011⟩, rfl⟩ := hR101
      have e5 : (vf 5) = elP u (((intOf_o (vf 4))).toNat * 1) ∧ (pf 5) = [] := hR 5 (by decide)
      rw [vE4] at e5; try simp only [intOf_o] at e5
      refine dqQ [5] [4, 5] rfl (zaz (sk 42 (congrArg some e5.1) (zaf _)) (List.sublist_append_right _ _) ?_)
      exact zcc (zbq (lzQ rfl rfl rfl (fun w hm => hu w (hm.sub (.refl _))))) (fun _ _ h => ⟨h.1.trans (by show _ = (.int .i64 (A.getD (((intOf_o (vf 4))).toNat) 0) : Value); first | (rw [vE4]; done) | (rw [vE4]; rfl)), h.2⟩)
     ·
      intro vf pf hmu hR
      refine dqQ [] [] rfl (zbr (zao [0] rfl) ?_)
      exact zbq (zay rfl)
     ·
      intro vf pf hmu hR
      have e4 : (∃ pm_, (pf 4) = [pm_] ∧ (fun u_ p_ => (∃ x_ : Int, u_ = .int .i64 x_ ∧ 0 ≤ x_ ∧ x_ < (A.length : Int)) ∧ p_ = curE g a len cap) (vf 4) pm_) := hR 4 (by decide)
      obtain ⟨p100, pE4, hR101⟩ := e4
      obtain ⟨v99, vE4⟩ : ∃ x, vf 4 = x := ⟨_, rfl⟩
      rw [vE4] at hR101
      obtain ⟨⟨xhR101, rfl, xhR1010, xhR1011⟩, rfl⟩ := hR101
      have e7 := hR 7 (by decide)
      refine Or.inl ⟨rfl, ?_⟩
      show RunM _ _ _ (pf 4) (([7] : List Nat).flatMap pf ++ _) (envOf _ vf [4, 7] ++ _) _ _
      rw [pE4]
      exact zcp (sk 44 (congrArg some e7.1) (zaf _)) (by simp only [e7.2, fS] <;> rfl) (zcy (R := (fun u_ p_ => (∃ x_ : Int, u_ = .int .i64 x_ ∧ 0 ≤ x_ ∧ x_ < 2) ∧ p_ = curE g a len cap)) rfl rfl (fun L w hX hm => zbl g a len cap z 2 _ _ _ hm hb (by constructor <;> omega)))
     ·
      intro vf pf hmu hR
      have e4 : (∃ pm_, (pf 4) = [pm_] ∧ (fun u_ p_ => (∃ x_ : Int, u_ = .int .i64 x_ ∧ 0 ≤ x_ ∧ x_ < (A.length : Int)) ∧ p_ = curE g a len cap) (vf 4) pm_) := hR 4 (by decide)
      obtain ⟨p100, pE4, hR101⟩ := e4
      obtain ⟨v99, vE4⟩ : ∃ x, vf 4 = x := ⟨_, rfl⟩
      rw [vE4] at hR101
      obtain ⟨⟨xhR101, rfl, xhR1010, xhR1011⟩, rfl⟩ := hR101
      have e6 : (vf 6) = .int .i64 (A.getD (((intOf_o (vf 4))).toNat) 0) ∧ (pf 6) = [] := hR 6 (by decide)
      rw [vE4] at e6; try simp only [intOf_o] at e6
      have e8 : (∃ pm_, (pf 8) = [pm_] ∧ (fun u_ p_ => (∃ x_ : Int, u_ = .int .i64 x_ ∧ 0 ≤ x_ ∧ x_ < 2) ∧ p_ = curE g a len cap) (vf 8) pm_) := hR 8 (by decide)
      obtain ⟨p103, pE8, hR104⟩ := e8
      obtain ⟨v102, vE8⟩ : ∃ x, vf 8 = x := ⟨_, rfl⟩
      rw [vE8] at hR104
      obtain ⟨⟨xhR104, rfl, xhR1040, xhR1041⟩, rfl⟩ := hR104
      refine dqQ [6, 8] [4, 6, 8] rfl (zcd (sk 43 (congrArg some e6.1) (sk 45 (congrArg some vE8) (zaf _))) (by simp only [pE8, vE8, e6.2, fS] <;> rfl) ?_)
      exact zcc (zbq (zax (cs := #[.int .i64 3, .int .i64 (A.getD ((xhR101).toNat) 0), .int .i64 xhR104]) rfl rfl rfl)) (fun _ _ h => ⟨h.1.trans (by show _ = (.agg #[.int .i64 3, .int .i64 (A.getD (((intOf_o (vf 4))).toNat) 0), .int .i64 (intOf_o (vf 8))] : Value); first | (rw [vE4, vE8]; done) | (rw [vE4, vE8]; rfl)), h.2⟩)
     intro vf pf hmu hR
     have e4 : (∃ pm_, (pf 4) = [pm_] ∧ (fun u_ p_ => (∃ x_ : Int, u_ = .int .i64 x_ ∧ 0 ≤ x_ ∧ x_ < (A.length : Int)) ∧ p_ = curE g a len cap) (vf 4) pm_) := hR 4 (by decide)
     obtain ⟨p100, pE4, hR101⟩ := e4
     obtain ⟨v99, vE4⟩ : ∃ x, vf 4 = x := ⟨_, rfl⟩
     rw [vE4] at hR101
     obtain ⟨⟨xhR101, rfl, xhR1010, xhR1011⟩, rfl⟩ := hR101
     have e8 : (∃ pm_, (pf 8) = [pm_] ∧ (fun u_ p_ => (∃ x_ : Int, u_ = .int .i64 x_ ∧ 0 ≤ x_ ∧ x_ < 2) ∧ p_ = curE g a len cap) (vf 8) pm_) := hR 8 (by decide)
     obtain ⟨p103, pE8, hR104⟩ := e8
     obtain ⟨v102, vE8⟩ : ∃ x, vf 8 = x := ⟨_, rfl⟩
     rw [vE8] at hR104
     obtain ⟨⟨xhR104, rfl, xhR1040, xhR1041⟩, rfl⟩ := hR104
     have e9 : (vf 9) = .agg #[.int .i64 3, .int .i64 (A.getD (((intOf_o (vf 4))).toNat) 0), .int .i64 (intOf_o (vf 8))] ∧ (pf 9) = [] := hR 9 (by decide)
     rw [vE4, vE8] at e9; try simp only [intOf_o] at e9
     refine dqQ [8, 9] [4, 8, 9] rfl (zcd (sk 46 (congrArg some e9.1) (zaf _)) (by simp only [pE8, vE8, e9.2, fS] <;> rfl) ?_)
     exact zcc (zai (z := .agg #[.int .i64 0, .int .i64 0, .int .i64 0]) (s := 3) (cs := ([3, A.getD ((xhR101).toNat) 0, xhR104].map (Value.int .i64))) rfl Try.underlying71 rfl (by decide) rfl (by kernel_rfl) rfl) (fun v_ p_ h => by show IsRow 97 3 1 ([3, A.getD (((intOf_o (vf 4))).toNat) 0, (intOf_o (vf 8))].map (Value.int .i64)) v_ p_; rw [vE4, vE8]; exact h)
    intro vf pf hmu hR
    have e4 : (∃ pm_, (pf 4) = [pm_] ∧ (fun u_ p_ => (∃ x_ : Int, u_ = .int .i64 x_ ∧ 0 ≤ x_ ∧ x_ < (A.length : Int)) ∧ p_ = curE g a len cap) (vf 4) pm_) := hR 4 (by decide)
    obtain ⟨p100, pE4, hR101⟩ := e4
    obtain ⟨v99, vE4⟩ : ∃ x, vf 4 = x := ⟨_, rfl⟩
    rw [vE4] at hR101
    obtain ⟨⟨xhR101, rfl, xhR1010, xhR1011⟩, rfl⟩ := hR101
    have e8 : (∃ pm_, (pf 8) = [pm_] ∧ (fun u_ p_ => (∃ x_ : Int, u_ = .int .i64 x_ ∧ 0 ≤ x_ ∧ x_ < 2) ∧ p_ = curE g a len cap) (vf 8) pm_) := hR 8 (by decide)
    obtain ⟨p103, pE8, hR104⟩ := e8
    obtain ⟨v102, vE8⟩ : ∃ x, vf 8 = x := ⟨_, rfl⟩
    rw [vE8] at hR104
    obtain ⟨⟨xhR104, rfl, xhR1040, xhR1041⟩, rfl⟩ := hR104
    have e10 : IsRow 97 3 1 ([3, A.getD (((intOf_o (vf 4))).toNat) 0, (intOf_o (vf 8))].map (Value.int .i64)) (vf 10) (pf 10) := hR 10 (by decide)
    rw [vE4, vE8] at e10; try simp only [intOf_o] at e10
    obtain ⟨g105, vE10, pE10⟩ := e10
    have q0 := hR 0 (by decide)
    have q1 := hR 1 (by decide)
    have q2 := hR 2 (by decide)
    have q3 := hR 3 (by decide)
    have q5 := hR 5 (by decide)
    have q6 := hR 6 (by decide)
    have q7 := hR 7 (by decide)
    have q9 := hR 9 (by decide)
    refine zcr (zcg [36, 31, 25, 19, 18, 16, 6, 2, 1, 0] _ (sk 47 (congrArg some vE10) (zaf _)) rfl) (by simp only [pE8, vE8, pE10, vE10, q0.2, q1.2, q2.2, q3.2, q5.2, q6.2, q7.2, q9.2, fS] <;> rfl) ?_
    simp only [List.drop_succ_cons, List.drop_zero]
    refine zba 1 rfl ?_
    refine zal (zab ?_)
    refine zdx ?_
    have hA8 := hA _ (zbp (d := (0 : Int)) (show xhR101.toNat < A.length by omega))
    refine zbd 2 [1, 0] rfl rfl (by decide) ?_
    refine zbu 2 rfl ?_
    exact zcv (rs := [.tmp 6]) (vs := [.slice (some ⟨g105, 0, none⟩) 1 1]) rfl ⟨rfl, trivial⟩ rfl (fun w hm => ⟨_, bigE [curE g a len cap, rowE 97 3 (.slice (some ⟨g105, 0, none⟩) 1 1) 1 ([3, A.getD ((xhR101).toNat) 0, xhR104].map (Value.int .i64))], rfl, ⟨[Oq.mk 3 (A.getD ((xhR101).toNat) 0) xhR104], rfl, zcq (by first | exact .inl ⟨rfl, ⟨by dsimp only; omega, by dsimp only; omega⟩, rfl⟩ | exact .inr (.inl ⟨rfl, ⟨by dsimp only; omega, by dsimp only; omega⟩, rfl⟩) | exact .inr (.inr (.inl ⟨rfl, ⟨by dsimp only; omega, by dsimp only; omega⟩, by dsimp only; omega, by dsimp only; omega⟩)) | exact .inr (.inr (.inr ⟨by decide, by decide, by decide, by decide, rfl, rfl⟩))) rfl (by omega)⟩, hm.sub (.refl _)⟩)
   refine ntQ (fsQ rfl (zdq (zah (zah (reQ 1 rfl ?_)))))
   refine hvQ rfl (lnQ rfl rfl rfl (fun w hm => hu w (hm.sub (.cons _ (.refl _))))) (zby rfl rfl rfl rfl rfl rfl (fun h106 => ?_) (fun h106 => ?_))
   ·
    refine ntQ (zaj rfl (srQ (hvQ rfl (zax (cs := #[.int .i64 0, .int .i64 1, .int .i64 0]) rfl rfl rfl) ?_)))
    refine zeb rfl (zai (z := .agg #[.int .i64 0, .int .i64 0, .int .i64 0]) (s := 3) (cs := ([0, 1, 0].map (Value.int .i64))) rfl Try.underlying71 rfl (by decide) rfl (by kernel_rfl) rfl) ?_
    intro g107
    refine zba 1 rfl ?_
    refine zal (zdx ?_)
    refine zbd 2 [0, 1] rfl rfl (by decide) ?_
    refine zbu 2 rfl ?_
    exact zcv (rs := [.tmp 6]) (vs := [.slice (some ⟨g107, 0, none⟩) 1 1]) rfl ⟨rfl, trivial⟩ rfl (fun w hm => ⟨_, bigE [curE g a len cap, rowE 97 3 (.slice (some ⟨g107, 0, none⟩) 1 1) 1 ([0, 1, 0].map (Value.int .i64))], rfl, ⟨[Oq.mk 0 1 0], rfl, zcq (by first | exact .inl ⟨rfl, ⟨by dsimp only; omega, by dsimp only; omega⟩, rfl⟩ | exact .inr (.inl ⟨rfl, ⟨by dsimp only; omega, by dsimp only; omega⟩, rfl⟩) | exact .inr (.inr (.inl ⟨rfl, ⟨by dsimp only; omega, by dsimp only; omega⟩, by dsimp only; omega, by dsimp only; omega⟩)) | exact .inr (.inr (.inr ⟨by decide, by decide, by decide, by decide, rfl, rfl⟩))) rfl (by omega)⟩, hm.sub (.refl _)⟩)
   refine ntQ (zap rfl (zdi (zah (reQ 3 rfl ?_))))
   refine hvQ rfl (lnQ rfl rfl rfl (fun w hm => hu w (hm.sub (.cons _ (.refl _))))) (zbz (R := (fun u_ p_ => (∃ x_ : Int, u_ = .int .i64 x_ ∧ 0 ≤ x_ ∧ x_ < (A.length : Int)) ∧ p_ = curE g a len cap)) 0 rfl rfl rfl rfl rfl (fun l' w hm => zbl g a len cap z (A.length : Int) _ _ _ hm hb (by constructor <;> omega)) ?_)
   intro v108 p109 hR110
   obtain ⟨⟨xhR110, rfl, xhR1100, xhR1101⟩, rfl⟩ := hR110
   refine zci (l' := (curE g a len cap :: l)) rfl ?_
   refine hvQ rfl (riQ 1 rfl rfl rfl rfl (fun w hm => hu w (hm.sub (.cons _ (.refl _))))) (hvQ rfl (lzQ rfl rfl rfl (fun w hm => hu w (hm.sub (.cons _ (.refl _))))) ?_)
   refine hvQ rfl (zax (cs := #[.int .i64 2, .int .i64 (A.getD ((xhR110).toNat) 0), .int .i64 0]) rfl rfl rfl) (zeb rfl (zai (z := .agg #[.int .i64 0, .int .i64 0, .int .i64 0]) (s := 3) (cs := ([2, A.getD ((xhR110).toNat) 0, 0].map (Value.int .i64))) rfl Try.underlying71 rfl (by decide) rfl (by kernel_rfl) rfl) ?_)
   intro g111
   refine zba 1 rfl ?_
   refine zal (zae ?_)
   have hA8 := hA _ (zbp (d := (0 : Int)) (show xhR110.toNat < A.length by omega))
   refine zbd 2 [0, 1] rfl rfl (by decide) ?_
   refine zbu 2 rfl ?_
   exact zcv (rs := [.tmp 6]) (vs := [.slice (some ⟨g111, 0, none⟩) 1 1]) rfl ⟨rfl, trivial⟩ rfl (fun w hm => ⟨_, bigE [curE g a len cap, rowE 97 3 (.slice (some ⟨g111, 0, none⟩) 1 1) 1 ([2, A.getD ((xhR110).toNat) 0, 0].map (Value.int .i64))], rfl, ⟨[Oq.mk 2 (A.getD ((xhR110).toNat) 0) 0], rfl, zcq (by first | exact .inl ⟨rfl, ⟨by dsimp only; omega, by dsimp only; omega⟩, rfl⟩ | exact .inr (.inl ⟨rfl, ⟨by dsimp only; omega, by dsimp only; omega⟩, rfl⟩) | exact .inr (.inr (.inl ⟨rfl, ⟨by dsimp only; omega, by dsimp only; omega⟩, by dsimp only; omega, by dsimp only; omega⟩)) | exact .inr (.inr (.inr ⟨by decide, by decide, by decide, by decide, rfl, rfl⟩))) rfl (by omega)⟩, hm.sub (.refl _)⟩)
  refine zba 1 rfl (fsQ rfl (zdq (zah (zah (reQ 1 rfl ?_)))))
  refine hvQ rfl (lnQ rfl rfl rfl (fun w hm => hu w (hm.sub (.cons _ (.refl _))))) (zby rfl rfl rfl rfl rfl rfl (fun h112 => ?_) (fun h112 => ?_))
  ·
   refine ntQ (zaj rfl (srQ (hvQ rfl (zax (cs := #[.int .i64 0, .int .i64 1, .int .i64 0]) rfl rfl rfl) ?_)))
   refine zeb rfl (zai (z := .agg #[.int .i64 0, .int .i64 0, .int .i64 0]) (s := 3) (cs := ([0, 1, 0].map (Value.int .i64))) rfl Try.underlying71 rfl (by decide) rfl (by kernel_rfl) rfl) ?_
   intro g113
   refine zba 1 rfl ?_
   refine zal (zdx ?_)
   refine zbd 2 [0, 1] rfl rfl (by decide) ?_
   refine zbu 2 rfl ?_
   exact zcv (rs := [.tmp 6]) (vs := [.slice (some ⟨g113, 0, none⟩) 1 1]) rfl ⟨rfl, trivial⟩ rfl (fun w hm => ⟨_, bigE [curE g a len cap, rowE 97 3 (.slice (some ⟨g113, 0, none⟩) 1 1) 1 ([0, 1, 0].map (Value.int .i64))], rfl, ⟨[Oq.mk 0 1 0], rfl, zcq (by first | exact .inl ⟨rfl, ⟨by dsimp only; omega, by dsimp only; omega⟩, rfl⟩ | exact .inr (.inl ⟨rfl, ⟨by dsimp only; omega, by dsimp only; omega⟩, rfl⟩) | exact .inr (.inr (.inl ⟨rfl, ⟨by dsimp only; omega, by dsimp only; omega⟩, by dsimp only; omega, by dsimp only; omega⟩)) | exact .inr (.inr (.inr ⟨by decide, by decide, by decide, by decide, rfl, rfl⟩))) rfl (by omega)⟩, hm.sub (.refl _)⟩)
  refine ntQ (zap rfl (zdi (zah (reQ 3 rfl ?_))))
  refine hvQ rfl (lnQ rfl rfl rfl (fun w hm => hu w (hm.sub (.cons _ (.refl _))))) (zbz (R := (fun u_ p_ => (∃ x_ : Int, u_ = .int .i64 x_ ∧ 0 ≤ x_ ∧ x_ < (A.length : Int)) ∧ p_ = curE g a len cap)) 0 rfl rfl rfl rfl rfl (fun l' w hm => zbl g a len cap z (A.length : Int) _ _ _ hm hb (by constructor <;> omega)) ?_)
  intro v114 p115 hR116
  obtain ⟨⟨xhR116, rfl, xhR1160, xhR1161⟩, rfl⟩ := hR116
  refine zci (l' := (curE g a len cap :: l)) rfl ?_
  refine hvQ rfl (riQ 1 rfl rfl rfl rfl (fun w hm => hu w (hm.sub (.cons _ (.refl _))))) (hvQ rfl (lzQ rfl rfl rfl (fun w hm => hu w (hm.sub (.cons _ (.refl _))))) ?_)
  refine hvQ rfl (zax (cs := #[.int .i64 2, .int .i64 (A.getD ((xhR116).toNat) 0), .int .i64 0]) rfl rfl rfl) (zeb rfl (zai (z := .agg #[.int .i64 0, .int .i64 0, .int .i64 0]) (s := 3) (cs := ([2, A.getD ((xhR116).toNat) 0, 0].map (Value.int .i64))) rfl Try.underlying71 rfl (by decide) rfl (by kernel_rfl) rfl) ?_)
  intro g117
  refine zba 1 rfl ?_
  refine zal (zae ?_)
  have hA8 := hA _ (zbp (d := (0 : Int)) (show xhR116.toNat < A.length by omega))
  refine zbd 2 [0, 1] rfl rfl (by decide) ?_
  refine zbu 2 rfl ?_
  exact zcv (rs := [.tmp 6]) (vs := [.slice (some ⟨g117, 0, none⟩) 1 1]) rfl ⟨rfl, trivial⟩ rfl (fun w hm => ⟨_, bigE [curE g a len cap, rowE 97 3 (.slice (some ⟨g117, 0, none⟩) 1 1) 1 ([2, A.getD ((xhR116).toNat) 0, 0].map (Value.int .i64))], rfl, ⟨[Oq.mk 2 (A.getD ((xhR116).toNat) 0) 0], rfl, zcq (by first | exact .inl ⟨rfl, ⟨by dsimp only; omega, by dsimp only; omega⟩, rfl⟩ | exact .inr (.inl ⟨rfl, ⟨by dsimp only; omega, by dsimp only; omega⟩, rfl⟩) | exact .inr (.inr (.inl ⟨rfl, ⟨by dsimp only; omega, by dsimp only; omega⟩, by dsimp only; omega, by dsimp only; omega⟩)) | exact .inr (.inr (.inr ⟨by decide, by decide, by decide, by decide, rfl, rfl⟩))) rfl (by omega)⟩, hm.sub (.refl _)⟩)
 refine zba 1 rfl (zap rfl (zdi (zah (reQ 1 rfl ?_))))
 refine zeb rfl (zai (z := .int .i64 0) (s := 1) (cs := ([4, 5, 6, 7, 8, 9, 10, 11, 12, 7, 12].map (Value.int .i64))) rfl Try.underlying48 rfl (by decide) rfl (by kernel_rfl) rfl) ?_
 intro g118
 refine zdu (R := (fun u_ p_ => (∃ x : Int, u_ = .int .i64 x ∧ x ∈ ([4, 5, 6, 7, 8, 9, 10, 11, 12, 7, 12] : List Int)) ∧ p_ = curE g a len cap)) 1 rfl rfl rfl rfl rfl (fun L w hX hm => zdf g a len cap z (.slice (some ⟨g118, 0, none⟩) 11 11) [4, 5, 6, 7, 8, 9, 10, 11, 12, 7, 12] _ _ _ hm hb (fun w hm => (zam (l := (rowE 3 1 (.slice (some ⟨g118, 0, none⟩) 11 11) 11 ([4, 5, 6, 7, 8, 9, 10, 11, 12, 7, 12].map (Value.int .i64)) :: l)) 0 rfl) w (hX w hm)) (by decide)) ?_
 intro v119 p120 hR121
 obtain ⟨⟨xhR121, rfl, xhR121m⟩, rfl⟩ := hR121
 have hx9 := arKind xhR121m
 have har9 := arI_op hx9
 refine zci (l' := (rowE 3 1 (.slice (some ⟨g118, 0, none⟩) 11 11) 11 ([4, 5, 6, 7, 8, 9, 10, 11, 12, 7, 12].map (Value.int .i64)) :: curE g a len cap :: l)) rfl ?_
 refine zba 1 rfl (zah (reQ 1 rfl (hvQ rfl (zax (cs := #[.int .i64 xhR121, .int .i64 0, .int .i64 0]) rfl rfl rfl) ?_)))
 refine zeb rfl (zai (z := .agg #[.int .i64 0, .int .i64 0, .int .i64 0]) (s := 3) (cs := ([xhR121, 0, 0].map (Value.int .i64))) rfl Try.underlying71 rfl (by decide) rfl (by kernel_rfl) rfl) ?_
 intro g122
 refine zba 1 rfl (zah (reQ 1 rfl ?_))
 refine zdw rfl (zar rfl rfl (fun w hm => zav (zez xhR121 w))) (zba 1 rfl (zah (zbk 1 rfl (zbh ?_))))
 refine lkQ3 (α := Nat) (β := Value) (γ := List Oq) [0, 1, 2, 6, 7, 9, 16] rfl (fun k gv os => (rowE 97 3 gv os.length (os.flatMap oqC) :: curE g a len cap :: l)) (fun k gv os => [(8, gv), (10, .int .i64 (k : Int))]) (fun k gv os => (k : Int) ≤ arI xhR121 ∧ PartP n os (arI xhR121 - (k : Int)) ∧ 1 ≤ os.length ∧ (os.length : Int) + (arI xhR121 - (k : Int)) * ((M - 1) / arI xhR121) ≤ M) (fun k gv os => (arI xhR121).toNat - k) 0 _ [Oq.mk xhR121 0 0] ⟨by omega, exStart n hx9⟩ (saQ rfl) (.cons_cons _ (.cons _ (.refl _))) ?_
 intro k gv os hi123
 obtain ⟨hk, hP, h1, hl⟩ := hi123
 have hol9 := exLen hx9 (by omega) hk hl
 refine zah (zah (reQ 2 rfl ?_))
 refine zcb rfl rfl rfl rfl rfl rfl (fun h124 => ?_) (fun h124 => ?_)
 ·
  refine ntQ (zaj rfl (zdi (sbQ (reQ 4 rfl (hvQ rfl (vsQ rfl rfl rfl) (zak 1 rfl ?_))))))
  refine hvQ rfl (rv_quo rfl rfl rfl (by refine ⟨?_, ?_, ?_⟩ <;> omega)) ?_
  have hq9 := exQuo (M := M) hx9 (by omega)
  refine zdu (R := (fun u_ p_ => ∃ os : List Oq, p_ = bigE [curE g a len cap, rowE 97 3 u_ os.length (os.flatMap oqC)] ∧ ExP n ((M - 1) / (arI xhR121)) os)) 1 rfl rfl rfl rfl rfl (fun L w hX hm => IH ((M - 1) / (arI xhR121)) (by omega) (by omega) L w hm (fun w9 h9 => hu w9 ((hX w9 h9).sub (.cons _ (.refl _))))) ?_
  intro v125 p126 hR127
  obtain ⟨eshR127, rfl, heshR127⟩ := hR127
  have helhR127 := heshR127.2.2
  refine zci (l' := (rowE 97 3 gv os.length (os.flatMap oqC) :: bigE [curE g a len cap, rowE 97 3 v125 eshR127.length (eshR127.flatMap oqC)] :: l)) rfl ?_
  refine hl_pick 2 [0, 1] rfl rfl (by decide) ?_
  refine hl_conv (curE g a len cap :: rowE 97 3 v125 eshR127.length (eshR127.flatMap oqC) :: rowE 97 3 gv os.length (os.flatMap oqC) :: l) zcw ?_
  refine zct (i := 2) (z := .agg #[.int .i64 0, .int .i64 0, .int .i64 0]) (bytes := 24) (n' := (os ++ eshR127).length) (xs' := ((os ++ eshR127).flatMap oqC)) rfl rfl rfl rfl Try.underlying71 (by kernel_rfl) rfl rfl rfl rfl (zam 1 rfl) (flat_onesD oqC eshR127 (fun r u hu => by simp [oqC] at hu; first | (subst hu; rfl) | (rcases hu with rfl | rfl <;> rfl) | (rcases hu with rfl | rfl | rfl <;> rfl) | (rcases hu with rfl | rfl | rfl | rfl <;> rfl))) (by first | omega | (simp only [List.length_take, List.length_drop, List.length_append]; omega)) (zcj os eshR127) (flat_app oqC os eshR127) (fun _ => rfl) ?_
  intro v128
  refine enQ 1 rfl (zdq (reQ 1 rfl (hvQ rfl (vaQ rfl rfl rfl) (enQ 1 rfl ?_))))
  refine zbd 3 [0, 2] rfl rfl (by decide) ?_
  exact zdt (k + 1) v128 (os ++ eshR127) ⟨by omega, exStep hx9 (by omega) hP h1 hl heshR127⟩ (by omega) (saQ rfl) (.refl _)
 refine ntQ (zap rfl ?_)
 refine zbv (zep ?_)
 refine zan (zbf (zbk 2 rfl ?_))
 refine zal (zbd 2 [0, 1] rfl rfl (by decide) ?_)
 refine zbu 2 rfl ?_
 exact zcv (rs := [.tmp 6]) (vs := [gv]) rfl ⟨rfl, trivial⟩ rfl (fun w hm => ⟨_, bigE [curE g a len cap, rowE 97 3 gv os.length (os.flatMap oqC)], rfl, ⟨os, rfl, exEnd (x := xhR121) (k := k) (by omega) hP h1 hl⟩, hm.sub (.refl _)⟩)
theorem l04Expr_mut (g : Nat) (a : Option Addr) (len cap : Nat) (z : List Int) (n : Int) (u : Value) (A : List Int) (hA : ∀ x ∈ A, 0 ≤ x ∧ x < n) (hAl : A.length ≤ 100) (w0 : World) (hb : BRow .u8 w0 a len cap z) : ∀ (m : Nat) (M : Int), M.toNat ≤ m → 1 ≤ M ∧ M ≤ 15 → ∀ (l : List HP) (w : World), Mem w0 (curE g a len cap :: l) w → Rd w0 l u 1 A.length (A.map (Value.int .i64)) → Calls Try.prog 86 #[.pointer (some ⟨g, 0, none⟩), u, .int .i64 (M)] w (fun e_ w_ => ∃ v_ p_, e_ = .returned v_ ∧ (fun u_ p_ => ∃ os : List Oq, p_ = bigE [curE g a len cap, rowE 97 3 u_ os.length (os.flatMap oqC)] ∧ ExP n M os) v_ p_ ∧ Mem w0 (p_ :: l) w_)
  | 0, M, h, hM, _, _, _, _ => absurd h (by omega)
  | m + 1, M, h, hM, l, w, hm, hu => l04Expr_step g a len cap z n u A M w0 l w hm hb hu hA hAl hM (fun q h1 h2 l2 w2 hm2 hu2 => l04Expr_mut g a len cap z n u A hA hAl w0 hb m q (by omega) ⟨h1, by omega⟩ l2 w2 hm2 hu2)
theorem built_as (x0 : Int) (x1 : Value) (h1 : x1.oneCell' = true) : Try.prog.built 89 [(0, .int .i64 x0), (1, x1)] = some #[.int .i64 x0, x1] := by
  (cases x1 <;> first | (exact absurd h1 Bool.false_ne_true) | kernel_rfl)
theorem flat_oneAs {gs : List As} (h : ∀ g ∈ gs, g.ov.oneCell' = true) : ∀ q ∈ gs.flatMap asC, q.oneCell' = true := fun q hq => by
  obtain ⟨r, h1, h2⟩ := List.mem_flatMap.1 hq
  simp [asC] at h2
  rcases h2 with rfl | rfl
  · rfl
  · exact h r h1
theorem zdg (g : Nat) (a : Option Addr) (len cap : Nat) (z : List Int) (n : Int) (m : Md) (s : Int) (u : Value) (A : List Int) (w0 : World) (l : List HP) (w : World) (hm0 : Mem w0 (curE g a len cap :: l) w) (hb : BRow .u8 w0 a len cap z) (hu : Rd w0 l u 1 A.length (A.map (Value.int .i64))) (hA : ∀ x ∈ A, 0 ≤ x ∧ x < n) (hAl : A.length ≤ 100) (hg : Rd w0 l m.av 2 m.gs.length (m.gs.flatMap asC)) (hgl : m.gs.length ≤ 1000) (hone : ∀ g ∈ m.gs, g.ov.oneCell' = true) (ho : m.sv.oneCell' = true ∧ m.av.oneCell' = true ∧ m.iv.oneCell' = true ∧ m.mv.oneCell' = true) :
   Calls Try.prog 149 #[.pointer (some ⟨g, 0, none⟩), .agg #[m.sv, m.av, m.iv, m.mv], .int .i64 s, u] w (fun e_ w_ => ∃ v_ p_, e_ = .returned v_ ∧ (fun u_ p_ => ∃ (v' ov : Value) (os : List Oq) (ps : List HP), u_ = .agg #[m.sv, v', m.iv, m.mv] ∧ p_ = bigE [curE g a len cap, bigE ps] ∧ (∀ w, (bigE ps).holds w → RdsW w v' 2 (m.gs ++ [As.mk s ov os]).length ((m.gs ++ [As.mk s ov os]).flatMap asC) ∧ RdsW w ov 3 os.length (os.flatMap oqC)) ∧ v'.oneCell' = true ∧ ov.oneCell' = true ∧ ExP n 9 os) v_ p_ ∧ Mem w0 (p_ :: l) w_) := by
 refine zer (N := 22) (args := [.pointer (some ⟨g, 0, none⟩), .agg #[m.sv, m.av, m.iv, m.mv], .int .i64 s, u]) Try.func149 rfl rfl hm0 (srQ ?_)
 refine zdv rfl (zdp rfl rfl) ?_
 intro b1
 refine zdv rfl (zbj (z := .agg #[.slice none 0 0, .slice none 0 0, .slice none 0 0, .slice none 0 0]) rfl rfl) ?_
 intro b2
 refine ntQ (srQ ?_)
 refine zeb rfl (zds (s := 2) rfl Try.underlying31 rfl) ?_
 intro g3
 refine hvQ rfl (fdQ 1 rfl rfl rfl) (hvQ rfl (zac rfl rfl rfl (zaa 2 rfl rfl)) ?_)
 refine zct (i := 0) (z := .agg #[.int .i64 0, .slice none 0 0]) (bytes := 32) (n' := m.gs.length) (xs' := (m.gs.flatMap asC)) rfl rfl rfl rfl Try.underlying31 (by kernel_rfl) rfl rfl rfl rfl (fun w hm => hg w (hm.sub (.cons _ (.cons _ (.cons _ (.cons _ (.refl _))))))) (flat_oneAs hone) (by omega) (Nat.zero_add _) (List.nil_append _) (fun _ => rfl) ?_
 intro v4
 refine zak 3 rfl (zdu (R := (fun u_ p_ => ∃ os : List Oq, p_ = bigE [curE g a len cap, rowE 97 3 u_ os.length (os.flatMap oqC)] ∧ ExP n 9 os)) 3 rfl rfl rfl rfl rfl (fun L w hX hm => l04Expr_mut g a len cap z n u A hA hAl _ hb 9 9 (by decide) (by decide) L w hm (fun w9 h9 => hu w9 ((hX w9 h9).sub (.cons _ (.cons _ (.cons _ (.refl _))))))) ?_)
 intro v5 p6 hR7
 obtain ⟨os, rfl, hos⟩ := hR7
 have hol9 := hos.2.2
 refine zci (l' := (rowE 89 2 v4 m.gs.length (m.gs.flatMap asC) :: boxE b2 #[.slice none 0 0, .slice none 0 0, .slice none 0 0, .slice none 0 0] 35 :: boxE b1 #[m.sv, m.av, m.iv, m.mv] 35 :: bigE [curE g a len cap, rowE 97 3 v5 os.length (os.flatMap oqC)] :: l)) rfl ?_
 refine hl_pick 4 [2, 1, 0, 3] rfl rfl (by decide) ?_
 refine hl_conv (curE g a len cap :: rowE 97 3 v5 os.length (os.flatMap oqC) :: rowE 89 2 v4 m.gs.length (m.gs.flatMap asC) :: boxE b2 #[.slice none 0 0, .slice none 0 0, .slice none 0 0, .slice none 0 0] 35 :: boxE b1 #[m.sv, m.av, m.iv, m.mv] 35 :: l) zcw ?_
 refine hvQ rfl (rv_buildMD (cs := #[.int .i64 s, v5]) rfl rfl (fun w hm => built_as s v5 ((zam 1 rfl w hm).one))) (zeb rfl (zai (z := .agg #[.int .i64 0, .slice none 0 0]) (s := 2) (cs := [.int .i64 s, v5]) rfl Try.underlying31 rfl (by decide) rfl (by kernel_rfl) rfl) ?_)
 intro g8
 refine zdb (i := 2) rfl (fun ho9 => ?_)
 refine zct (i := 3) (z := .agg #[.int .i64 0, .slice none 0 0]) (bytes := 32) rfl rfl rfl rfl Try.underlying31 (by kernel_rfl) rfl rfl rfl rfl (zam 0 rfl) (zad rfl (zad ho9 zbg)) (by first | omega | (simp only [List.length_append, List.length_cons, List.length_nil]; omega)) (zcj m.gs [(As.mk s v5 os)]) (zdc asC m.gs (As.mk s v5 os) _ rfl) (fun _ => rfl) ?_
 intro v10
 refine hvQ rfl (fdQ 1 rfl rfl rfl) (zdb (i := 3) rfl (fun ho11 => ?_))
 refine zec (i := 5) (cs' := #[m.sv, v10, m.iv, m.mv]) rfl rfl rfl rfl rfl rfl ho11 rfl rfl rfl rfl (ntQ (srQ (hvQ rfl (zaw (cs := [m.sv, v10, m.iv, m.mv]) rfl rfl rfl rfl rfl (zau 5 rfl 0 rfl)) ?_)))
 refine zbn (cs' := #[m.sv, v10, m.iv, m.mv]) (i := 4) (off := 0) (us := [m.sv, v10, m.iv, m.mv]) rfl rfl rfl rfl rfl rfl rfl (zad ho.1 (zad ho11 (zad ho.2.2.1 (zad ho.2.2.2 zbg)))) rfl rfl rfl (ntQ ?_)
 refine zal (hq_know (fun w hm => (zam 3 rfl w hm).one) (fun ho1 => ?_))
 refine hq_know (fun w hm => (zam 2 rfl w hm).one) (fun ho2 => ?_)
 refine zbd 6 [5, 4, 1, 0, 2, 3] rfl rfl (by decide) ?_
 refine zbu 2 rfl ?_
 refine zbd 5 [4, 3, 1, 0, 2] rfl rfl (by decide) ?_
 refine zbu 2 rfl ?_
 exact zcv (rs := [.cell 8 35]) (vs := [.agg #[m.sv, v10, m.iv, m.mv]]) rfl ⟨⟨b2, 0, [m.sv, v10, m.iv, m.mv], rfl, rfl, by kernel_rfl, by kernel_rfl, zau 2 rfl 0 rfl⟩, trivial⟩ rfl (fun w hm => ⟨_, bigE [curE g a len cap, bigE [rowE 89 2 v10 ((m.gs ++ [(As.mk s v5 os)]).length) ((m.gs ++ [(As.mk s v5 os)]).flatMap asC), rowE 97 3 v5 os.length (os.flatMap oqC)]], rfl, ⟨v10, v5, os, [rowE 89 2 v10 ((m.gs ++ [(As.mk s v5 os)]).length) ((m.gs ++ [(As.mk s v5 os)]).flatMap asC), rowE 97 3 v5 os.length (os.flatMap oqC)], rfl, rfl, fun w hw => ⟨zcl (zas hw List.mem_cons_self), zcl (zas hw (List.mem_cons_of_mem _ List.mem_cons_self))⟩, ho1, ho2, hos⟩, hm.sub (.cons_cons _ (.cons _ (.cons _ (.cons _ (.refl _)))))⟩)
def agK (k : Nat) (v : Value) : Value := match v with | .agg xs => xs.getD k undef | _ => undef
def RdP (w : World) (m : Md) : Prop := RdsW w m.av 2 m.gs.length (m.gs.flatMap asC) ∧ OpsR w m.gs ∧ PtsR w m.xs
theorem nilW (w : World) (s : Nat) : RdsW w (.slice none 0 0) s 0 [] := ⟨_, _, rfl, by simp, ⟨by decide, by decide⟩, fun h => absurd h (by decide)⟩
theorem RdP.nil (w : World) : RdP w md0 := ⟨nilW w 2, OpsR.nil w, PtsR.nil w⟩
theorem sgP_mk {k w i : Int} (hk : 0 ≤ k ∧ k ≤ 3) (hw : 0 ≤ w ∧ w ≤ 4) (hi : 0 ≤ i ∧ i ≤ 15) (h : i ≠ 0 → k = 3) : SgP (Sg.mk k w i) := ⟨hk, hw, hi, h⟩
theorem nPt_mk {k w i : Int} (h : k ≠ 0 ∧ k ≠ 1) : nPt [Sg.mk k w i] = 0 := nPt_not h
structure MI (D : List Md) (m : Md) (A P : List Int) (ns ng nx nm np na : Nat) : Prop where
  b : BldP D m P
  av : ∀ x ∈ A, 0 ≤ x ∧ x < m.ss.length
  ns : m.ss.length ≤ ns
  ng : m.gs.length ≤ ng
  nx : m.xs.length ≤ nx
  nm : m.ms.length ≤ nm
  np : nPt m.ss ≤ np
  na : A.length ≤ na
section
variable {D : List Md} {m : Md} {A P : List Int} {ns ng nx nm np na : Nat}
theorem MI.start (D : List Md) : MI D md0 [] [] 0 0 0 0 0 0 := ⟨BldP.start D, fun x hx => (by cases hx), Nat.le_refl _, Nat.le_refl _, Nat.le_refl _, Nat.le_refl _, Nat.le_refl _, Nat.le_refl _⟩
theorem MI.up (h : MI D m A P ns ng nx nm np na) {a b c d e f : Nat} (h1 : ns ≤ a) (h2 : ng ≤ b) (h3 : nx ≤ c) (h4 : nm ≤ d) (h5 : np ≤ e) (h6 : na ≤ f) : MI D m A P a b c d e f := ⟨h.b, h.av, by have := h.ns; omega, by have := h.ng; omega, by have := h.nx; omega, by have := h.nm; omega, by have := h.np; omega, by have := h.na; omega⟩
theorem BldP.sig {P' : List Int} (h : BldP D m P) (v : Value) {s : Sg} (hs : SgP s) (hP : ∀ x, x ∈ P' ↔ x ∈ P ∨ (s.k ≠ 0 ∧ x = (m.ss.length : Int))) : BldP D (Md.mk v m.av m.iv m.mv (m.ss ++ [s]) m.gs m.xs m.ms) P' :=
  h.app v (l := [s]) (fun x hx => by rw [List.mem_singleton] at hx; subst hx; exact hs) (fun x => (hP x).trans ⟨fun hx => hx.imp id (fun ⟨h1, h2⟩ => ⟨0, by simp, h1, by rw [h2]; omega⟩), fun hx => hx.imp id (fun ⟨j, hj, hk, e⟩ => by
    have : j = 0 := by have : j < 1 := hj; omega
    subst this; exact ⟨hk, by rw [e]; omega⟩)⟩)
theorem av_app (hA : ∀ x ∈ A, 0 ≤ x ∧ x < m.ss.length) (l : List Sg) : ∀ x ∈ A, 0 ≤ x ∧ x < ((m.ss ++ l).length : Int) := fun x hx => by
  have := hA x hx; rw [List.length_append]; omega
theorem MI.sig {P' : List Int} (h : MI D m A P ns ng nx nm np na) (v : Value) {s : Sg} (hs : SgP s) {e : Nat} (hn : nPt [s] ≤ e) (hP : ∀ x, x ∈ P' ↔ x ∈ P ∨ (s.k ≠ 0 ∧ x = (m.ss.length : Int))) : MI D (Md.mk v m.av m.iv m.mv (m.ss ++ [s]) m.gs m.xs m.ms) A P' (ns + 1) ng nx nm (np + e) na :=
  ⟨h.b.sig v hs hP, av_app h.av _, by have := h.ns; show (m.ss ++ [s]).length ≤ _; rw [List.length_append, List.length_singleton]; omega, h.ng, h.nx, h.nm, by have := h.np; show nPt (m.ss ++ [s]) ≤ _; rw [nPt_app]; omega, h.na⟩
theorem MI.avl (h : MI D m A P ns ng nx nm np na) {L : List Int} (hL : ∀ x ∈ L, 0 ≤ x ∧ x < m.ss.length) {e : Nat} (he : L.length ≤ e) : MI D m (A ++ L) P ns ng nx nm np (na + e) :=
  ⟨h.b, fun x hx => (List.mem_append.1 hx).elim (h.av x) (hL x), h.ns, h.ng, h.nx, h.nm, h.np, by have := h.na; rw [List.length_append]; omega⟩
theorem last_in (v : Value) (s : Sg) : ∀ x ∈ [(m.ss.length : Int)], 0 ≤ x ∧ x < ((m.ss ++ [s]).length : Int) := fun x hx => by
  rw [List.mem_singleton] at hx; subst hx; rw [List.length_append, List.length_singleton]; omega
theorem MI.inp (h : MI D m A P ns ng nx nm np na) (v : Value) {w : Int} (hw : 0 ≤ w ∧ w ≤ 4) : MI D (Md.mk v m.av m.iv m.mv (m.ss ++ [Sg.mk 0 w 0]) m.gs m.xs m.ms) (A ++ [(m.ss.length : Int)]) P (ns + 1) ng nx nm (np + 1) (na + 1) :=
  (h.sig v (s := Sg.mk 0 w 0) (sgP_mk ⟨by decide, by decide⟩ hw ⟨by decide, by decide⟩ (fun h9 => absurd rfl h9)) (nPt_one _) (fun x => ⟨.inl, fun hx => hx.elim id (fun h9 => absurd rfl h9.1)⟩)).avl (last_in v _) (by simp)
theorem MI.reg (h : MI D m A P ns ng nx nm np na) (v : Value) {w i : Int} (hw : 0 ≤ w ∧ w ≤ 4) (hi : 0 ≤ i ∧ i ≤ 15) : MI D (Md.mk v m.av m.iv m.mv (m.ss ++ [Sg.mk 3 w i]) m.gs m.xs m.ms) (A ++ [(m.ss.length : Int)]) (P ++ [(m.ss.length : Int)]) (ns + 1) ng nx nm np (na + 1) :=
  (h.sig v (s := Sg.mk 3 w i) (P' := P ++ [(m.ss.length : Int)]) (sgP_mk ⟨by decide, by decide⟩ hw hi (fun _ => rfl)) (e := 0) (Nat.le_of_eq (nPt_mk ⟨by decide, by decide⟩)) (fun x => by rw [List.mem_append, List.mem_singleton]; exact ⟨fun hx => hx.imp id (fun h9 => ⟨(show (3 : Int) ≠ 0 by decide), h9⟩), fun hx => hx.imp id (·.2)⟩)).avl (last_in v _) (by simp)
theorem MI.wire {P' : List Int} (h : MI D m A P ns ng nx nm np na) (v : Value) {w : Int} (hw : 0 ≤ w ∧ w ≤ 4) (hP : ∀ x, x ∈ P' ↔ x ∈ P ∨ x = (m.ss.length : Int)) : MI D (Md.mk v m.av m.iv m.mv (m.ss ++ [Sg.mk 2 w 0]) m.gs m.xs m.ms) A P' (ns + 1) ng nx nm np na :=
  h.sig v (s := Sg.mk 2 w 0) (sgP_mk ⟨by decide, by decide⟩ hw ⟨by decide, by decide⟩ (fun h9 => absurd rfl h9)) (e := 0) (Nat.le_of_eq (nPt_mk ⟨by decide, by decide⟩)) (fun x => (hP x).trans ⟨fun hx => hx.imp id (fun h9 => ⟨(show (2 : Int) ≠ 0 by decide), h9⟩), fun hx => hx.imp id (·.2)⟩)
theorem MI.out {P' : List Int} (h : MI D m A P ns ng nx nm np na) (v : Value) {k w : Int} (hk : k = 1 ∨ k = 2) (hw : 0 ≤ w ∧ w ≤ 4) (hP : ∀ x, x ∈ P' ↔ x ∈ P ∨ x = (m.ss.length : Int)) : MI D (Md.mk v m.av m.iv m.mv (m.ss ++ [Sg.mk k w 0]) m.gs m.xs m.ms) A P' (ns + 1) ng nx nm (np + 1) na :=
  h.sig v (s := Sg.mk k w 0) ⟨⟨by show 0 ≤ k; omega, by show k ≤ 3; omega⟩, hw, ⟨by show (0 : Int) ≤ 0; omega, by show (0 : Int) ≤ 15; omega⟩, fun h9 => absurd rfl h9⟩ (nPt_one _) (fun x => (hP x).trans ⟨fun hx => hx.imp id (fun h9 => ⟨by show k ≠ 0; omega, h9⟩), fun hx => hx.imp id (·.2)⟩)
theorem MI.asg {P' : List Int} (h : MI D m A P ns ng nx nm np na) (v : Value) {s : Int} (hs : s ∈ P) (ov : Value) {n : Int} {os : List Oq} (ho : ExP n 9 os) (hn : n ≤ m.ss.length) (hP : ∀ x, x ∈ P' ↔ x ∈ P ∧ x ≠ s) : MI D (Md.mk m.sv v m.iv m.mv m.ss (m.gs ++ [As.mk s ov os]) m.xs m.ms) A P' ns (ng + 1) nx nm np na :=
  ⟨h.b.assign v hs ov ((ho.1.ops (by have := ho.2.2; omega)).mono hn) hP, h.av, h.ns, by have := h.ng; show (m.gs ++ [As.mk s ov os]).length ≤ _; rw [List.length_append, List.length_singleton]; omega, h.nx, h.nm, h.np, h.na⟩
theorem MI.ist {P' : List Int} (h : MI D m A P ns ng nx nm np na) (v : Value) {x : Ix} (hx : ((0 ≤ x.m ∧ x.m < D.length) ∧ x.ps.length = (ptsK (D.getD x.m.toNat md0)).length) ∧ IxP D m x) (hn : (xoK D x).Nodup) (ho : ∀ y ∈ xoK D x, y ∈ P) (hP : ∀ y, y ∈ P' ↔ y ∈ P ∧ y ∉ xoK D x) : MI D (Md.mk m.sv m.av v m.mv m.ss m.gs (m.xs ++ [x]) m.ms) A P' ns ng (nx + 1) nm np na :=
  ⟨h.b.inst v hx hn ho hP, h.av, h.ns, h.ng, by have := h.nx; show (m.xs ++ [x]).length ≤ _; rw [List.length_append, List.length_singleton]; omega, h.nm, h.np, h.na⟩
theorem MI.fin (h : MI D m A [] ns ng nx nm np na) (h1 : ns ≤ 30) (h2 : ng ≤ 30) (h3 : nx ≤ 3) (h4 : nm ≤ 2) (h5 : np ≤ 4) : DmP D m := ⟨h.b, ⟨by have := h.ns; omega, by have := h.ng; omega, by have := h.nx; omega, by have := h.nm; omega⟩, by have := h.np; omega⟩
theorem MI.mm4 {R : List Int} (h : MI D m A R ns ng nx nm np na) (v v' : Value) {w : Int} (hw : 0 ≤ w ∧ w ≤ 4) :
    MI D (Md.mk v m.av m.iv v' (m.ss ++ [Sg.mk 2 2 0, Sg.mk 2 w 0, Sg.mk 2 1 0, Sg.mk 2 w 0]) m.gs m.xs (m.ms ++ [Mm.mk m.ss.length (m.ss.length + 1) (m.ss.length + 2) (m.ss.length + 3)])) (A ++ [(m.ss.length : Int) + 3]) (R ++ [(m.ss.length : Int), (m.ss.length : Int) + 1, (m.ss.length : Int) + 2]) (ns + 4) ng nx (nm + 1) np (na + 1) := by
  have hl4 : (m.ss ++ [Sg.mk 2 2 0, Sg.mk 2 w 0, Sg.mk 2 1 0, Sg.mk 2 w 0]).length = m.ss.length + 4 := by rw [List.length_append]; rfl
  have h1 : BldP D { m with sv := v, ss := m.ss ++ [Sg.mk 2 2 0, Sg.mk 2 w 0, Sg.mk 2 1 0, Sg.mk 2 w 0] } (R ++ [(m.ss.length : Int), (m.ss.length : Int) + 1, (m.ss.length : Int) + 2, (m.ss.length : Int) + 3]) := by
    refine h.b.app v (fun s hs => ?_) (fun x => ?_)
    · simp only [List.mem_cons, List.not_mem_nil, or_false] at hs
      rcases hs with rfl | rfl | rfl | rfl <;> exact sgP_mk ⟨by decide, by decide⟩ (by first | exact hw | decide) ⟨by decide, by decide⟩ (fun h9 => absurd rfl h9)
    · rw [List.mem_append]
      simp only [List.mem_cons, List.not_mem_nil, or_false]
      constructor
      · rintro (h9 | rfl | rfl | rfl | rfl)
        · exact .inl h9
        · exact .inr ⟨0, by simp, (show (2 : Int) ≠ 0 by decide), by omega⟩
        · exact .inr ⟨1, by simp, (show (2 : Int) ≠ 0 by decide), by omega⟩
        · exact .inr ⟨2, by simp, (show (2 : Int) ≠ 0 by decide), by omega⟩
        · exact .inr ⟨3, by simp, (show (2 : Int) ≠ 0 by decide), by omega⟩
      · rintro (h9 | ⟨j, hj, -, rfl⟩)
        · exact .inl h9
        · have hj4 : j < 4 := hj
          right
          rcases (by omega : j = 0 ∨ j = 1 ∨ j = 2 ∨ j = 3) with rfl | rfl | rfl | rfl <;> omega
  have hR : ∀ x ∈ R, x < (m.ss.length : Int) := fun x hx => (Inn_of (h.b.pn x hx)).2
  have hk : ∀ j : Nat, j < 4 → knd { m with sv := v, ss := m.ss ++ [Sg.mk 2 2 0, Sg.mk 2 w 0, Sg.mk 2 1 0, Sg.mk 2 w 0] } ((m.ss.length : Int) + (j : Int)) = 2 := fun j hj => by
    have hi : (0 : Int) ≤ (m.ss.length : Int) + (j : Int) ∧ (m.ss.length : Int) + (j : Int) < ((m.ss ++ [Sg.mk 2 2 0, Sg.mk 2 w 0, Sg.mk 2 1 0, Sg.mk 2 w 0]).length : Int) := by rw [hl4]; omega
    rw [zch hi]
    show ((m.ss ++ [Sg.mk 2 2 0, Sg.mk 2 w 0, Sg.mk 2 1 0, Sg.mk 2 w 0]).getD (((m.ss.length : Int) + (j : Int)).toNat) sg0).k = 2
    rw [show (((m.ss.length : Int) + (j : Int)).toNat) = m.ss.length + j by omega, gD_right]
    rcases (by omega : j = 0 ∨ j = 1 ∨ j = 2 ∨ j = 3) with rfl | rfl | rfl | rfl <;> rfl
  have h2 : BldP D { ({ m with sv := v, ss := m.ss ++ [Sg.mk 2 2 0, Sg.mk 2 w 0, Sg.mk 2 1 0, Sg.mk 2 w 0] } : Md) with mv := v', ms := m.ms ++ [Mm.mk m.ss.length (m.ss.length + 1) (m.ss.length + 2) (m.ss.length + 3)] } (R ++ [(m.ss.length : Int), (m.ss.length : Int) + 1, (m.ss.length : Int) + 2]) := by
    refine h1.mem v' (x := Mm.mk m.ss.length (m.ss.length + 1) (m.ss.length + 2) (m.ss.length + 3)) ⟨⟨⟨by show (0 : Int) ≤ m.ss.length; omega, by show _ < ((_ : Nat) : Int); rw [hl4]; show (m.ss.length : Int) < _; omega⟩, ⟨by show (0 : Int) ≤ m.ss.length + 1; omega, by show _ < ((_ : Nat) : Int); rw [hl4]; show (m.ss.length : Int) + 1 < _; omega⟩, ⟨by show (0 : Int) ≤ m.ss.length + 2; omega, by show _ < ((_ : Nat) : Int); rw [hl4]; show (m.ss.length : Int) + 2 < _; omega⟩⟩, .inr (hk 3 (by decide))⟩ (by show (m.ss.length : Int) + 3 ∈ _; simp) (fun y => ?_)
    show _ ↔ _ ∧ y ≠ (m.ss.length : Int) + 3
    simp only [List.mem_append, List.mem_cons, List.not_mem_nil, or_false]
    constructor
    · rintro (h9 | h9 | h9 | h9)
      · exact ⟨.inl h9, by have := hR y h9; omega⟩
      · exact ⟨.inr (.inl h9), by omega⟩
      · exact ⟨.inr (.inr (.inl h9)), by omega⟩
      · exact ⟨.inr (.inr (.inr (.inl h9))), by omega⟩
    · rintro ⟨h9 | h9 | h9 | h9 | h9, h8⟩
      · exact .inl h9
      · exact .inr (.inl h9)
      · exact .inr (.inr (.inl h9))
      · exact .inr (.inr (.inr h9))
      · exact absurd h9 h8
  refine ⟨h2, fun x hx => ?_, by show (m.ss ++ _).length ≤ _; rw [hl4]; have := h.ns; omega, h.ng, h.nx, by have := h.nm; show (m.ms ++ [_]).length ≤ _; rw [List.length_append, List.length_singleton]; omega, ?_, by have := h.na; rw [List.length_append, List.length_singleton]; omega⟩
  · show 0 ≤ x ∧ x < ((m.ss ++ [Sg.mk 2 2 0, Sg.mk 2 w 0, Sg.mk 2 1 0, Sg.mk 2 w 0]).length : Int)
    rw [hl4]
    rcases List.mem_append.1 hx with hx | hx
    · have := h.av x hx; omega
    · rw [List.mem_singleton] at hx; omega
  · show nPt (m.ss ++ [Sg.mk 2 2 0, Sg.mk 2 w 0, Sg.mk 2 1 0, Sg.mk 2 w 0]) ≤ _
    rw [nPt_app, show ([Sg.mk 2 2 0, Sg.mk 2 w 0, Sg.mk 2 1 0, Sg.mk 2 w 0] : List Sg) = [Sg.mk 2 2 0] ++ ([Sg.mk 2 w 0] ++ ([Sg.mk 2 1 0] ++ [Sg.mk 2 w 0])) from rfl, nPt_app, nPt_app, nPt_app]
    have n1 : nPt [Sg.mk 2 2 0] = 0 := nPt_mk ⟨by decide, by decide⟩
    have n2 : nPt [Sg.mk 2 w 0] = 0 := nPt_mk ⟨by decide, by decide⟩
    have n3 : nPt [Sg.mk 2 1 0] = 0 := nPt_mk ⟨by decide, by decide⟩
    have := h.np; omega
theorem pend3 {R : List Int} {b : Int} (hR : ∀ x ∈ R, x < b) {j : Nat} (hj : j < 3) : (b + (j : Int)) ∈ R ++ ([b, b + 1, b + 2] : List Int).drop j ∧ ∀ x, x ∈ R ++ ([b, b + 1, b + 2] : List Int).drop (j + 1) ↔ x ∈ R ++ ([b, b + 1, b + 2] : List Int).drop j ∧ x ≠ b + (j : Int) := by
  rcases (by omega : j = 0 ∨ j = 1 ∨ j = 2) with rfl | rfl | rfl <;> refine ⟨by simp, fun x => ?_⟩ <;> simp only [List.mem_append, List.drop_succ_cons, List.drop_zero, List.mem_cons, List.not_mem_nil, or_false] <;> constructor
  · rintro (h | h | h)
    · exact ⟨.inl h, by have := hR x h; omega⟩
    · exact ⟨.inr (.inr (.inl h)), by omega⟩
    · exact ⟨.inr (.inr (.inr h)), by omega⟩
  · rintro ⟨h | h | h | h, h8⟩
    · exact .inl h
    · exact absurd h (by omega)
    · exact .inr (.inl h)
    · exact .inr (.inr h)
  · rintro (h | h)
    · exact ⟨.inl h, by have := hR x h; omega⟩
    · exact ⟨.inr (.inr h), by omega⟩
  · rintro ⟨h | h | h, h8⟩
    · exact .inl h
    · exact absurd h (by omega)
    · exact .inr h
  · intro h; exact ⟨.inl h, by have := hR x h; omega⟩
  · rintro ⟨h | h, h8⟩
    · exact h
    · exact absurd h (by omega)
theorem pendR {R : List Int} (hR : R.Pairwise (· < ·)) {k : Nat} (hk : k < R.length) : R.getD k 0 ∈ R.drop k ∧ ∀ x, x ∈ R.drop (k + 1) ↔ x ∈ R.drop k ∧ x ≠ R.getD k 0 := by
  have e : R.drop k = R.getD k 0 :: R.drop (k + 1) := by
    rw [List.drop_eq_getElem_cons hk, List.getD_eq_getElem?_getD, List.getElem?_eq_getElem hk]; rfl
  have hp : (R.drop k).Pairwise (· < ·) := hR.sublist (List.drop_sublist _ _)
  rw [e] at hp ⊢
  rw [List.pairwise_cons] at hp
  refine ⟨List.mem_cons_self, fun x => ⟨fun h => ⟨List.mem_cons_of_mem _ h, by have := hp.1 x h; omega⟩, fun ⟨h1, h2⟩ => ?_⟩⟩
  rcases List.mem_cons.1 h1 with h | h
  · exact absurd h h2
  · exact h
theorem asc_app {R : List Int} {b : Int} (h : R.Pairwise (· < ·)) (hb : ∀ x ∈ R, x < b) : (R ++ [b]).Pairwise (· < ·) := by
  rw [List.pairwise_append]
  exact ⟨h, List.pairwise_singleton _ _, fun x hx y hy => by rw [List.mem_singleton] at hy; subst hy; exact hb x hx⟩
theorem asc_nd {R : List Int} (h : R.Pairwise (· < ·)) : R.Nodup := h.imp (fun h9 => by omega)
theorem lit4 {x : Int} {L : List Int} (h : x ∈ L) (hL : L.all (fun y => decide (0 ≤ y ∧ y ≤ 4)) = true) : 0 ≤ x ∧ x ≤ 4 := of_decide_eq_true (List.all_eq_true.1 hL x h)
theorem lit12 {x : Int} (h : x ∈ ([1, 2] : List Int)) : x = 1 ∨ x = 2 := by simpa using h
theorem setK_last {l : List Sg} {k w i : Int} {q : Nat} (hq : q = l.length) : (l ++ [Sg.mk k w i]).set q { (l ++ [Sg.mk k w i]).getD q sg0 with k := 1 } = l ++ [Sg.mk 1 w i] := by
  subst hq; rw [gD_last]; simp
theorem xoA_take {D : List Md} {a b : Ix} (hm : a.m = b.m) : ∀ j, (∀ q, q < j → a.ps.getD q 0 = b.ps.getD q 0) → xoA D a j = xoA D b j
  | 0, _ => rfl
  | j + 1, h => by unfold xoA; rw [xoA_take hm j (fun q hq => h q (by omega)), h j (by omega), hm]
structure IjP (D : List Md) (q : Md) (xm : Int) (b : Nat) (ps os : List Int) (j : Nat) : Prop where
  len : ps.length = j
  wr : ∀ i, i < j → knd q (ps.getD i 0) = 2
  oq : os = xoA D (Ix.mk xm 0 (.slice none 0 0) ps) j
  asc : os.Pairwise (· < ·)
  lo : ∀ y ∈ os, (b : Int) ≤ y
  hi : ∀ y ∈ os, y < (q.ss.length : Int)
  bl : b ≤ q.ss.length
theorem IjP.start (D : List Md) (q : Md) (xm : Int) : IjP D q xm q.ss.length [] [] 0 := ⟨rfl, fun i hi => absurd hi (by omega), rfl, .nil, fun y hy => (by cases hy), fun y hy => (by cases hy), Nat.le_refl _⟩
theorem xoA_ps {D : List Md} {xm : Int} {ps : List Int} {x : Int} {j : Nat} (hl : ps.length = j) : xoA D (Ix.mk xm 0 (.slice none 0 0) (ps ++ [x])) j = xoA D (Ix.mk xm 0 (.slice none 0 0) ps) j :=
  xoA_take (a := Ix.mk xm 0 (.slice none 0 0) (ps ++ [x])) (b := Ix.mk xm 0 (.slice none 0 0) ps) rfl j (fun q hq => by show (ps ++ [x]).getD q 0 = ps.getD q 0; rw [zew (by omega)])
theorem knd_app {q q' : Md} {w : Int} (hs : q'.ss = q.ss ++ [Sg.mk 2 w 0]) {x : Int} (hx : knd q x = 2) : knd q' x = 2 := by
  have hi : Inn q x := Inn_of (by omega)
  rw [← hx]
  exact Ext.knd ⟨by rw [hs, List.length_append]; omega, fun i hi => by rw [hs, zew hi]⟩ hi
theorem knd_last {q q' : Md} {w : Int} (hs : q'.ss = q.ss ++ [Sg.mk 2 w 0]) : knd q' (q.ss.length : Int) = 2 := by
  rw [zch ⟨by omega, by rw [hs, List.length_append, List.length_singleton]; omega⟩, hs, Int.toNat_natCast, gD_last]
theorem IjP.out {D : List Md} {q : Md} {xm : Int} {b j : Nat} {ps os : List Int} (h : IjP D q xm b ps os j) {q' : Md} {w : Int} (hs : q'.ss = q.ss ++ [Sg.mk 2 w 0]) (hk : knd (D.getD xm.toNat md0) ((ptsK (D.getD xm.toNat md0)).getD j 0) = 1) : IjP D q' xm b (ps ++ [(q.ss.length : Int)]) (os ++ [(q.ss.length : Int)]) (j + 1) := by
  have hl : q'.ss.length = q.ss.length + 1 := by rw [hs, List.length_append, List.length_singleton]
  refine ⟨by rw [List.length_append, List.length_singleton, h.len], fun i hi => ?_, ?_, asc_app h.asc h.hi, fun y hy => ?_, fun y hy => ?_, by have := h.bl; omega⟩
  · by_cases e : i < j
    · rw [zew (by rw [h.len]; exact e)]; exact knd_app hs (h.wr i e)
    · obtain rfl : i = ps.length := by rw [h.len]; omega
      rw [gD_last]; exact knd_last hs
  · show _ = xoA D (Ix.mk xm 0 (.slice none 0 0) (ps ++ [(q.ss.length : Int)])) j ++ (if _ then _ else _)
    rw [if_pos hk, xoA_ps h.len, ← h.oq]
    show _ = os ++ [(ps ++ [(q.ss.length : Int)]).getD j 0]
    rw [← h.len, gD_last]
  · rcases List.mem_append.1 hy with hy | hy
    · exact h.lo y hy
    · rw [List.mem_singleton] at hy; have := h.bl; omega
  · rcases List.mem_append.1 hy with hy | hy
    · have := h.hi y hy; omega
    · rw [List.mem_singleton] at hy; omega
theorem IjP.inn {D : List Md} {q : Md} {xm : Int} {b j : Nat} {ps os : List Int} (h : IjP D q xm b ps os j) {q' : Md} {w : Int} (hs : q'.ss = q.ss ++ [Sg.mk 2 w 0]) (hk : knd (D.getD xm.toNat md0) ((ptsK (D.getD xm.toNat md0)).getD j 0) ≠ 1) : IjP D q' xm b (ps ++ [(q.ss.length : Int)]) os (j + 1) := by
  have hl : q'.ss.length = q.ss.length + 1 := by rw [hs, List.length_append, List.length_singleton]
  refine ⟨by rw [List.length_append, List.length_singleton, h.len], fun i hi => ?_, ?_, h.asc, h.lo, fun y hy => by have := h.hi y hy; omega, by have := h.bl; omega⟩
  · by_cases e : i < j
    · rw [zew (by rw [h.len]; exact e)]; exact knd_app hs (h.wr i e)
    · obtain rfl : i = ps.length := by rw [h.len]; omega
      rw [gD_last]; exact knd_last hs
  · show _ = xoA D (Ix.mk xm 0 (.slice none 0 0) (ps ++ [(q.ss.length : Int)])) j ++ (if _ then _ else _)
    rw [if_neg hk, xoA_ps h.len, ← h.oq, List.append_nil]
theorem MI.done {R ps os : List Int} {q : Md} {xm xp : Int} {b : Nat} (h : MI D q A (R ++ os) ns ng nx nm np na) (v pv : Value) (hj : IjP D q xm b ps os (ptsK (D.getD xm.toNat md0)).length) (hm : 0 ≤ xm ∧ xm < D.length) (hp : 0 ≤ xp ∧ xp ≤ 4) (hR : ∀ x ∈ R, x < (b : Int)) {e : Nat} (he : os.length ≤ e) :
    MI D (Md.mk q.sv q.av v q.mv q.ss q.gs (q.xs ++ [Ix.mk xm xp pv ps]) q.ms) (A ++ os) R ns ng (nx + 1) nm np (na + e) := by
  have hx : xoK D (Ix.mk xm xp pv ps) = os := by
    rw [hj.oq]; exact xoA_take (a := Ix.mk xm xp pv ps) (b := Ix.mk xm 0 (.slice none 0 0) ps) rfl _ (fun q hq => rfl)
  have hw : ∀ i, i < (ptsK (D.getD xm.toNat md0)).length → Drv q (ps.getD i 0) := fun i hi => .inr (hj.wr i hi)
  refine MI.avl (m := Md.mk q.sv q.av v q.mv q.ss q.gs (q.xs ++ [Ix.mk xm xp pv ps]) q.ms) (h.ist v (x := Ix.mk xm xp pv ps) ⟨⟨hm, hj.len⟩, hp, fun i hi => ⟨(hw i hi).inn, fun _ => hw i hi⟩⟩ (by rw [hx]; exact asc_nd hj.asc) (fun y hy => by rw [hx] at hy; exact List.mem_append_right _ hy) (fun y => ?_)) (fun x hx9 => ⟨by have := hj.lo x hx9; omega, hj.hi x hx9⟩) he
  rw [hx, List.mem_append]
  exact ⟨fun h9 => ⟨.inl h9, fun h8 => by have h1 := hj.lo y h8; have h2 := hR y h9; omega⟩, fun ⟨h9, h8⟩ => h9.resolve_right h8⟩
theorem mem_app1 {R O : List Int} {b : Int} : ∀ x, x ∈ R ++ (O ++ [b]) ↔ x ∈ R ++ O ∨ x = b := fun x => by simp [or_assoc]
theorem mem_app2 {R : List Int} {b : Int} : ∀ x, x ∈ R ++ [b] ↔ x ∈ R ∨ x = b := fun x => by simp
theorem mem_less {R : List Int} {b : Int} (h : ∀ x ∈ R, x < b) : ∀ x, x ∈ R ↔ x ∈ R ++ [b] ∧ x ≠ b := fun x => by
  rw [List.mem_append, List.mem_singleton]
  exact ⟨fun h9 => ⟨.inl h9, by have := h x h9; omega⟩, fun ⟨h9, h8⟩ => h9.resolve_right h8⟩
theorem MI.plt (h : MI D m A P ns ng nx nm np na) : ∀ x ∈ P, x < (m.ss.length : Int) := fun x hx => (Inn_of (h.b.pn x hx)).2
end
theorem built_ix (x0 : Int) (x1 : Int) (x2 : Value) (h2 : x2.oneCell' = true) : Try.prog.built 63 [(0, .int .i64 x0), (1, .int .i64 x1), (2, x2)] = some #[.int .i64 x0, .int .i64 x1, x2] := by
  (cases x2 <;> first | (exact absurd h2 Bool.false_ne_true) | kernel_rfl)
end Go.Proofs.Ytodiifjigjnalaa
