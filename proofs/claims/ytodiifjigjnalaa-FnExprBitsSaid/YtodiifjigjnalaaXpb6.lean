/- Texts of the law FnExprBits, part 6: what it uses. -/
import Derived.Test.YtodiifjigjnalaaXpb5
set_option linter.unusedVariables false
set_option linter.unusedSimpArgs false
set_option maxHeartbeats 4000000
set_option maxRecDepth 100000
namespace Go.Proofs.Ytodiifjigjnalaa
open Go.RowKit Go.ChangeShapes
open Go.RowKit
theorem l04Expr_step (g : Nat) (a : Option Addr) (len cap : Nat) (z : List Int) (n : Int) (u : Value) (A : List Int) (M : Int) (w0 : World) (l : List HP) (w : World) (hm0 : Mem w0 (curE g a len cap :: l) w) (hb : BRow .u8 w0 a len cap z) (hu : Rd w0 l u 1 A.length (A.map (Value.int .i64))) (hA : ∀ x ∈ A, 0 ≤ x ∧ x < n) (hAl : A.length ≤ 100) (hM : 1 ≤ M ∧ M ≤ 15) (IH : ∀ (q : Int), 1 ≤ q → q < M → ∀ (l2 : List HP) (w2 : World), Mem w0 (curE g a len cap :: l2) w2 → Rd w0 l2 u 1 A.length (A.map (Value.int .i64)) → Calls Try.prog 86 #[.pointer (some ⟨g, 0, none⟩), u, .int .i64 (q)] w2 (fun e_ w_ => ∃ v_ p_, e_ = .returned v_ ∧ (fun u_ p_ => ∃ os : List Oq, p_ = bigE [curE g a len cap, rS9 97 3 u_ os oqC] ∧ ExP n q os) v_ p_ ∧ Mem w0 (p_ :: l2) w_)) :
   Calls Try.prog 86 #[.pointer (some ⟨g, 0, none⟩), u, .int .i64 M] w (fun e_ w_ => ∃ v_ p_, e_ = .returned v_ ∧ (fun u_ p_ => ∃ os : List Oq, p_ = bigE [curE g a len cap, rS9 97 3 u_ os oqC] ∧ ExP n M os) v_ p_ ∧ Mem w0 (p_ :: l) w_) := by
 refine zdk (N := 85) (args := [.pointer (some ⟨g, 0, none⟩), u, .int .i64 M]) Try.func86 rfl rfl hm0 (zbn 1 rfl (zac (zac (reQ 1 rfl ?_))))
 refine zcb rfl rfl rfl rfl rfl rfl (fun h1 => ?_) (fun h1 => ?_)
 ·
  refine zbc 4 rfl (zaj rfl (zac (zac (reQ 1 rfl ?_))))
  refine zch (R := (fun u_ p_ => (∃ x_ : Int, u_ = .int .i64 x_ ∧ 0 ≤ x_ ∧ x_ < 8) ∧ p_ = curE g a len cap)) 0 rfl rfl rfl rfl rfl (fun l' w hm => zbv g a len cap z 8 _ _ _ hm hb (by constructor <;> omega)) ?_
  intro v2 p3 hR4
  obtain ⟨⟨xhR4, rfl, xhR40, xhR41⟩, rfl⟩ := hR4
  refine zck (l' := (curE g a len cap :: l)) rfl ?_
  refine ntQ (zbf (srQ ?_))
  refine zbj rfl rfl rfl rfl rfl rfl (fun h5 => ?_) (fun h5 => ?_)
  ·
   refine zbc 1 rfl (zaj rfl (zac (reQ 1 rfl ?_)))
   refine zch (R := (fun u_ p_ => (∃ x_ : Int, u_ = .int .i64 x_ ∧ 0 ≤ x_ ∧ x_ < 16) ∧ p_ = curE g a len cap)) 0 rfl rfl rfl rfl rfl (fun l' w hm => zbv g a len cap z 16 _ _ _ hm hb (by constructor <;> omega)) ?_
   intro v6 p7 hR8
   obtain ⟨⟨xhR8, rfl, xhR80, xhR81⟩, rfl⟩ := hR8
   refine zck (l' := (curE g a len cap :: l)) rfl ?_
   refine hvQ rfl (zct (cs := #[.int .i64 0, .int .i64 xhR8, .int .i64 0]) rfl rfl rfl) (zey rfl (zas (z := .agg #[.int .i64 0, .int .i64 0, .int .i64 0]) (s := 3) (cs := ([0, xhR8, 0].map (Value.int .i64))) rfl Try.underlying71 rfl (by decide) rfl (by kernel_rfl) rfl) ?_)
   intro g9
   refine zbc 1 rfl ?_
   refine zak (zaf ?_)
   refine zfv ?_
   refine zaz 2 [0, 1] rfl rfl (by decide) ?_
   refine zbk 2 rfl ?_
   exact zcf (rs := [.tmp 6]) (vs := [.slice (some ⟨g9, 0, none⟩) 1 1]) rfl ⟨rfl, trivial⟩ rfl (fun w hm => ⟨_, bigE [curE g a len cap, rowE 97 3 (.slice (some ⟨g9, 0, none⟩) 1 1) 1 ([0, xhR8, 0].map (Value.int .i64))], rfl, ⟨[Oq.mk 0 xhR8 0], rfl, zdm (by first | exact .inl ⟨rfl, ⟨by dsimp only; omega, by dsimp only; omega⟩, rfl⟩ | exact .inr (.inl ⟨rfl, ⟨by dsimp only; omega, by dsimp only; omega⟩, rfl⟩) | exact .inr (.inr (.inl ⟨rfl, ⟨by dsimp only; omega, by dsimp only; omega⟩, by dsimp only; omega, by dsimp only; omega⟩)) | exact .inr (.inr (.inr ⟨by decide, by decide, by decide, by decide, rfl, rfl⟩))) rfl (by omega)⟩, hm.sub (.refl _)⟩)
  refine zbc 1 rfl (zal rfl (srQ ?_))
  refine zbj rfl rfl rfl rfl rfl rfl (fun h10 => ?_) (fun h10 => ?_)
  ·
   refine zbc 1 rfl (zaj rfl (zac (reQ 1 rfl ?_)))
   refine zch (R := (fun u_ p_ => (∃ b : Bool, u_ = .bool b) ∧ p_ = curE g a len cap)) 0 rfl rfl rfl rfl rfl (fun l' w hm => zgl hm hb (3) (by omega) (by omega)) ?_
   intro v11 p12 hR13
   obtain ⟨⟨xhR13, rfl⟩, rfl⟩ := hR13
   refine zck (l' := (curE g a len cap :: l)) rfl ?_
   refine zbz (fun h14 => ?_) (fun h14 => ?_)
   ·
    refine ntQ (zaj rfl (srQ (hvQ rfl (zct (cs := #[.int .i64 1, .int .i64 0, .int .i64 0]) rfl rfl rfl) ?_)))
    refine zey rfl (zas (z := .agg #[.int .i64 0, .int .i64 0, .int .i64 0]) (s := 3) (cs := ([1, 0, 0].map (Value.int .i64))) rfl Try.underlying71 rfl (by decide) rfl (by kernel_rfl) rfl) ?_
    intro g15
    refine zbc 1 rfl ?_
    refine zak (zaf ?_)
    refine zfv ?_
    refine zaz 2 [0, 1] rfl rfl (by decide) ?_
    refine zbk 2 rfl ?_
    exact zcf (rs := [.tmp 6]) (vs := [.slice (some ⟨g15, 0, none⟩) 1 1]) rfl ⟨rfl, trivial⟩ rfl (fun w hm => ⟨_, bigE [curE g a len cap, rowE 97 3 (.slice (some ⟨g15, 0, none⟩) 1 1) 1 ([1, 0, 0].map (Value.int .i64))], rfl, ⟨[Oq.mk 1 0 0], rfl, zdm (by first | exact .inl ⟨rfl, ⟨by dsimp only; omega, by dsimp only; omega⟩, rfl⟩ | exact .inr (.inl ⟨rfl, ⟨by dsimp only; omega, by dsimp only; omega⟩, rfl⟩) | exact .inr (.inr (.inl ⟨rfl, ⟨by dsimp only; omega, by dsimp only; omega⟩, by dsimp only; omega, by dsimp only; omega⟩)) | exact .inr (.inr (.inr ⟨by decide, by decide, by decide, by decide, rfl, rfl⟩))) rfl (by omega)⟩, hm.sub (.refl _)⟩)
   refine ntQ (fsQ rfl (zdn (zac (zac (reQ 1 rfl ?_)))))
   refine hvQ rfl (lnQ rfl rfl rfl (fun w hm => hu w (hm.sub (.cons _ (.refl _))))) (zbj rfl rfl rfl rfl rfl rfl (fun h16 => ?_) (fun h16 => ?_))
   ·
    refine ntQ (zaj rfl (srQ (hvQ rfl (zct (cs := #[.int .i64 0, .int .i64 1, .int .i64 0]) rfl rfl rfl) ?_)))
    refine zey rfl (zas (z := .agg #[.int .i64 0, .int .i64 0, .int .i64 0]) (s := 3) (cs := ([0, 1, 0].map (Value.int .i64))) rfl Try.underlying71 rfl (by decide) rfl (by kernel_rfl) rfl) ?_
    intro g17
    refine zbc 1 rfl ?_
    refine zak (zfv ?_)
    refine zaz 2 [0, 1] rfl rfl (by decide) ?_
    refine zbk 2 rfl ?_
    exact zcf (rs := [.tmp 6]) (vs := [.slice (some ⟨g17, 0, none⟩) 1 1]) rfl ⟨rfl, trivial⟩ rfl (fun w hm => ⟨_, bigE [curE g a len cap, rowE 97 3 (.slice (some ⟨g17, 0, none⟩) 1 1) 1 ([0, 1, 0].map (Value.int .i64))], rfl, ⟨[Oq.mk 0 1 0], rfl, zdm (by first | exact .inl ⟨rfl, ⟨by dsimp only; omega, by dsimp only; omega⟩, rfl⟩ | exact .inr (.inl ⟨rfl, ⟨by dsimp only; omega, by dsimp only; omega⟩, rfl⟩) | exact .inr (.inr (.inl ⟨rfl, ⟨by dsimp only; omega, by dsimp only; omega⟩, by dsimp only; omega, by dsimp only; omega⟩)) | exact .inr (.inr (.inr ⟨by decide, by decide, by decide, by decide, rfl, rfl⟩))) rfl (by omega)⟩, hm.sub (.refl _)⟩)
   refine ntQ (zal rfl (zdb (zac (reQ 3 rfl ?_))))
   refine hvQ rfl (lnQ rfl rfl rfl (fun w hm => hu w (hm.sub (.cons _ (.refl _))))) (zch (R := (fun u_ p_ => (∃ x_ : Int, u_ = .int .i64 x_ ∧ 0 ≤ x_ ∧ x_ < (A.length : Int)) ∧ p_ = curE g a len cap)) 0 rfl rfl rfl rfl rfl (fun l' w hm => zbv g a len cap z (A.length : Int) _ _ _ hm hb (by constructor <;> omega)) ?_)
   intro v18 p19 hR20
   obtain ⟨⟨xhR20, rfl, xhR200, xhR201⟩, rfl⟩ := hR20
   refine zck (l' := (curE g a len cap :: l)) rfl ?_
   refine hvQ rfl (riQ 1 rfl rfl rfl rfl (fun w hm => hu w (hm.sub (.cons _ (.refl _))))) (hvQ rfl (lzQ rfl rfl rfl (fun w hm => hu w (hm.sub (.cons _ (.refl _))))) ?_)
   refine hvQ rfl (zct (cs := #[.int .i64 2, .int .i64 (A.getD ((xhR20).toNat) 0), .int .i64 0]) rfl rfl rfl) (zey rfl (zas (z := .agg #[.int .i64 0, .int .i64 0, .int .i64 0]) (s := 3) (cs := ([2, A.getD ((xhR20).toNat) 0, 0].map (Value.int .i64))) rfl Try.underlying71 rfl (by decide) rfl (by kernel_rfl) rfl) ?_)
   intro g21
   refine zbc 1 rfl ?_
   refine zak (zad ?_)
   have hA8 := hA _ (zbd (d := (0 : Int)) (show xhR20.toNat < A.length by omega))
   refine zaz 2 [0, 1] rfl rfl (by decide) ?_
   refine zbk 2 rfl ?_
   exact zcf (rs := [.tmp 6]) (vs := [.slice (some ⟨g21, 0, none⟩) 1 1]) rfl ⟨rfl, trivial⟩ rfl (fun w hm => ⟨_, bigE [curE g a len cap, rowE 97 3 (.slice (some ⟨g21, 0, none⟩) 1 1) 1 ([2, A.getD ((xhR20).toNat) 0, 0].map (Value.int .i64))], rfl, ⟨[Oq.mk 2 (A.getD ((xhR20).toNat) 0) 0], rfl, zdm (by first | exact .inl ⟨rfl, ⟨by dsimp only; omega, by dsimp only; omega⟩, rfl⟩ | exact .inr (.inl ⟨rfl, ⟨by dsimp only; omega, by dsimp only; omega⟩, rfl⟩) | exact .inr (.inr (.inl ⟨rfl, ⟨by dsimp only; omega, by dsimp only; omega⟩, by dsimp only; omega, by dsimp only; omega⟩)) | exact .inr (.inr (.inr ⟨by decide, by decide, by decide, by decide, rfl, rfl⟩))) rfl (by omega)⟩, hm.sub (.refl _)⟩)
  refine zbc 1 rfl (zal rfl (zgk ?_))
  refine zbj rfl rfl rfl rfl rfl rfl (fun h22 => ?_) (fun h22 => ?_)
  ·
   refine zbc 1 rfl (zaj rfl (zdb (zaj rfl (zac (reQ 1 rfl ?_)))))
   refine hvQ rfl (lnQ rfl rfl rfl (fun w hm => hu w (hm.sub (.cons _ (.refl _))))) (zeq rfl rfl rfl rfl rfl rfl (fun h23 => ?_) (fun h23 => ?_))
   ·
    refine ntQ (zaj rfl (zac ?_))
    refine zdi (l := (l)) rfl 11 [0, 1, 2, 3, 4, 5, 6, 7, 8, 9, 10] (List.take 11 _) (List.drop 11 _) [[], [], [], [2], [1, 3], [0, 4], [4, 5], [], [4, 7], [4, 6, 8], [4, 8, 9]] [37, 38, 39, 40, 41, 42, 43, 44, 45, 46, 47] (fun i_ vs_ v_ p_ => match i_ with | 0 => v_ = u ∧ p_ = [] | 1 => v_ = .pointer (some ⟨g, 0, none⟩) ∧ p_ = [] | 2 => v_ = u ∧ p_ = [] | 3 => v_ = .int .i64 (A.length : Int) ∧ p_ = [] | 4 => (∃ pm_, p_ = [pm_] ∧ (fun u_ p_ => (∃ x_ : Int, u_ = .int .i64 x_ ∧ 0 ≤ x_ ∧ x_ < (A.length : Int)) ∧ p_ = curE g a len cap) v_ pm_) | 5 => v_ = elP u (((intOf_o (gV9 vs_ 1))).toNat * 1) ∧ p_ = [] | 6 => v_ = .int .i64 (A.getD (((intOf_o (gV9 vs_ 0))).toNat) 0) ∧ p_ = [] | 7 => v_ = .pointer (some ⟨g, 0, none⟩) ∧ p_ = [] | 8 => (∃ pm_, p_ = [pm_] ∧ (fun u_ p_ => (∃ x_ : Int, u_ = .int .i64 x_ ∧ 0 ≤ x_ ∧ x_ < 2) ∧ p_ = curE g a len cap) v_ pm_) | 9 => v_ = .agg #[.int .i64 3, .int .i64 (A.getD (((intOf_o (gV9 vs_ 0))).toNat) 0), .int .i64 (intOf_o (gV9 vs_ 2))] ∧ p_ = [] | 10 => IsRow 97 3 1 ([3, A.getD (((intOf_o (gV9 vs_ 0))).toNat) 0, (intOf_o (gV9 vs_ 1))].map (Value.int .i64)) v_ p_ | _ => True) [[], [], [], [2], [1, 3], [0], [5], [], [7], [6, 8], [8, 9]] [none, none, none, none, some 12, none, none, none, some 4, none, none] [curE g a len cap] [0, 1, 2, 3, 5, 6, 7, 8, 9, 10] 12 (List.take_append_drop 11 _).symm (by kernel_rfl) (by kernel_rfl) (by kernel_rfl) rfl rfl ?_ ?_
    ·
     refine ⟨?_, ?_, ?_, ?_, ?_, ?_, ?_, ?_, ?_, ?_, ?_, trivial⟩
     ·
      intro vf pf hmu hR
      refine dqQ [] [] rfl (zay (zae [1] rfl) ?_)
      exact zbi (zax rfl)
     ·
      intro vf pf hmu hR
      refine dqQ [] [] rfl (zay (zae [0] rfl) ?_)
      exact zbi (zax rfl)
     ·
      intro vf pf hmu hR
      refine dqQ [] [] rfl (zay (zae [1] rfl) ?_)
      exact zbi (zax rfl)
     ·
      intro vf pf hmu hR
      have e2 := hR 2 (by decide)
      refine dqQ [2] [2] rfl (zaq (sk 39 (congrArg some e2.1) (zab _)) (List.sublist_append_right _ _) ?_)
      exact zbi (lnQ rfl rfl rfl (fun w hm => hu w (hm.sub (.refl _))))
     ·
      intro vf pf hmu hR
      have e1 := hR 1 (by decide)
      have e3 := hR 3 (by decide)
      refine Or.inl ⟨rfl, ?_⟩
      show RunM _ _ _ (pf 12) (([1, 3] : List Nat).flatMap pf ++ _) (envOf _ vf [1, 3] ++ _) _ _
      rw [hmu]
      exact zbx (sk 38 (congrArg some e1.1) (sk 40 (congrArg some e3.1) (zab _))) (by simp only [e1.2, e3.2, fS] <;> rfl) (zcn (R := (fun u_ p_ => (∃ x_ : Int, u_ = .int .i64 x_ ∧ 0 ≤ x_ ∧ x_ < (A.length : Int)) ∧ p_ = curE g a len cap)) rfl rfl (fun L w hX hm => zbv g a len cap z (A.length : Int) _ _ _ hm hb (by constructor <;> omega)))
     ·
      intro vf pf hmu hR
      have e0 := hR 0 (by decide)
      have e4 : (∃ pm_, (pf 4) = [pm_] ∧ (fun u_ p_ => (∃ x_ : Int, u_ = .int .i64 x_ ∧ 0 ≤ x_ ∧ x_ < (A.length : Int)) ∧ p_ = curE g a len cap) (vf 4) pm_) := hR 4 (by decide)
      obtain ⟨p25, pE4, hR26⟩ := e4
      obtain ⟨v24, vE4⟩ : ∃ x, vf 4 = x := ⟨_, rfl⟩
      rw [vE4] at hR26
      obtain ⟨⟨xhR26, rfl, xhR260, xhR261⟩, rfl⟩ := hR26
      refine dqQ [0] [0, 4] rfl (zaq (sk 37 (congrArg some e0.1) (sk 41 (congrArg some vE4) (zab _))) (List.sublist_append_right _ _) ?_)
      exact zbo (zbi (riQ 1 rfl rfl rfl rfl (fun w hm => hu w (hm.sub (.refl _))))) (fun _ _ h => ⟨h.1.trans (by show _ = (elP u (((intOf_o (vf 4))).toNat * 1) : Value); first | (rw [vE4]; done) | (rw [vE4]; rfl)), h.2⟩)
     ·
      intro vf pf hmu hR
      have e4 : (∃ pm_, (pf 4) = [pm_] ∧ (fun u_ p_ => (∃ x_ : Int, u_ = .int .i64 x_ ∧ 0 ≤ x_ ∧ x_ < (A.length : Int)) ∧ p_ = curE g a len cap) (vf 4) pm_) := hR 4 (by decide)
      obtain ⟨p25, pE4, hR26⟩ := e4
      obtain ⟨v24, vE4⟩ : ∃ x, vf 4 = x := ⟨_, rfl⟩
      rw [vE4] at hR26
      obtain ⟨⟨xhR26, rfl, xhR260, xhR261⟩, rfl⟩ := hR26
      have e5 : (vf 5) = elP u (((intOf_o (vf 4))).toNat * 1) ∧ (pf 5) = [] := hR 5 (by decide)
      rw [vE4] at e5; try simp only [intOf_o] at e5
      refine dqQ [5] [4, 5] rfl (zaq (sk 42 (congrArg some e5.1) (zab _)) (List.sublist_append_right _ _) ?_)
      exact zbo (zbi (lzQ rfl rfl rfl (fun w hm => hu w (hm.sub (.refl _))))) (fun _ _ h => ⟨h.1.trans (by show _ = (.int .i64 (A.getD (((intOf_o (vf 4))).toNat) 0) : Value); first | (rw [vE4]; done) | (rw [vE4]; rfl)), h.2⟩)
     ·
      intro vf pf hmu hR
      refine dqQ [] [] rfl (zay (zae [0] rfl) ?_)
      exact zbi (zax rfl)
     ·
      intro vf pf hmu hR
      have e4 : (∃ pm_, (pf 4) = [pm_] ∧ (fun u_ p_ => (∃ x_ : Int, u_ = .int .i64 x_ ∧ 0 ≤ x_ ∧ x_ < (A.length : Int)) ∧ p_ = curE g a len cap) (vf 4) pm_) := hR 4 (by decide)
      obtain ⟨p25, pE4, hR26⟩ := e4
      obtain ⟨v24, vE4⟩ : ∃ x, vf 4 = x := ⟨_, rfl⟩
      rw [vE4] at hR26
      obtain ⟨⟨xhR26, rfl, xhR260, xhR261⟩, rfl⟩ := hR26
      have e7 := hR 7 (by decide)
      refine Or.inl ⟨rfl, ?_⟩
      show RunM _ _ _ (pf 4) (([7] : List Nat).flatMap pf ++ _) (envOf _ vf [4, 7] ++ _) _ _
      rw [pE4]
      exact zbx (sk 44 (congrArg some e7.1) (zab _)) (by simp only [e7.2, fS] <;> rfl) (zcn (R := (fun u_ p_ => (∃ x_ : Int, u_ = .int .i64 x_ ∧ 0 ≤ x_ ∧ x_ < 2) ∧ p_ = curE g a len cap)) rfl rfl (fun L w hX hm => zbv g a len cap z 2 _ _ _ hm hb (by constructor <;> omega)))
     ·
      intro vf pf hmu hR
      have e4 : (∃ pm_, (pf 4) = [pm_] ∧ (fun u_ p_ => (∃ x_ : Int, u_ = .int .i64 x_ ∧ 0 ≤ x_ ∧ x_ < (A.length : Int)) ∧ p_ = curE g a len cap) (vf 4) pm_) := hR 4 (by decide)
      obtain ⟨p25, pE4, hR26⟩ := e4
      obtain ⟨v24, vE4⟩ : ∃ x, vf 4 = x := ⟨_, rfl⟩
      rw [vE4] at hR26
      obtain ⟨⟨xhR26, rfl, xhR260, xhR261⟩, rfl⟩ := hR26
      have e6 : (vf 6) = .int .i64 (A.getD (((intOf_o (vf 4))).toNat) 0) ∧ (pf 6) = [] := hR 6 (by decide)
      rw [vE4] at e6; try simp only [intOf_o] at e6
      have e8 : (∃ pm_, (pf 8) = [pm_] ∧ (fun u_ p_ => (∃ x_ : Int, u_ = .int .i64 x_ ∧ 0 ≤ x_ ∧ x_ < 2) ∧ p_ = curE g a len cap) (vf 8) pm_) := hR 8 (by decide)
      obtain ⟨p28, pE8, hR29⟩ := e8
      obtain ⟨v27, vE8⟩ : ∃ x, vf 8 = x := ⟨_, rfl⟩
      rw [vE8] at hR29
      obtain ⟨⟨xhR29, rfl, xhR290, xhR291⟩, rfl⟩ := hR29
      refine dqQ [6, 8] [4, 6, 8] rfl (zbg (sk 43 (congrArg some e6.1) (sk 45 (congrArg some vE8) (zab _))) (by simp only [pE8, vE8, e6.2, fS] <;> rfl) ?_)
      exact zbo (zbi (zct (cs := #[.int .i64 3, .int .i64 (A.getD ((xhR26).toNat) 0), .int .i64 xhR29]) rfl rfl rfl)) (fun _ _ h => ⟨h.1.trans (by show _ = (.agg #[.int .i64 3, .int .i64 (A.getD (((intOf_o (vf 4))).toNat) 0), .int .i64 (intOf_o (vf 8))] : Value); first | (rw [vE4, vE8]; done) | (rw [vE4, vE8]; rfl)), h.2⟩)
     intro vf pf hmu hR
     have e4 : (∃ pm_, (pf 4) = [pm_] ∧ (fun u_ p_ => (∃ x_ : Int, u_ = .int .i64 x_ ∧ 0 ≤ x_ ∧ x_ < (A.length : Int)) ∧ p_ = curE g a len cap) (vf 4) pm_) := hR 4 (by decide)
     obtain ⟨p25, pE4, hR26⟩ := e4
     obtain ⟨v24, vE4⟩ : ∃ x, vf 4 = x := ⟨_, rfl⟩
     rw [vE4] at hR26
     obtain ⟨⟨xhR26, rfl, xhR260, xhR261⟩, rfl⟩ := hR26
     have e8 : (∃ pm_, (pf 8) = [pm_] ∧ (fun u_ p_ => (∃ x_ : Int, u_ = .int .i64 x_ ∧ 0 ≤ x_ ∧ x_ < 2) ∧ p_ = curE g a len cap) (vf 8) pm_) := hR 8 (by decide)
     obtain ⟨p28, pE8, hR29⟩ := e8
     obtain ⟨v27, vE8⟩ : ∃ x, vf 8 = x := ⟨_, rfl⟩
     rw [vE8] at hR29
     obtain ⟨⟨xhR29, rfl, xhR290, xhR291⟩, rfl⟩ := hR29
     have e9 : (vf 9) = .agg #[.int .i64 3, .int .i64 (A.getD (((intOf_o (vf 4))).toNat) 0), .int .i64 (intOf_o (vf 8))] ∧ (pf 9) = [] := hR 9 (by decide)
     rw [vE4, vE8] at e9; try simp only [intOf_o] at e9
     refine dqQ [8, 9] [4, 8, 9] rfl (zbg (sk 46 (congrArg some e9.1) (zab _)) (by simp only [pE8, vE8, e9.2, fS] <;> rfl) ?_)
     exact zbo (zas (z := .agg #[.int .i64 0, .int .i64 0, .int .i64 0]) (s := 3) (cs := ([3, A.getD ((xhR26).toNat) 0, xhR29].map (Value.int .i64))) rfl Try.underlying71 rfl (by decide) rfl (by kernel_rfl) rfl) (fun v_ p_ h => by show IsRow 97 3 1 ([3, A.getD (((intOf_o (vf 4))).toNat) 0, (intOf_o (vf 8))].map (Value.int .i64)) v_ p_; rw [vE4, vE8]; exact h)
    intro vf pf hmu hR
    have e4 : (∃ pm_, (pf 4) = [pm_] ∧ (fun u_ p_ => (∃ x_ : Int, u_ = .int .i64 x_ ∧ 0 ≤ x_ ∧ x_ < (A.length : Int)) ∧ p_ = curE g a len cap) (vf 4) pm_) := hR 4 (by decide)
    obtain ⟨p25, pE4, hR26⟩ := e4
    obtain ⟨v24, vE4⟩ : ∃ x, vf 4 = x := ⟨_, rfl⟩
    rw [vE4] at hR26
    obtain ⟨⟨xhR26, rfl, xhR260, xhR261⟩, rfl⟩ := hR26
    have e8 : (∃ pm_, (pf 8) = [pm_] ∧ (fun u_ p_ => (∃ x_ : Int, u_ = .int .i64 x_ ∧ 0 ≤ x_ ∧ x_ < 2) ∧ p_ = curE g a len cap) (vf 8) pm_) := hR 8 (by decide)
    obtain ⟨p28, pE8, hR29⟩ := e8
    obtain ⟨v27, vE8⟩ : ∃ x, vf 8 = x := ⟨_, rfl⟩
    rw [vE8] at hR29
    obtain ⟨⟨xhR29, rfl, xhR290, xhR291⟩, rfl⟩ := hR29
    have e10 : IsRow 97 3 1 ([3, A.getD (((intOf_o (vf 4))).toNat) 0, (intOf_o (vf 8))].map (Value.int .i64)) (vf 10) (pf 10) := hR 10 (by decide)
    rw [vE4, vE8] at e10; try simp only [intOf_o] at e10
    obtain ⟨g30, vE10, pE10⟩ := e10
    have q0 := hR 0 (by decide)
    have q1 := hR 1 (by decide)
    have q2 := hR 2 (by decide)
    have q3 := hR 3 (by decide)
    have q5 := hR 5 (by decide)
    have q6 := hR 6 (by decide)
    have q7 := hR 7 (by decide)
    have q9 := hR 9 (by decide)
    refine zcd (zbs [36, 31, 25, 19, 18, 16, 6, 2, 1, 0] _ (sk 47 (congrArg some vE10) (zab _)) rfl) (by simp only [pE8, vE8, pE10, vE10, q0.2, q1.2, q2.2, q3.2, q5.2, q6.2, q7.2, q9.2, fS] <;> rfl) ?_
    simp only [List.drop_succ_cons, List.drop_zero]
    refine zbc 1 rfl ?_
    refine zak (zaf ?_)
    refine zfv ?_
    have hA8 := hA _ (zbd (d := (0 : Int)) (show xhR26.toNat < A.length by omega))
    refine zaz 2 [1, 0] rfl rfl (by decide) ?_
    refine zbk 2 rfl ?_
    exact zcf (rs := [.tmp 6]) (vs := [.slice (some ⟨g30, 0, none⟩) 1 1]) rfl ⟨rfl, trivial⟩ rfl (fun w hm => ⟨_, bigE [curE g a len cap, rowE 97 3 (.slice (some ⟨g30, 0, none⟩) 1 1) 1 ([3, A.getD ((xhR26).toNat) 0, xhR29].map (Value.int .i64))], rfl, ⟨[Oq.mk 3 (A.getD ((xhR26).toNat) 0) xhR29], rfl, zdm (by first | exact .inl ⟨rfl, ⟨by dsimp only; omega, by dsimp only; omega⟩, rfl⟩ | exact .inr (.inl ⟨rfl, ⟨by dsimp only; omega, by dsimp only; omega⟩, rfl⟩) | exact .inr (.inr (.inl ⟨rfl, ⟨by dsimp only; omega, by dsimp only; omega⟩, by dsimp only; omega, by dsimp only; omega⟩)) | exact .inr (.inr (.inr ⟨by decide, by decide, by decide, by decide, rfl, rfl⟩))) rfl (by omega)⟩, hm.sub (.refl _)⟩)
   refine ntQ (fsQ rfl (zdn (zac (zac (reQ 1 rfl ?_)))))
   refine hvQ rfl (lnQ rfl rfl rfl (fun w hm => hu w (hm.sub (.cons _ (.refl _))))) (zbj rfl rfl rfl rfl rfl rfl (fun h31 => ?_) (fun h31 => ?_))
   ·
    refine ntQ (zaj rfl (srQ (hvQ rfl (zct (cs := #[.int .i64 0, .int .i64 1, .int .i64 0]) rfl rfl rfl) ?_)))
    refine zey rfl (zas (z := .agg #[.int .i64 0, .int .i64 0, .int .i64 0]) (s := 3) (cs := ([0, 1, 0].map (Value.int .i64))) rfl Try.underlying71 rfl (by decide) rfl (by kernel_rfl) rfl) ?_
    intro g32
    refine zbc 1 rfl ?_
    refine zak (zfv ?_)
    refine zaz 2 [0, 1] rfl rfl (by decide) ?_
    refine zbk 2 rfl ?_
    exact zcf (rs := [.tmp 6]) (vs := [.slice (some ⟨g32, 0, none⟩) 1 1]) rfl ⟨rfl, trivial⟩ rfl (fun w hm => ⟨_, bigE [curE g a len cap, rowE 97 3 (.slice (some ⟨g32, 0, none⟩) 1 1) 1 ([0, 1, 0].map (Value.int .i64))], rfl, ⟨[Oq.mk 0 1 0], rfl, zdm (by first | exact .inl ⟨rfl, ⟨by dsimp only; omega, by dsimp only; omega⟩, rfl⟩ | exact .inr (.inl ⟨rfl, ⟨by dsimp only; omega, by dsimp only; omega⟩, rfl⟩) | exact .inr (.inr (.inl ⟨rfl, ⟨by dsimp only; omega, by dsimp only; omega⟩, by dsimp only; omega, by dsimp only; omega⟩)) | exact .inr (.inr (.inr ⟨by decide, by decide, by decide, by decide, rfl, rfl⟩))) rfl (by omega)⟩, hm.sub (.refl _)⟩)
   refine ntQ (zal rfl (zdb (zac (reQ 3 rfl ?_))))
   refine hvQ rfl (lnQ rfl rfl rfl (fun w hm => hu w (hm.sub (.cons _ (.refl _))))) (zch (R := (fun u_ p_ => (∃ x_ : Int, u_ = .int .i64 x_ ∧ 0 ≤ x_ ∧ x_ < (A.length : Int)) ∧ p_ = curE g a len cap)) 0 rfl rfl rfl rfl rfl (fun l' w hm => zbv g a len cap z (A.length : Int) _ _ _ hm hb (by constructor <;> omega)) ?_)
   intro v33 p34 hR35
   obtain ⟨⟨xhR35, rfl, xhR350, xhR351⟩, rfl⟩ := hR35
   refine zck (l' := (curE g a len cap :: l)) rfl ?_
   refine hvQ rfl (riQ 1 rfl rfl rfl rfl (fun w hm => hu w (hm.sub (.cons _ (.refl _))))) (hvQ rfl (lzQ rfl rfl rfl (fun w hm => hu w (hm.sub (.cons _ (.refl _))))) ?_)
   refine hvQ rfl (zct (cs := #[.int .i64 2, .int .i64 (A.getD ((xhR35).toNat) 0), .int .i64 0]) rfl rfl rfl) (zey rfl (zas (z := .agg #[.int .i64 0, .int .i64 0, .int .i64 0]) (s := 3) (cs := ([2, A.getD ((xhR35).toNat) 0, 0].map (Value.int .i64))) rfl Try.underlying71 rfl (by decide) rfl (by kernel_rfl) rfl) ?_)
   intro g36
   refine zbc 1 rfl ?_
   refine zak (zad ?_)
   have hA8 := hA _ (zbd (d := (0 : Int)) (show xhR35.toNat < A.length by omega))
   refine zaz 2 [0, 1] rfl rfl (by decide) ?_
   refine zbk 2 rfl ?_
   exact zcf (rs := [.tmp 6]) (vs := [.slice (some ⟨g36, 0, none⟩) 1 1]) rfl ⟨rfl, trivial⟩ rfl (fun w hm => ⟨_, bigE [curE g a len cap, rowE 97 3 (.slice (some ⟨g36, 0, none⟩) 1 1) 1 ([2, A.getD ((xhR35).toNat) 0, 0].map (Value.int .i64))], rfl, ⟨[Oq.mk 2 (A.getD ((xhR35).toNat) 0) 0], rfl, zdm (by first | exact .inl ⟨rfl, ⟨by dsimp only; omega, by dsimp only; omega⟩, rfl⟩ | exact .inr (.inl ⟨rfl, ⟨by dsimp only; omega, by dsimp only; omega⟩, rfl⟩) | exact .inr (.inr (.inl ⟨rfl, ⟨by dsimp only; omega, by dsimp only; omega⟩, by dsimp only; omega, by dsimp only; omega⟩)) | exact .inr (.inr (.inr ⟨by decide, by decide, by decide, by decide, rfl, rfl⟩))) rfl (by omega)⟩, hm.sub (.refl _)⟩)
  refine zbc 1 rfl (zal rfl (zav ?_))
  refine zbj rfl rfl rfl rfl rfl rfl (fun h37 => ?_) (fun h37 => ?_)
  ·
   refine zbc 1 rfl (zaj rfl (zac (reQ 1 rfl ?_)))
   refine hvQ rfl (lnQ rfl rfl rfl (fun w hm => hu w (hm.sub (.cons _ (.refl _))))) (zeq rfl rfl rfl rfl rfl rfl (fun h38 => ?_) (fun h38 => ?_))
   ·
    refine ntQ (zaj rfl (zac ?_))
    refine zdi (l := (l)) rfl 11 [0, 1, 2, 3, 4, 5, 6, 7, 8, 9, 10] (List.take 11 _) (List.drop 11 _) [[], [], [], [2], [1, 3], [0, 4], [4, 5], [], [4, 7], [4, 6, 8], [4, 8, 9]] [37, 38, 39, 40, 41, 42, 43, 44, 45, 46, 47] (fun i_ vs_ v_ p_ => match i_ with | 0 => v_ = u ∧ p_ = [] | 1 => v_ = .pointer (some ⟨g, 0, none⟩) ∧ p_ = [] | 2 => v_ = u ∧ p_ = [] | 3 => v_ = .int .i64 (A.length : Int) ∧ p_ = [] | 4 => (∃ pm_, p_ = [pm_] ∧ (fun u_ p_ => (∃ x_ : Int, u_ = .int .i64 x_ ∧ 0 ≤ x_ ∧ x_ < (A.length : Int)) ∧ p_ = curE g a len cap) v_ pm_) | 5 => v_ = elP u (((intOf_o (gV9 vs_ 1))).toNat * 1) ∧ p_ = [] | 6 => v_ = .int .i64 (A.getD (((intOf_o (gV9 vs_ 0))).toNat) 0) ∧ p_ = [] | 7 => v_ = .pointer (some ⟨g, 0, none⟩) ∧ p_ = [] | 8 => (∃ pm_, p_ = [pm_] ∧ (fun u_ p_ => (∃ x_ : Int, u_ = .int .i64 x_ ∧ 0 ≤ x_ ∧ x_ < 2) ∧ p_ = curE g a len cap) v_ pm_) | 9 => v_ = .agg #[.int .i64 3, .int .i64 (A.getD (((intOf_o (gV9 vs_ 0))).toNat) 0), .int .i64 (intOf_o (gV9 vs_ 2))] ∧ p_ = [] | 10 => IsRow 97 3 1 ([3, A.getD (((intOf_o (gV9 vs_ 0))).toNat) 0, (intOf_o (gV9 vs_ 1))].map (Value.int .i64)) v_ p_ | _ => True) [[], [], [], [2], [1, 3], [0], [5], [], [7], [6, 8], [8, 9]] [none, none, none, none, some 12, none, none, none, some 4, none, none] [curE g a len cap] [0, 1, 2, 3, 5, 6, 7, 8, 9, 10] 12 (List.take_append_drop 11 _).symm (by kernel_rfl) (by kernel_rfl) (by kernel_rfl) rfl rfl ?_ ?_
    ·
     refine ⟨?_, ?_, ?_, ?_, ?_, ?_, ?_, ?_, ?_, ?_, ?_, trivial⟩
     ·
      intro vf pf hmu hR
      refine dqQ [] [] rfl (zay (zae [1] rfl) ?_)
      exact zbi (zax rfl)
     ·
      intro vf pf hmu hR
      refine dqQ [] [] rfl (zay (zae [0] rfl) ?_)
      exact zbi (zax rfl)
     ·
      intro vf pf hmu hR
      refine dqQ [] [] rfl (zay (zae [1] rfl) ?_)
      exact zbi (zax rfl)
     ·
      intro vf pf hmu hR
      have e2 := hR 2 (by decide)
      refine dqQ [2] [2] rfl (zaq (sk 39 (congrArg some e2.1) (zab _)) (List.sublist_append_right _ _) ?_)
      exact zbi (lnQ rfl rfl rfl (fun w hm => hu w (hm.sub (.refl _))))
     ·
      intro vf pf hmu hR
      have e1 := hR 1 (by decide)
      have e3 := hR 3 (by decide)
      refine Or.inl ⟨rfl, ?_⟩
      show RunM _ _ _ (pf 12) (([1, 3] : List Nat).flatMap pf ++ _) (envOf _ vf [1, 3] ++ _) _ _
      rw [hmu]
      exact zbx (sk 38 (congrArg some e1.1) (sk 40 (congrArg some e3.1) (zab _))) (by simp only [e1.2, e3.2, fS] <;> rfl) (zcn (R := (fun u_ p_ => (∃ x_ : Int, u_ = .int .i64 x_ ∧ 0 ≤ x_ ∧ x_ < (A.length : Int)) ∧ p_ = curE g a len cap)) rfl rfl (fun L w hX hm => zbv g a len cap z (A.length : Int) _ _ _ hm hb (by constructor <;> omega)))
     ·
      intro vf pf hmu hR
      have e0 := hR 0 (by decide)
      have e4 : (∃ pm_, (pf 4) = [pm_] ∧ (fun u_ p_ => (∃ x_ : Int, u_ = .int .i64 x_ ∧ 0 ≤ x_ ∧ x_ < (A.length : Int)) ∧ p_ = curE g a len cap) (vf 4) pm_) := hR 4 (by decide)
      obtain ⟨p40, pE4, hR41⟩ := e4
      obtain ⟨v39, vE4⟩ : ∃ x, vf 4 = x := ⟨_, rfl⟩
      rw [vE4] at hR41
      obtain ⟨⟨xhR41, rfl, xhR410, xhR411⟩, rfl⟩ := hR41
      refine dqQ [0] [0, 4] rfl (zaq (sk 37 (congrArg some e0.1) (sk 41 (congrArg some vE4) (zab _))) (List.sublist_append_right _ _) ?_)
      exact zbo (zbi (riQ 1 rfl rfl rfl rfl (fun w hm => hu w (hm.sub (.refl _))))) (fun _ _ h => ⟨h.1.trans (by show _ = (elP u (((intOf_o (vf 4))).toNat * 1) : Value); first | (rw [vE4]; done) | (rw [vE4]; rfl)), h.2⟩)
     ·
      intro vf pf hmu hR
      have e4 : (∃ pm_, (pf 4) = [pm_] ∧ (fun u_ p_ => (∃ x_ : Int, u_ = .int .i64 x_ ∧ 0 ≤ x_ ∧ x_ < (A.length : Int)) ∧ p_ = curE g a len cap) (vf 4) pm_) := hR 4 (by decide)
      obtain ⟨p40, pE4, hR41⟩ := e4
      obtain ⟨v39, vE4⟩ : ∃ x, vf 4 = x := ⟨_, rfl⟩
      rw [vE4] at hR41
      obtain ⟨⟨xhR41, rfl, xhR410, xhR411⟩, rfl⟩ := hR41
      have e5 : (vf 5) = elP u (((intOf_o (vf 4))).toNat * 1) ∧ (pf 5) = [] := hR 5 (by decide)
      rw [vE4] at e5; try simp only [intOf_o] at e5
      refine dqQ [5] [4, 5] rfl (zaq (sk 42 (congrArg some e5.1) (zab _)) (List.sublist_append_right _ _) ?_)
      exact zbo (zbi (lzQ rfl rfl rfl (fun w hm => hu w (hm.sub (.refl _))))) (fun _ _ h => ⟨h.1.trans (by show _ = (.int .i64 (A.getD (((intOf_o (vf 4))).toNat) 0) : Value); first | (rw [vE4]; done) | (rw [vE4]; rfl)), h.2⟩)
     ·
      intro vf pf hmu hR
      refine dqQ [] [] rfl (zay (zae [0] rfl) ?_)
      exact zbi (zax rfl)
     ·
      intro vf pf hmu hR
      have e4 : (∃ pm_, (pf 4) = [pm_] ∧ (fun u_ p_ => (∃ x_ : Int, u_ = .int .i64 x_ ∧ 0 ≤ x_ ∧ x_ < (A.length : Int)) ∧ p_ = curE g a len cap) (vf 4) pm_) := hR 4 (by decide)
      obtain ⟨p40, pE4, hR41⟩ := e4
      obtain ⟨v39, vE4⟩ : ∃ x, vf 4 = x := ⟨_, rfl⟩
      rw [vE4] at hR41
      obtain ⟨⟨xhR41, rfl, xhR410, xhR411⟩, rfl⟩ := hR41
      have e7 := hR 7 (by decide)
      refine Or.inl ⟨rfl, ?_⟩
      show RunM _ _ _ (pf 4) (([7] : List Nat).flatMap pf ++ _) (envOf _ vf [4, 7] ++ _) _ _
      rw [pE4]
      exact zbx (sk 44 (congrArg some e7.1) (zab _)) (by simp only [e7.2, fS] <;> rfl) (zcn (R := (fun u_ p_ => (∃ x_ : Int, u_ = .int .i64 x_ ∧ 0 ≤ x_ ∧ x_ < 2) ∧ p_ = curE g a len cap)) rfl rfl (fun L w hX hm => zbv g a len cap z 2 _ _ _ hm hb (by constructor <;> omega)))
     ·
      intro vf pf hmu hR
      have e4 : (∃ pm_, (pf 4) = [pm_] ∧ (fun u_ p_ => (∃ x_ : Int, u_ = .int .i64 x_ ∧ 0 ≤ x_ ∧ x_ < (A.length : Int)) ∧ p_ = curE g a len cap) (vf 4) pm_) := hR 4 (by decide)
      obtain ⟨p40, pE4, hR41⟩ := e4
      obtain ⟨v39, vE4⟩ : ∃ x, vf 4 = x := ⟨_, rfl⟩
      rw [vE4] at hR41
      obtain ⟨⟨xhR41, rfl, xhR410, xhR411⟩, rfl⟩ := hR41
      have e6 : (vf 6) = .int .i64 (A.getD (((intOf_o (vf 4))).toNat) 0) ∧ (pf 6) = [] := hR 6 (by decide)
      rw [vE4] at e6; try simp only [intOf_o] at e6
      have e8 : (∃ pm_, (pf 8) = [pm_] ∧ (fun u_ p_ => (∃ x_ : Int, u_ = .int .i64 x_ ∧ 0 ≤ x_ ∧ x_ < 2) ∧ p_ = curE g a len cap) (vf 8) pm_) := hR 8 (by decide)
      obtain ⟨p43, pE8, hR44⟩ := e8
      obtain ⟨v42, vE8⟩ : ∃ x, vf 8 = x := ⟨_, rfl⟩
      rw [vE8] at hR44
      obtain ⟨⟨xhR44, rfl, xhR440, xhR441⟩, rfl⟩ := hR44
      refine dqQ [6, 8] [4, 6, 8] rfl (zbg (sk 43 (congrArg some e6.1) (sk 45 (congrArg some vE8) (zab _))) (by simp only [pE8, vE8, e6.2, fS] <;> rfl) ?_)
      exact zbo (zbi (zct (cs := #[.int .i64 3, .int .i64 (A.getD ((xhR41).toNat) 0), .int .i64 xhR44]) rfl rfl rfl)) (fun _ _ h => ⟨h.1.trans (by show _ = (.agg #[.int .i64 3, .int .i64 (A.getD (((intOf_o (vf 4))).toNat) 0), .int .i64 (intOf_o (vf 8))] : Value); first | (rw [vE4, vE8]; done) | (rw [vE4, vE8]; rfl)), h.2⟩)
     intro vf pf hmu hR
     have e4 : (∃ pm_, (pf 4) = [pm_] ∧ (fun u_ p_ => (∃ x_ : Int, u_ = .int .i64 x_ ∧ 0 ≤ x_ ∧ x_ < (A.length : Int)) ∧ p_ = curE g a len cap) (vf 4) pm_) := hR 4 (by decide)
     obtain ⟨p40, pE4, hR41⟩ := e4
     obtain ⟨v39, vE4⟩ : ∃ x, vf 4 = x := ⟨_, rfl⟩
     rw [vE4] at hR41
     obtain ⟨⟨xhR41, rfl, xhR410, xhR411⟩, rfl⟩ := hR41
     have e8 : (∃ pm_, (pf 8) = [pm_] ∧ (fun u_ p_ => (∃ x_ : Int, u_ = .int .i64 x_ ∧ 0 ≤ x_ ∧ x_ < 2) ∧ p_ = curE g a len cap) (vf 8) pm_) := hR 8 (by decide)
     obtain ⟨p43, pE8, hR44⟩ := e8
     obtain ⟨v42, vE8⟩ : ∃ x, vf 8 = x := ⟨_, rfl⟩
     rw [vE8] at hR44
     obtain ⟨⟨xhR44, rfl, xhR440, xhR441⟩, rfl⟩ := hR44
     have e9 : (vf 9) = .agg #[.int .i64 3, .int .i64 (A.getD (((intOf_o (vf 4))).toNat) 0), .int .i64 (intOf_o (vf 8))] ∧ (pf 9) = [] := hR 9 (by decide)
     rw [vE4, vE8] at e9; try simp only [intOf_o] at e9
     refine dqQ [8, 9] [4, 8, 9] rfl (zbg (sk 46 (congrArg some e9.1) (zab _)) (by simp only [pE8, vE8, e9.2, fS] <;> rfl) ?_)
     exact zbo (zas (z := .agg #[.int .i64 0, .int .i64 0, .int .i64 0]) (s := 3) (cs := ([3, A.getD ((xhR41).toNat) 0, xhR44].map (Value.int .i64))) rfl Try.underlying71 rfl (by decide) rfl (by kernel_rfl) rfl) (fun v_ p_ h => by show IsRow 97 3 1 ([3, A.getD (((intOf_o (vf 4))).toNat) 0, (intOf_o (vf 8))].map (Value.int .i64)) v_ p_; rw [vE4, vE8]; exact h)
    intro vf pf hmu hR
    have e4 : (∃ pm_, (pf 4) = [pm_] ∧ (fun u_ p_ => (∃ x_ : Int, u_ = .int .i64 x_ ∧ 0 ≤ x_ ∧ x_ < (A.length : Int)) ∧ p_ = curE g a len cap) (vf 4) pm_) := hR 4 (by decide)
    obtain ⟨p40, pE4, hR41⟩ := e4
    obtain ⟨v39, vE4⟩ : ∃ x, vf 4 = x := ⟨_, rfl⟩
    rw [vE4] at hR41
    obtain ⟨⟨xhR41, rfl, xhR410, xhR411⟩, rfl⟩ := hR41
    have e8 : (∃ pm_, (pf 8) = [pm_] ∧ (fun u_ p_ => (∃ x_ : Int, u_ = .int .i64 x_ ∧ 0 ≤ x_ ∧ x_ < 2) ∧ p_ = curE g a len cap) (vf 8) pm_) := hR 8 (by decide)
    obtain ⟨p43, pE8, hR44⟩ := e8
    obtain ⟨v42, vE8⟩ : ∃ x, vf 8 = x := ⟨_, rfl⟩
    rw [vE8] at hR44
    obtain ⟨⟨xhR44, rfl, xhR440, xhR441⟩, rfl⟩ := hR44
    have e10 : IsRow 97 3 1 ([3, A.getD (((intOf_o (vf 4))).toNat) 0, (intOf_o (vf 8))].map (Value.int .i64)) (vf 10) (pf 10) := hR 10 (by decide)
    rw [vE4, vE8] at e10; try simp only [intOf_o] at e10
    obtain ⟨g45, vE10, pE10⟩ := e10
    have q0 := hR 0 (by decide)
    have q1 := hR 1 (by decide)
    have q2 := hR 2 (by decide)
    have q3 := hR 3 (by decide)
    have q5 := hR 5 (by decide)
    have q6 := hR 6 (by decide)
    have q7 := hR 7 (by decide)
    have q9 := hR 9 (by decide)
    refine zcd (zbs [36, 31, 25, 19, 18, 16, 6, 2, 1, 0] _ (sk 47 (congrArg some vE10) (zab _)) rfl) (by simp only [pE8, vE8, pE10, vE10, q0.2, q1.2, q2.2, q3.2, q5.2, q6.2, q7.2, q9.2, fS] <;> rfl) ?_
    simp only [List.drop_succ_cons, List.drop_zero]
    refine zbc 1 rfl ?_
    refine zak (zaf ?_)
    refine zfv ?_
    have hA8 := hA _ (zbd (d := (0 : Int)) (show xhR41.toNat < A.length by omega))
    refine zaz 2 [1, 0] rfl rfl (by decide) ?_
    refine zbk 2 rfl ?_
    exact zcf (rs := [.tmp 6]) (vs := [.slice (some ⟨g45, 0, none⟩) 1 1]) rfl ⟨rfl, trivial⟩ rfl (fun w hm => ⟨_, bigE [curE g a len cap, rowE 97 3 (.slice (some ⟨g45, 0, none⟩) 1 1) 1 ([3, A.getD ((xhR41).toNat) 0, xhR44].map (Value.int .i64))], rfl, ⟨[Oq.mk 3 (A.getD ((xhR41).toNat) 0) xhR44], rfl, zdm (by first | exact .inl ⟨rfl, ⟨by dsimp only; omega, by dsimp only; omega⟩, rfl⟩ | exact .inr (.inl ⟨rfl, ⟨by dsimp only; omega, by dsimp only; omega⟩, rfl⟩) | exact .inr (.inr (.inl ⟨rfl, ⟨by dsimp only; omega, by dsimp only; omega⟩, by dsimp only; omega, by dsimp only; omega⟩)) | exact .inr (.inr (.inr ⟨by decide, by decide, by decide, by decide, rfl, rfl⟩))) rfl (by omega)⟩, hm.sub (.refl _)⟩)
   refine ntQ (fsQ rfl (zdn (zac (zac (reQ 1 rfl ?_)))))
   refine hvQ rfl (lnQ rfl rfl rfl (fun w hm => hu w (hm.sub (.cons _ (.refl _))))) (zbj rfl rfl rfl rfl rfl rfl (fun h46 => ?_) (fun h46 => ?_))
   ·
    refine ntQ (zaj rfl (srQ (hvQ rfl (zct (cs := #[.int .i64 0, .int .i64 1, .int .i64 0]) rfl rfl rfl) ?_)))
    refine zey rfl (zas (z := .agg #[.int .i64 0, .int .i64 0, .int .i64 0]) (s := 3) (cs := ([0, 1, 0].map (Value.int .i64))) rfl Try.underlying71 rfl (by decide) rfl (by kernel_rfl) rfl) ?_
    intro g47
    refine zbc 1 rfl ?_
    refine zak (zfv ?_)
    refine zaz 2 [0, 1] rfl rfl (by decide) ?_
    refine zbk 2 rfl ?_
    exact zcf (rs := [.tmp 6]) (vs := [.slice (some ⟨g47, 0, none⟩) 1 1]) rfl ⟨rfl, trivial⟩ rfl (fun w hm => ⟨_, bigE [curE g a len cap, rowE 97 3 (.slice (some ⟨g47, 0, none⟩) 1 1) 1 ([0, 1, 0].map (Value.int .i64))], rfl, ⟨[Oq.mk 0 1 0], rfl, zdm (by first | exact .inl ⟨rfl, ⟨by dsimp only; omega, by dsimp only; omega⟩, rfl⟩ | exact .inr (.inl ⟨rfl, ⟨by dsimp only; omega, by dsimp only; omega⟩, rfl⟩) | exact .inr (.inr (.inl ⟨rfl, ⟨by dsimp only; omega, by dsimp only; omega⟩, by dsimp only; omega, by dsimp only; omega⟩)) | exact .inr (.inr (.inr ⟨by decide, by decide, by decide, by decide, rfl, rfl⟩))) rfl (by omega)⟩, hm.sub (.refl _)⟩)
   refine ntQ (zal rfl (zdb (zac (reQ 3 rfl ?_))))
   refine hvQ rfl (lnQ rfl rfl rfl (fun w hm => hu w (hm.sub (.cons _ (.refl _))))) (zch (R := (fun u_ p_ => (∃ x_ : Int, u_ = .int .i64 x_ ∧ 0 ≤ x_ ∧ x_ < (A.length : Int)) ∧ p_ = curE g a len cap)) 0 rfl rfl rfl rfl rfl (fun l' w hm => zbv g a len cap z (A.length : Int) _ _ _ hm hb (by constructor <;> omega)) ?_)
   intro v48 p49 hR50
   obtain ⟨⟨xhR50, rfl, xhR500, xhR501⟩, rfl⟩ := hR50
   refine zck (l' := (curE g a len cap :: l)) rfl ?_
   refine hvQ rfl (riQ 1 rfl rfl rfl rfl (fun w hm => hu w (hm.sub (.cons _ (.refl _))))) (hvQ rfl (lzQ rfl rfl rfl (fun w hm => hu w (hm.sub (.cons _ (.refl _))))) ?_)
   refine hvQ rfl (zct (cs := #[.int .i64 2, .int .i64 (A.getD ((xhR50).toNat) 0), .int .i64 0]) rfl rfl rfl) (zey rfl (zas (z := .agg #[.int .i64 0, .int .i64 0, .int .i64 0]) (s := 3) (cs := ([2, A.getD ((xhR50).toNat) 0, 0].map (Value.int .i64))) rfl Try.underlying71 rfl (by decide) rfl (by kernel_rfl) rfl) ?_)
   intro g51
   refine zbc 1 rfl ?_
   refine zak (zad ?_)
   have hA8 := hA _ (zbd (d := (0 : Int)) (show xhR50.toNat < A.length by omega))
   refine zaz 2 [0, 1] rfl rfl (by decide) ?_
   refine zbk 2 rfl ?_
   exact zcf (rs := [.tmp 6]) (vs := [.slice (some ⟨g51, 0, none⟩) 1 1]) rfl ⟨rfl, trivial⟩ rfl (fun w hm => ⟨_, bigE [curE g a len cap, rowE 97 3 (.slice (some ⟨g51, 0, none⟩) 1 1) 1 ([2, A.getD ((xhR50).toNat) 0, 0].map (Value.int .i64))], rfl, ⟨[Oq.mk 2 (A.getD ((xhR50).toNat) 0) 0], rfl, zdm (by first | exact .inl ⟨rfl, ⟨by dsimp only; omega, by dsimp only; omega⟩, rfl⟩ | exact .inr (.inl ⟨rfl, ⟨by dsimp only; omega, by dsimp only; omega⟩, rfl⟩) | exact .inr (.inr (.inl ⟨rfl, ⟨by dsimp only; omega, by dsimp only; omega⟩, by dsimp only; omega, by dsimp only; omega⟩)) | exact .inr (.inr (.inr ⟨by decide, by decide, by decide, by decide, rfl, rfl⟩))) rfl (by omega)⟩, hm.sub (.refl _)⟩)
  refine zbc 1 rfl (fsQ rfl (zdn (zac (zac (reQ 1 rfl ?_)))))
  refine hvQ rfl (lnQ rfl rfl rfl (fun w hm => hu w (hm.sub (.cons _ (.refl _))))) (zbj rfl rfl rfl rfl rfl rfl (fun h52 => ?_) (fun h52 => ?_))
  ·
   refine ntQ (zaj rfl (srQ (hvQ rfl (zct (cs := #[.int .i64 0, .int .i64 1, .int .i64 0]) rfl rfl rfl) ?_)))
   refine zey rfl (zas (z := .agg #[.int .i64 0, .int .i64 0, .int .i64 0]) (s := 3) (cs := ([0, 1, 0].map (Value.int .i64))) rfl Try.underlying71 rfl (by decide) rfl (by kernel_rfl) rfl) ?_
   intro g53
   refine zbc 1 rfl ?_
   refine zak (zfv ?_)
   refine zaz 2 [0, 1] rfl rfl (by decide) ?_
   refine zbk 2 rfl ?_
   exact zcf (rs := [.tmp 6]) (vs := [.slice (some ⟨g53, 0, none⟩) 1 1]) rfl ⟨rfl, trivial⟩ rfl (fun w hm => ⟨_, bigE [curE g a len cap, rowE 97 3 (.slice (some ⟨g53, 0, none⟩) 1 1) 1 ([0, 1, 0].map (Value.int .i64))], rfl, ⟨[Oq.mk 0 1 0], rfl, zdm (by first | exact .inl ⟨rfl, ⟨by dsimp only; omega, by dsimp only; omega⟩, rfl⟩ | exact .inr (.inl ⟨rfl, ⟨by dsimp only; omega, by dsimp only; omega⟩, rfl⟩) | exact .inr (.inr (.inl ⟨rfl, ⟨by dsimp only; omega, by dsimp only; omega⟩, by dsimp only; omega, by dsimp only; omega⟩)) | exact .inr (.inr (.inr ⟨by decide, by decide, by decide, by decide, rfl, rfl⟩))) rfl (by omega)⟩, hm.sub (.refl _)⟩)
  refine ntQ (zal rfl (zdb (zac (reQ 3 rfl ?_))))
  refine hvQ rfl (lnQ rfl rfl rfl (fun w hm => hu w (hm.sub (.cons _ (.refl _))))) (zch (R := (fun u_ p_ => (∃ x_ : Int, u_ = .int .i64 x_ ∧ 0 ≤ x_ ∧ x_ < (A.length : Int)) ∧ p_ = curE g a len cap)) 0 rfl rfl rfl rfl rfl (fun l' w hm => zbv g a len cap z (A.length : Int) _ _ _ hm hb (by constructor <;> omega)) ?_)
  intro v54 p55 hR56
  obtain ⟨⟨xhR56, rfl, xhR560, xhR561⟩, rfl⟩ := hR56
  refine zck (l' := (curE g a len cap :: l)) rfl ?_
  refine hvQ rfl (riQ 1 rfl rfl rfl rfl (fun w hm => hu w (hm.sub (.cons _ (.refl _))))) (hvQ rfl (lzQ rfl rfl rfl (fun w hm => hu w (hm.sub (.cons _ (.refl _))))) ?_)
  refine hvQ rfl (zct (cs := #[.int .i64 2, .int .i64 (A.getD ((xhR56).toNat) 0), .int .i64 0]) rfl rfl rfl) (zey rfl (zas (z := .agg #[.int .i64 0, .int .i64 0, .int .i64 0]) (s := 3) (cs := ([2, A.getD ((xhR56).toNat) 0, 0].map (Value.int .i64))) rfl Try.underlying71 rfl (by decide) rfl (by kernel_rfl) rfl) ?_)
  intro g57
  refine zbc 1 rfl ?_
  refine zak (zad ?_)
  have hA8 := hA _ (zbd (d := (0 : Int)) (show xhR56.toNat < A.length by omega))
  refine zaz 2 [0, 1] rfl rfl (by decide) ?_
  refine zbk 2 rfl ?_
  exact zcf (rs := [.tmp 6]) (vs := [.slice (some ⟨g57, 0, none⟩) 1 1]) rfl ⟨rfl, trivial⟩ rfl (fun w hm => ⟨_, bigE [curE g a len cap, rowE 97 3 (.slice (some ⟨g57, 0, none⟩) 1 1) 1 ([2, A.getD ((xhR56).toNat) 0, 0].map (Value.int .i64))], rfl, ⟨[Oq.mk 2 (A.getD ((xhR56).toNat) 0) 0], rfl, zdm (by first | exact .inl ⟨rfl, ⟨by dsimp only; omega, by dsimp only; omega⟩, rfl⟩ | exact .inr (.inl ⟨rfl, ⟨by dsimp only; omega, by dsimp only; omega⟩, rfl⟩) | exact .inr (.inr (.inl ⟨rfl, ⟨by dsimp only; omega, by dsimp only; omega⟩, by dsimp only; omega, by dsimp only; omega⟩)) | exact .inr (.inr (.inr ⟨by decide, by decide, by decide, by decide, rfl, rfl⟩))) rfl (by omega)⟩, hm.sub (.refl _)⟩)
 refine zag 2 rfl (zch (R := (fun u_ p_ => (∃ b : Bool, u_ = .bool b) ∧ p_ = curE g a len cap)) 0 rfl rfl rfl rfl rfl (fun l' w hm => zgl hm hb (3) (by omega) (by omega)) ?_)
 intro v58 p59 hR60
 obtain ⟨⟨xhR60, rfl⟩, rfl⟩ := hR60
 refine zck (l' := (curE g a len cap :: l)) rfl ?_
 refine zbz (fun h61 => ?_) (fun h61 => ?_)
 ·
  refine zbc 1 rfl (zaj rfl (zac (zac (reQ 1 rfl ?_))))
  refine zch (R := (fun u_ p_ => (∃ x_ : Int, u_ = .int .i64 x_ ∧ 0 ≤ x_ ∧ x_ < 8) ∧ p_ = curE g a len cap)) 0 rfl rfl rfl rfl rfl (fun l' w hm => zbv g a len cap z 8 _ _ _ hm hb (by constructor <;> omega)) ?_
  intro v62 p63 hR64
  obtain ⟨⟨xhR64, rfl, xhR640, xhR641⟩, rfl⟩ := hR64
  refine zck (l' := (curE g a len cap :: l)) rfl ?_
  refine ntQ (zbf (srQ ?_))
  refine zbj rfl rfl rfl rfl rfl rfl (fun h65 => ?_) (fun h65 => ?_)
  ·
   refine zbc 1 rfl (zaj rfl (zac (reQ 1 rfl ?_)))
   refine zch (R := (fun u_ p_ => (∃ x_ : Int, u_ = .int .i64 x_ ∧ 0 ≤ x_ ∧ x_ < 16) ∧ p_ = curE g a len cap)) 0 rfl rfl rfl rfl rfl (fun l' w hm => zbv g a len cap z 16 _ _ _ hm hb (by constructor <;> omega)) ?_
   intro v66 p67 hR68
   obtain ⟨⟨xhR68, rfl, xhR680, xhR681⟩, rfl⟩ := hR68
   refine zck (l' := (curE g a len cap :: l)) rfl ?_
   refine hvQ rfl (zct (cs := #[.int .i64 0, .int .i64 xhR68, .int .i64 0]) rfl rfl rfl) (zey rfl (zas (z := .agg #[.int .i64 0, .int .i64 0, .int .i64 0]) (s := 3) (cs := ([0, xhR68, 0].map (Value.int .i64))) rfl Try.underlying71 rfl (by decide) rfl (by kernel_rfl) rfl) ?_)
   intro g69
   refine zbc 1 rfl ?_
   refine zak (zaf ?_)
   refine zfv ?_
   refine zaz 2 [0, 1] rfl rfl (by decide) ?_
   refine zbk 2 rfl ?_
   exact zcf (rs := [.tmp 6]) (vs := [.slice (some ⟨g69, 0, none⟩) 1 1]) rfl ⟨rfl, trivial⟩ rfl (fun w hm => ⟨_, bigE [curE g a len cap, rowE 97 3 (.slice (some ⟨g69, 0, none⟩) 1 1) 1 ([0, xhR68, 0].map (Value.int .i64))], rfl, ⟨[Oq.mk 0 xhR68 0], rfl, zdm (by first | exact .inl ⟨rfl, ⟨by dsimp only; omega, by dsimp only; omega⟩, rfl⟩ | exact .inr (.inl ⟨rfl, ⟨by dsimp only; omega, by dsimp only; omega⟩, rfl⟩) | exact .inr (.inr (.inl ⟨rfl, ⟨by dsimp only; omega, by dsimp only; omega⟩, by dsimp only; omega, by dsimp only; omega⟩)) | exact .inr (.inr (.inr ⟨by decide, by decide, by decide, by decide, rfl, rfl⟩))) rfl (by omega)⟩, hm.sub (.refl _)⟩)
  refine zbc 1 rfl (zal rfl (srQ ?_))
  refine zbj rfl rfl rfl rfl rfl rfl (fun h70 => ?_) (fun h70 => ?_)
  ·
   refine zbc 1 rfl (zaj rfl (zac (reQ 1 rfl ?_)))
   refine zch (R := (fun u_ p_ => (∃ b : Bool, u_ = .bool b) ∧ p_ = curE g a len cap)) 0 rfl rfl rfl rfl rfl (fun l' w hm => zgl hm hb (3) (by omega) (by omega)) ?_
   intro v71 p72 hR73
   obtain ⟨⟨xhR73, rfl⟩, rfl⟩ := hR73
   refine zck (l' := (curE g a len cap :: l)) rfl ?_
   refine zbz (fun h74 => ?_) (fun h74 => ?_)
   ·
    refine ntQ (zaj rfl (srQ (hvQ rfl (zct (cs := #[.int .i64 1, .int .i64 0, .int .i64 0]) rfl rfl rfl) ?_)))
    refine zey rfl (zas (z := .agg #[.int .i64 0, .int .i64 0, .int .i64 0]) (s := 3) (cs := ([1, 0, 0].map (Value.int .i64))) rfl Try.underlying71 rfl (by decide) rfl (by kernel_rfl) rfl) ?_
    intro g75
    refine zbc 1 rfl ?_
    refine zak (zaf ?_)
    refine zfv ?_
    refine zaz 2 [0, 1] rfl rfl (by decide) ?_
    refine zbk 2 rfl ?_
    exact zcf (rs := [.tmp 6]) (vs := [.slice (some ⟨g75, 0, none⟩) 1 1]) rfl ⟨rfl, trivial⟩ rfl (fun w hm => ⟨_, bigE [curE g a len cap, rowE 97 3 (.slice (some ⟨g75, 0, none⟩) 1 1) 1 ([1, 0, 0].map (Value.int .i64))], rfl, ⟨[Oq.mk 1 0 0], rfl, zdm (by first | exact .inl ⟨rfl, ⟨by dsimp only; omega, by dsimp only; omega⟩, rfl⟩ | exact .inr (.inl ⟨rfl, ⟨by dsimp only; omega, by dsimp only; omega⟩, rfl⟩) | exact .inr (.inr (.inl ⟨rfl, ⟨by dsimp only; omega, by dsimp only; omega⟩, by dsimp only; omega, by dsimp only; omega⟩)) | exact .inr (.inr (.inr ⟨by decide, by decide, by decide, by decide, rfl, rfl⟩))) rfl (by omega)⟩, hm.sub (.refl _)⟩)
   refine ntQ (fsQ rfl (zdn (zac (zac (reQ 1 rfl ?_)))))
   refine hvQ rfl (lnQ rfl rfl rfl (fun w hm => hu w (hm.sub (.cons _ (.refl _))))) (zbj rfl rfl rfl rfl rfl rfl (fun h76 => ?_) (fun h76 => ?_))
   ·
    refine ntQ (zaj rfl (srQ (hvQ rfl (zct (cs := #[.int .i64 0, .int .i64 1, .int .i64 0]) rfl rfl rfl) ?_)))
    refine zey rfl (zas (z := .agg #[.int .i64 0, .int .i64 0, .int .i64 0]) (s := 3) (cs := ([0, 1, 0].map (Value.int .i64))) rfl Try.underlying71 rfl (by decide) rfl (by kernel_rfl) rfl) ?_
    intro g77
    refine zbc 1 rfl ?_
    refine zak (zfv ?_)
    refine zaz 2 [0, 1] rfl rfl (by decide) ?_
    refine zbk 2 rfl ?_
    exact zcf (rs := [.tmp 6]) (vs := [.slice (some ⟨g77, 0, none⟩) 1 1]) rfl ⟨rfl, trivial⟩ rfl (fun w hm => ⟨_, bigE [curE g a len cap, rowE 97 3 (.slice (some ⟨g77, 0, none⟩) 1 1) 1 ([0, 1, 0].map (Value.int .i64))], rfl, ⟨[Oq.mk 0 1 0], rfl, zdm (by first | exact .inl ⟨rfl, ⟨by dsimp only; omega, by dsimp only; omega⟩, rfl⟩ | exact .inr (.inl ⟨rfl, ⟨by dsimp only; omega, by dsimp only; omega⟩, rfl⟩) | exact .inr (.inr (.inl ⟨rfl, ⟨by dsimp only; omega, by dsimp only; omega⟩, by dsimp only; omega, by dsimp only; omega⟩)) | exact .inr (.inr (.inr ⟨by decide, by decide, by decide, by decide, rfl, rfl⟩))) rfl (by omega)⟩, hm.sub (.refl _)⟩)
   refine ntQ (zal rfl (zdb (zac (reQ 3 rfl ?_))))
   refine hvQ rfl (lnQ rfl rfl rfl (fun w hm => hu w (hm.sub (.cons _ (.refl _))))) (zch (R := (fun u_ p_ => (∃ x_ : Int, u_ = .int .i64 x_ ∧ 0 ≤ x_ ∧ x_ < (A.length : Int)) ∧ p_ = curE g a len cap)) 0 rfl rfl rfl rfl rfl (fun l' w hm => zbv g a len cap z (A.length : Int) _ _ _ hm hb (by constructor <;> omega)) ?_)
   intro v78 p79 hR80
   obtain ⟨⟨xhR80, rfl, xhR800, xhR801⟩, rfl⟩ := hR80
   refine zck (l' := (curE g a len cap :: l)) rfl ?_
   refine hvQ rfl (riQ 1 rfl rfl rfl rfl (fun w hm => hu w (hm.sub (.cons _ (.refl _))))) (hvQ rfl (lzQ rfl rfl rfl (fun w hm => hu w (hm.sub (.cons _ (.refl _))))) ?_)
   refine hvQ rfl (zct (cs := #[.int .i64 2, .int .i64 (A.getD ((xhR80).toNat) 0), .int .i64 0]) rfl rfl rfl) (zey rfl (zas (z := .agg #[.int .i64 0, .int .i64 0, .int .i64 0]) (s := 3) (cs := ([2, A.getD ((xhR80).toNat) 0, 0].map (Value.int .i64))) rfl Try.underlying71 rfl (by decide) rfl (by kernel_rfl) rfl) ?_)
   intro g81
   refine zbc 1 rfl ?_
   refine zak (zad ?_)
   have hA8 := hA _ (zbd (d := (0 : Int)) (show xhR80.toNat < A.length by omega))
   refine zaz 2 [0, 1] rfl rfl (by decide) ?_
   refine zbk 2 rfl ?_
   exact zcf (rs := [.tmp 6]) (vs := [.slice (some ⟨g81, 0, none⟩) 1 1]) rfl ⟨rfl, trivial⟩ rfl (fun w hm => ⟨_, bigE [curE g a len cap, rowE 97 3 (.slice (some ⟨g81, 0, none⟩) 1 1) 1 ([2, A.getD ((xhR80).toNat) 0, 0].map (Value.int .i64))], rfl, ⟨[Oq.mk 2 (A.getD ((xhR80).toNat) 0) 0], rfl, zdm (by first | exact .inl ⟨rfl, ⟨by dsimp only; omega, by dsimp only; omega⟩, rfl⟩ | exact .inr (.inl ⟨rfl, ⟨by dsimp only; omega, by dsimp only; omega⟩, rfl⟩) | exact .inr (.inr (.inl ⟨rfl, ⟨by dsimp only; omega, by dsimp only; omega⟩, by dsimp only; omega, by dsimp only; omega⟩)) | exact .inr (.inr (.inr ⟨by decide, by decide, by decide, by decide, rfl, rfl⟩))) rfl (by omega)⟩, hm.sub (.refl _)⟩)
  refine zbc 1 rfl (zal rfl (zgk ?_))
  refine zbj rfl rfl rfl rfl rfl rfl (fun h82 => ?_) (fun h82 => ?_)
  ·
   refine zbc 1 rfl (zaj rfl (zdb (zaj rfl (zac (reQ 1 rfl ?_)))))
   refine hvQ rfl (lnQ rfl rfl rfl (fun w hm => hu w (hm.sub (.cons _ (.refl _))))) (zeq rfl rfl rfl rfl rfl rfl (fun h83 => ?_) (fun h83 => ?_))
   ·
    refine ntQ (zaj rfl (zac ?_))
    refine zdi (l := (l)) rfl 11 [0, 1, 2, 3, 4, 5, 6, 7, 8, 9, 10] (List.take 11 _) (List.drop 11 _) [[], [], [], [2], [1, 3], [0, 4], [4, 5], [], [4, 7], [4, 6, 8], [4, 8, 9]] [37, 38, 39, 40, 41, 42, 43, 44, 45, 46, 47] (fun i_ vs_ v_ p_ => match i_ with | 0 => v_ = u ∧ p_ = [] | 1 => v_ = .pointer (some ⟨g, 0, none⟩) ∧ p_ = [] | 2 => v_ = u ∧ p_ = [] | 3 => v_ = .int .i64 (A.length : Int) ∧ p_ = [] | 4 => (∃ pm_, p_ = [pm_] ∧ (fun u_ p_ => (∃ x_ : Int, u_ = .int .i64 x_ ∧ 0 ≤ x_ ∧ x_ < (A.length : Int)) ∧ p_ = curE g a len cap) v_ pm_) | 5 => v_ = elP u (((intOf_o (gV9 vs_ 1))).toNat * 1) ∧ p_ = [] | 6 => v_ = .int .i64 (A.getD (((intOf_o (gV9 vs_ 0))).toNat) 0) ∧ p_ = [] | 7 => v_ = .pointer (some ⟨g, 0, none⟩) ∧ p_ = [] | 8 => (∃ pm_, p_ = [pm_] ∧ (fun u_ p_ => (∃ x_ : Int, u_ = .int .i64 x_ ∧ 0 ≤ x_ ∧ x_ < 2) ∧ p_ = curE g a len cap) v_ pm_) | 9 => v_ = .agg #[.int .i64 3, .int .i64 (A.getD (((intOf_o (gV9 vs_ 0))).toNat) 0), .int .i64 (intOf_o (gV9 vs_ 2))] ∧ p_ = [] | 10 => IsRow 97 3 1 ([3, A.getD (((intOf_o (gV9 vs_ 0))).toNat) 0, (intOf_o (gV9 vs_ 1))].map (Value.int .i64)) v_ p_ | _ => True) [[], [], [], [2], [1, 3], [0], [5], [], [7], [6, 8], [8, 9]] [none, none, none, none, some 12, none, none, none, some 4, none, none] [curE g a len cap] [0, 1, 2, 3, 5, 6, 7, 8, 9, 10] 12 (List.take_append_drop 11 _).symm (by kernel_rfl) (by kernel_rfl) (by kernel_rfl) rfl rfl ?_ ?_
    ·
     refine ⟨?_, ?_, ?_, ?_, ?_, ?_, ?_, ?_, ?_, ?_, ?_, trivial⟩
     ·
      intro vf pf hmu hR
      refine dqQ [] [] rfl (zay (zae [1] rfl) ?_)
      exact zbi (zax rfl)
     ·
      intro vf pf hmu hR
      refine dqQ [] [] rfl (zay (zae [0] rfl) ?_)
      exact zbi (zax rfl)
     ·
      intro vf pf hmu hR
      refine dqQ [] [] rfl (zay (zae [1] rfl) ?_)
      exact zbi (zax rfl)
     ·
      intro vf pf hmu hR
      have e2 := hR 2 (by decide)
      refine dqQ [2] [2] rfl (zaq (sk 39 (congrArg some e2.1) (zab _)) (List.sublist_append_right _ _) ?_)
      exact zbi (lnQ rfl rfl rfl (fun w hm => hu w (hm.sub (.refl _))))
     ·
      intro vf pf hmu hR
      have e1 := hR 1 (by decide)
      have e3 := hR 3 (by decide)
      refine Or.inl ⟨rfl, ?_⟩
      show RunM _ _ _ (pf 12) (([1, 3] : List Nat).flatMap pf ++ _) (envOf _ vf [1, 3] ++ _) _ _
      rw [hmu]
      exact zbx (sk 38 (congrArg some e1.1) (sk 40 (congrArg some e3.1) (zab _))) (by simp only [e1.2, e3.2, fS] <;> rfl) (zcn (R := (fun u_ p_ => (∃ x_ : Int, u_ = .int .i64 x_ ∧ 0 ≤ x_ ∧ x_ < (A.length : Int)) ∧ p_ = curE g a len cap)) rfl rfl (fun L w hX hm => zbv g a len cap z (A.length : Int) _ _ _ hm hb (by constructor <;> omega)))
     ·
      intro vf pf hmu hR
      have e0 := hR 0 (by decide)
      have e4 : (∃ pm_, (pf 4) = [pm_] ∧ (fun u_ p_ => (∃ x_ : Int, u_ = .int .i64 x_ ∧ 0 ≤ x_ ∧ x_ < (A.length : Int)) ∧ p_ = curE g a len cap) (vf 4) pm_) := hR 4 (by decide)
      obtain ⟨p85, pE4, hR86⟩ := e4
      obtain ⟨v84, vE4⟩ : ∃ x, vf 4 = x := ⟨_, rfl⟩
      rw [vE4] at hR86
      obtain ⟨⟨xhR86, rfl, xhR860, xhR861⟩, rfl⟩ := hR86
      refine dqQ [0] [0, 4] rfl (zaq (sk 37 (congrArg some e0.1) (sk 41 (congrArg some vE4) (zab _))) (List.sublist_append_right _ _) ?_)
      exact zbo (zbi (riQ 1 rfl rfl rfl rfl (fun w hm => hu w (hm.sub (.refl _))))) (fun _ _ h => ⟨h.1.trans (by show _ = (elP u (((intOf_o (vf 4))).toNat * 1) : Value); first | (rw [vE4]; done) | (rw [vE4]; rfl)), h.2⟩)
     ·
      intro vf pf hmu hR
      have e4 : (∃ pm_, (pf 4) = [pm_] ∧ (fun u_ p_ => (∃ x_ : Int, u_ = .int .i64 x_ ∧ 0 ≤ x_ ∧ x_ < (A.length : Int)) ∧ p_ = curE g a len cap) (vf 4) pm_) := hR 4 (by decide)
      obtain ⟨p85, pE4, hR86⟩ := e4
      obtain ⟨v84, vE4⟩ : ∃ x, vf 4 = x := ⟨_, rfl⟩
      rw [vE4] at hR86
      obtain ⟨⟨xhR86, rfl, xhR860, xhR861⟩, rfl⟩ := hR86
      have e5 : (vf 5) = elP u (((intOf_o (vf 4))).toNat * 1) ∧ (pf 5) = [] := hR 5 (by decide)
      rw [vE4] at e5; try simp only [intOf_o] at e5
      refine dqQ [5] [4, 5] rfl (zaq (sk 42 (congrArg some e5.1) (zab _)) (List.sublist_append_right _ _) ?_)
      exact zbo (zbi (lzQ rfl rfl rfl (fun w hm => hu w (hm.sub (.refl _))))) (fun _ _ h => ⟨h.1.trans (by show _ = (.int .i64 (A.getD (((intOf_o (vf 4))).toNat) 0) : Value); first | (rw [vE4]; done) | (rw [vE4]; rfl)), h.2⟩)
     ·
      intro vf pf hmu hR
      refine dqQ [] [] rfl (zay (zae [0] rfl) ?_)
      exact zbi (zax rfl)
     ·
      intro vf pf hmu hR
      have e4 : (∃ pm_, (pf 4) = [pm_] ∧ (fun u_ p_ => (∃ x_ : Int, u_ = .int .i64 x_ ∧ 0 ≤ x_ ∧ x_ < (A.length : Int)) ∧ p_ = curE g a len cap) (vf 4) pm_) := hR 4 (by decide)
      obtain ⟨p85, pE4, hR86⟩ := e4
      obtain ⟨v84, vE4⟩ : ∃ x, vf 4 = x := ⟨_, rfl⟩
      rw [vE4] at hR86
      obtain ⟨⟨xhR86, rfl, xhR860, xhR861⟩, rfl⟩ := hR86
      have e7 := hR 7 (by decide)
      refine Or.inl ⟨rfl, ?_⟩
      show RunM _ _ _ (pf 4) (([7] : List Nat).flatMap pf ++ _) (envOf _ vf [4, 7] ++ _) _ _
      rw [pE4]
      exact zbx (sk 44 (congrArg some e7.1) (zab _)) (by simp only [e7.2, fS] <;> rfl) (zcn (R := (fun u_ p_ => (∃ x_ : Int, u_ = .int .i64 x_ ∧ 0 ≤ x_ ∧ x_ < 2) ∧ p_ = curE g a len cap)) rfl rfl (fun L w hX hm => zbv g a len cap z 2 _ _ _ hm hb (by constructor <;> omega)))
     ·
      intro vf pf hmu hR
      have e4 : (∃ pm_, (pf 4) = [pm_] ∧ (fun u_ p_ => (∃ x_ : Int, u_ = .int .i64 x_ ∧ 0 ≤ x_ ∧ x_ < (A.length : Int)) ∧ p_ = curE g a len cap) (vf 4) pm_) := hR 4 (by decide)
      obtain ⟨p85, pE4, hR86⟩ := e4
      obtain ⟨v84, vE4⟩ : ∃ x, vf 4 = x := ⟨_, rfl⟩
      rw [vE4] at hR86
      obtain ⟨⟨xhR86, rfl, xhR860, xhR861⟩, rfl⟩ := hR86
      have e6 : (vf 6) = .int .i64 (A.getD (((intOf_o (vf 4))).toNat) 0) ∧ (pf 6) = [] := hR 6 (by decide)
      rw [vE4] at e6; try simp only [intOf_o] at e6
      have e8 : (∃ pm_, (pf 8) = [pm_] ∧ (fun u_ p_ => (∃ x_ : Int, u_ = .int .i64 x_ ∧ 0 ≤ x_ ∧ x_ < 2) ∧ p_ = curE g a len cap) (vf 8) pm_) := hR 8 (by decide)
      obtain ⟨p88, pE8, hR89⟩ := e8
      obtain ⟨v87, vE8⟩ : ∃ x, vf 8 = x := ⟨_, rfl⟩
      rw [vE8] at hR89
      obtain ⟨⟨xhR89, rfl, xhR890, xhR891⟩, rfl⟩ := hR89
      refine dqQ [6, 8] [4, 6, 8] rfl (zbg (sk 43 (congrArg some e6.1) (sk 45 (congrArg some vE8) (zab _))) (by simp only [pE8, vE8, e6.2, fS] <;> rfl) ?_)
      exact zbo (zbi (zct (cs := #[.int .i64 3, .int .i64 (A.getD ((xhR86).toNat) 0), .int .i64 xhR89]) rfl rfl rfl)) (fun _ _ h => ⟨h.1.trans (by show _ = (.agg #[.int .i64 3, .int .i64 (A.getD (((intOf_o (vf 4))).toNat) 0), .int .i64 (intOf_o (vf 8))] : Value); first | (rw [vE4, vE8]; done) | (rw [vE4, vE8]; rfl)), h.2⟩)
     intro vf pf hmu hR
     have e4 : (∃ pm_, (pf 4) = [pm_] ∧ (fun u_ p_ => (∃ x_ : Int, u_ = .int .i64 x_ ∧ 0 ≤ x_ ∧ x_ < (A.length : Int)) ∧ p_ = curE g a len cap) (vf 4) pm_) := hR 4 (by decide)
     obtain ⟨p85, pE4, hR86⟩ := e4
     obtain ⟨v84, vE4⟩ : ∃ x, vf 4 = x := ⟨_, rfl⟩
     rw [vE4] at hR86
     obtain ⟨⟨xhR86, rfl, xhR860, xhR861⟩, rfl⟩ := hR86
     have e8 : (∃ pm_, (pf 8) = [pm_] ∧ (fun u_ p_ => (∃ x_ : Int, u_ = .int .i64 x_ ∧ 0 ≤ x_ ∧ x_ < 2) ∧ p_ = curE g a len cap) (vf 8) pm_) := hR 8 (by decide)
     obtain ⟨p88, pE8, hR89⟩ := e8
     obtain ⟨v87, vE8⟩ : ∃ x, vf 8 = x := ⟨_, rfl⟩
     rw [vE8] at hR89
     obtain ⟨⟨xhR89, rfl, xhR890, xhR891⟩, rfl⟩ := hR89
     have e9 : (vf 9) = .agg #[.int .i64 3, .int .i64 (A.getD (((intOf_o (vf 4))).toNat) 0), .int .i64 (intOf_o (vf 8))] ∧ (pf 9) = [] := hR 9 (by decide)
     rw [vE4, vE8] at e9; try simp only [intOf_o] at e9
     refine dqQ [8, 9] [4, 8, 9] rfl (zbg (sk 46 (congrArg some e9.1) (zab _)) (by simp only [pE8, vE8, e9.2, fS] <;> rfl) ?_)
     exact zbo (zas (z := .agg #[.int .i64 0, .int .i64 0, .int .i64 0]) (s := 3) (cs := ([3, A.getD ((xhR86).toNat) 0, xhR89].map (Value.int .i64))) rfl Try.underlying71 rfl (by decide) rfl (by kernel_rfl) rfl) (fun v_ p_ h => by show IsRow 97 3 1 ([3, A.getD (((intOf_o (vf 4))).toNat) 0, (intOf_o (vf 8))].map (Value.int .i64)) v_ p_; rw [vE4, vE8]; exact h)
    intro vf pf hmu hR
    have e4 : (∃ pm_, (pf 4) = [pm_] ∧ (fun u_ p_ => (∃ x_ : Int, u_ = .int .i64 x_ ∧ 0 ≤ x_ ∧ x_ < (A.length : Int)) ∧ p_ = curE g a len cap) (vf 4) pm_) := hR 4 (by decide)
    obtain ⟨p85, pE4, hR86⟩ := e4
    obtain ⟨v84, vE4⟩ : ∃ x, vf 4 = x := ⟨_, rfl⟩
    rw [vE4] at hR86
    obtain ⟨⟨xhR86, rfl, xhR860, xhR861⟩, rfl⟩ := hR86
    have e8 : (∃ pm_, (pf 8) = [pm_] ∧ (fun u_ p_ => (∃ x_ : Int, u_ = .int .i64 x_ ∧ 0 ≤ x_ ∧ x_ < 2) ∧ p_ = curE g a len cap) (vf 8) pm_) := hR 8 (by decide)
    obtain ⟨p88, pE8, hR89⟩ := e8
    obtain ⟨v87, vE8⟩ : ∃ x, vf 8 = x := ⟨_, rfl⟩
    rw [vE8] at hR89
    obtain ⟨⟨xhR89, rfl, xhR890, xhR891⟩, rfl⟩ := hR89
    have e10 : IsRow 97 3 1 ([3, A.getD (((intOf_o (vf 4))).toNat) 0, (intOf_o (vf 8))].map (Value.int .i64)) (vf 10) (pf 10) := hR 10 (by decide)
    rw [vE4, vE8] at e10; try simp only [intOf_o] at e10
    obtain ⟨g90, vE10, pE10⟩ := e10
    have q0 := hR 0 (by decide)
    have q1 := hR 1 (by decide)
    have q2 := hR 2 (by decide)
    have q3 := hR 3 (by decide)
    have q5 := hR 5 (by decide)
    have q6 := hR 6 (by decide)
    have q7 := hR 7 (by decide)
    have q9 := hR 9 (by decide)
    refine zcd (zbs [36, 31, 25, 19, 18, 16, 6, 2, 1, 0] _ (sk 47 (congrArg some vE10) (zab _)) rfl) (by simp only [pE8, vE8, pE10, vE10, q0.2, q1.2, q2.2, q3.2, q5.2, q6.2, q7.2, q9.2, fS] <;> rfl) ?_
    simp only [List.drop_succ_cons, List.drop_zero]
    refine zbc 1 rfl ?_
    refine zak (zaf ?_)
    refine zfv ?_
    have hA8 := hA _ (zbd (d := (0 : Int)) (show xhR86.toNat < A.length by omega))
    refine zaz 2 [1, 0] rfl rfl (by decide) ?_
    refine zbk 2 rfl ?_
    exact zcf (rs := [.tmp 6]) (vs := [.slice (some ⟨g90, 0, none⟩) 1 1]) rfl ⟨rfl, trivial⟩ rfl (fun w hm => ⟨_, bigE [curE g a len cap, rowE 97 3 (.slice (some ⟨g90, 0, none⟩) 1 1) 1 ([3, A.getD ((xhR86).toNat) 0, xhR89].map (Value.int .i64))], rfl, ⟨[Oq.mk 3 (A.getD ((xhR86).toNat) 0) xhR89], rfl, zdm (by first | exact .inl ⟨rfl, ⟨by dsimp only; omega, by dsimp only; omega⟩, rfl⟩ | exact .inr (.inl ⟨rfl, ⟨by dsimp only; omega, by dsimp only; omega⟩, rfl⟩) | exact .inr (.inr (.inl ⟨rfl, ⟨by dsimp only; omega, by dsimp only; omega⟩, by dsimp only; omega, by dsimp only; omega⟩)) | exact .inr (.inr (.inr ⟨by decide, by decide, by decide, by decide, rfl, rfl⟩))) rfl (by omega)⟩, hm.sub (.refl _)⟩)
   refine ntQ (fsQ rfl (zdn (zac (zac (reQ 1 rfl ?_)))))
   refine hvQ rfl (lnQ rfl rfl rfl (fun w hm => hu w (hm.sub (.cons _ (.refl _))))) (zbj rfl rfl rfl rfl rfl rfl (fun h91 => ?_) (fun h91 => ?_))
   ·
    refine ntQ (zaj rfl (srQ (hvQ rfl (zct (cs := #[.int .i64 0, .int .i64 1, .int .i64 0]) rfl rfl rfl) ?_)))
    refine zey rfl (zas (z := .agg #[.int .i64 0, .int .i64 0, .int .i64 0]) (s := 3) (cs := ([0, 1, 0].map (Value.int .i64))) rfl Try.underlying71 rfl (by decide) rfl (by kernel_rfl) rfl) ?_
    intro g92
    refine zbc 1 rfl ?_
    refine zak (zfv ?_)
    refine zaz 2 [0, 1] rfl rfl (by decide) ?_
    refine zbk 2 rfl ?_
    exact zcf (rs := [.tmp 6]) (vs := [.slice (some ⟨g92, 0, none⟩) 1 1]) rfl ⟨rfl, trivial⟩ rfl (fun w hm => ⟨_, bigE [curE g a len cap, rowE 97 3 (.slice (some ⟨g92, 0, none⟩) 1 1) 1 ([0, 1, 0].map (Value.int .i64))], rfl, ⟨[Oq.mk 0 1 0], rfl, zdm (by first | exact .inl ⟨rfl, ⟨by dsimp only; omega, by dsimp only; omega⟩, rfl⟩ | exact .inr (.inl ⟨rfl, ⟨by dsimp only; omega, by dsimp only; omega⟩, rfl⟩) | exact .inr (.inr (.inl ⟨rfl, ⟨by dsimp only; omega, by dsimp only; omega⟩, by dsimp only; omega, by dsimp only; omega⟩)) | exact .inr (.inr (.inr ⟨by decide, by decide, by decide, by decide, rfl, rfl⟩))) rfl (by omega)⟩, hm.sub (.refl _)⟩)
   refine ntQ (zal rfl (zdb (zac (reQ 3 rfl ?_))))
   refine hvQ rfl (lnQ rfl rfl rfl (fun w hm => hu w (hm.sub (.cons _ (.refl _))))) (zch (R := (fun u_ p_ => (∃ x_ : Int, u_ = .int .i64 x_ ∧ 0 ≤ x_ ∧ x_ < (A.length : Int)) ∧ p_ = curE g a len cap)) 0 rfl rfl rfl rfl rfl (fun l' w hm => zbv g a len cap z (A.length : Int) _ _ _ hm hb (by constructor <;> omega)) ?_)
   intro v93 p94 hR95
   obtain ⟨⟨xhR95, rfl, xhR950, xhR951⟩, rfl⟩ := hR95
   refine zck (l' := (curE g a len cap :: l)) rfl ?_
   refine hvQ rfl (riQ 1 rfl rfl rfl rfl (fun w hm => hu w (hm.sub (.cons _ (.refl _))))) (hvQ rfl (lzQ rfl rfl rfl (fun w hm => hu w (hm.sub (.cons _ (.refl _))))) ?_)
   refine hvQ rfl (zct (cs := #[.int .i64 2, .int .i64 (A.getD ((xhR95).toNat) 0), .int .i64 0]) rfl rfl rfl) (zey rfl (zas (z := .agg #[.int .i64 0, .int .i64 0, .int .i64 0]) (s := 3) (cs := ([2, A.getD ((xhR95).toNat) 0, 0].map (Value.int .i64))) rfl Try.underlying71 rfl (by decide) rfl (by kernel_rfl) rfl) ?_)
   intro g96
   refine zbc 1 rfl ?_
   refine zak (zad ?_)
   have hA8 := hA _ (zbd (d := (0 : Int)) (show xhR95.toNat < A.length by omega))
   refine zaz 2 [0, 1] rfl rfl (by decide) ?_
   refine zbk 2 rfl ?_
   exact zcf (rs := [.tmp 6]) (vs := [.slice (some ⟨g96, 0, none⟩) 1 1]) rfl ⟨rfl, trivial⟩ rfl (fun w hm => ⟨_, bigE [curE g a len cap, rowE 97 3 (.slice (some ⟨g96, 0, none⟩) 1 1) 1 ([2, A.getD ((xhR95).toNat) 0, 0].map (Value.int .i64))], rfl, ⟨[Oq.mk 2 (A.getD ((xhR95).toNat) 0) 0], rfl, zdm (by first | exact .inl ⟨rfl, ⟨by dsimp only; omega, by dsimp only; omega⟩, rfl⟩ | exact .inr (.inl ⟨rfl, ⟨by dsimp only; omega, by dsimp only; omega⟩, rfl⟩) | exact .inr (.inr (.inl ⟨rfl, ⟨by dsimp only; omega, by dsimp only; omega⟩, by dsimp only; omega, by dsimp only; omega⟩)) | exact .inr (.inr (.inr ⟨by decide, by decide, by decide, by decide, rfl, rfl⟩))) rfl (by omega)⟩, hm.sub (.refl _)⟩)
  refine zbc 1 rfl (zal rfl (zav ?_))
  refine zbj rfl rfl rfl rfl rfl rfl (fun h97 => ?_) (fun h97 => ?_)
  ·
   refine zbc 1 rfl (zaj rfl (zac (reQ 1 rfl ?_)))
   refine hvQ rfl (lnQ rfl rfl rfl (fun w hm => hu w (hm.sub (.cons _ (.refl _))))) (zeq rfl rfl rfl rfl rfl rfl (fun h98 => ?_) (fun h98 => ?_))
   ·
    refine ntQ (zaj rfl (zac ?_))
    refine zdi (l := (l)) rfl 11 [0, 1, 2, 3, 4, 5, 6, 7, 8, 9, 10] (List.take 11 _) (List.drop 11 _) [[], [], [], [2], [1, 3], [0, 4], [4, 5], [], [4, 7], [4, 6, 8], [4, 8, 9]] [37, 38, 39, 40, 41, 42, 43, 44, 45, 46, 47] (fun i_ vs_ v_ p_ => match i_ with | 0 => v_ = u ∧ p_ = [] | 1 => v_ = .pointer (some ⟨g, 0, none⟩) ∧ p_ = [] | 2 => v_ = u ∧ p_ = [] | 3 => v_ = .int .i64 (A.length : Int) ∧ p_ = [] | 4 => (∃ pm_, p_ = [pm_] ∧ (fun u_ p_ => (∃ x_ : Int, u_ = .int .i64 x_ ∧ 0 ≤ x_ ∧ x_ < (A.length : Int)) ∧ p_ = curE g a len cap) v_ pm_) | 5 => v_ = elP u (((intOf_o (gV9 vs_ 1))).toNat * 1) ∧ p_ = [] | 6 => v_ = .int .i64 (A.getD (((intOf_o (gV9 vs_ 0))).toNat) 0) ∧ p_ = [] | 7 => v_ = .pointer (some ⟨g, 0, none⟩) ∧ p_ = [] | 8 => (∃ pm_, p_ = [pm_] ∧ (fun u_ p_ => (∃ x_ : Int, u_ = .int .i64 x_ ∧ 0 ≤ x_ ∧ x_ < 2) ∧ p_ = curE g a len cap) v_ pm_) | 9 => v_ = .agg #[.int .i64 3, .int .i64 (A.getD (((intOf_o (gV9 vs_ 0))).toNat) 0), .int .i64 (intOf_o (gV9 vs_ 2))] ∧ p_ = [] | 10 => IsRow 97 3 1 ([3, A.getD (((intOf_o (gV9 vs_ 0))).toNat) 0, (intOf_o (gV9 vs_ 1))].map (Value.int .i64)) v_ p_ | _ => True) [[], [], [], [2], [1, 3], [0], [5], [], [7], [6, 8], [8, 9]] [none, none, none, none, some 12, none, none, none, some 4, none, none] [curE g a len cap] [0, 1, 2, 3, 5, 6, 7, 8, 9, 10] 12 (List.take_append_drop 11 _).symm (by kernel_rfl) (by kernel_rfl) (by kernel_rfl) rfl rfl ?_ ?_
    ·
     refine ⟨?_, ?_, ?_, ?_, ?_, ?_, ?_, ?_, ?_, ?_, ?_, trivial⟩
     ·
      intro vf pf hmu hR
      refine dqQ [] [] rfl (zay (zae [1] rfl) ?_)
      exact zbi (zax rfl)
     ·
      intro vf pf hmu hR
      refine dqQ [] [] rfl (zay (zae [0] rfl) ?_)
      exact zbi (zax rfl)
     ·
      intro vf pf hmu hR
      refine dqQ [] [] rfl (zay (zae [1] rfl) ?_)
      exact zbi (zax rfl)
     ·
      intro vf pf hmu hR
      have e2 := hR 2 (by decide)
      refine dqQ [2] [2] rfl (zaq (sk 39 (congrArg some e2.1) (zab _)) (List.sublist_append_right _ _) ?_)
      exact zbi (lnQ rfl rfl rfl (fun w hm => hu w (hm.sub (.refl _))))
     ·
      intro vf pf hmu hR
      have e1 := hR 1 (by decide)
      have e3 := hR 3 (by decide)
      refine Or.inl ⟨rfl, ?_⟩
      show RunM _ _ _ (pf 12) (([1, 3] : List Nat).flatMap pf ++ _) (envOf _ vf [1, 3] ++ _) _ _
      rw [hmu]
      exact zbx (sk 38 (congrArg some e1.1) (sk 40 (congrArg some e3.1) (zab _))) (by simp only [e1.2, e3.2, fS] <;> rfl) (zcn (R := (fun u_ p_ => (∃ x_ : Int, u_ = .int .i64 x_ ∧ 0 ≤ x_ ∧ x_ < (A.length : Int)) ∧ p_ = curE g a len cap)) rfl rfl (fun L w hX hm => zbv g a len cap z (A.length : Int) _ _ _ hm hb (by constructor <;> omega)))
     ·
      intro vf pf hmu hR
      have e0 := hR 0 (by decide)
      have e4 : (∃ pm_, (pf 4) = [pm_] ∧ (fun u_ p_ => (∃ x_ : Int, u_ = .int .i64 x_ ∧ 0 ≤ x_ ∧ x_ < (A.length : Int)) ∧ p_ = curE g a len cap) (vf 4) pm_) := hR 4 (by decide)
      obtain ⟨p100, pE4, hR101⟩ := e4
      obtain ⟨v99, vE4⟩ : ∃ x, vf 4 = x := ⟨_, rfl⟩
      rw [vE4] at hR101
      obtain ⟨⟨xhR101, rfl, xhR1010, xhR1011⟩, rfl⟩ := hR101
      refine dqQ [0] [0, 4] rfl (zaq (sk 37 (congrArg some e0.1) (sk 41 (congrArg some vE4) (zab _))) (List.sublist_append_right _ _) ?_)
      exact zbo (zbi (riQ 1 rfl rfl rfl rfl (fun w hm => hu w (hm.sub (.refl _))))) (fun _ _ h => ⟨h.1.trans (by show _ = (elP u (((intOf_o (vf 4))).toNat * 1) : Value); first | (rw [vE4]; done) | (rw [vE4]; rfl)), h.2⟩)
     ·
      intro vf pf hmu hR
      have e4 : (∃ pm_, (pf 4) = [pm_] ∧ (fun u_ p_ => (∃ x_ : Int, u_ = .int .i64 x_ ∧ 0 ≤ x_ ∧ x_ < (A.length : Int)) ∧ p_ = curE g a len cap) (vf 4) pm_) := hR 4 (by decide)
      obtain ⟨p100, pE4, hR101⟩ := e4
      obtain ⟨v99, vE4⟩ : ∃ x, vf 4 = x := ⟨_, rfl⟩
      rw [vE4] at hR101
      obtain ⟨⟨xhR101, rfl, xhR1010, xhR1011⟩, rfl⟩ := hR101
      have e5 : (vf 5) = elP u (((intOf_o (vf 4))).toNat * 1) ∧ (pf 5) = [] := hR 5 (by decide)
      rw [vE4] at e5; try simp only [intOf_o] at e5
      refine dqQ [5] [4, 5] rfl (zaq (sk 42 (congrArg some e5.1) (zab _)) (List.sublist_append_right _ _) ?_)
      exact zbo (zbi (lzQ rfl rfl rfl (fun w hm => hu w (hm.sub (.refl _))))) (fun _ _ h => ⟨h.1.trans (by show _ = (.int .i64 (A.getD (((intOf_o (vf 4))).toNat) 0) : Value); first | (rw [vE4]; done) | (rw [vE4]; rfl)), h.2⟩)
     ·
      intro vf pf hmu hR
      refine dqQ [] [] rfl (zay (zae [0] rfl) ?_)
      exact zbi (zax rfl)
     ·
      intro vf pf hmu hR
      have e4 : (∃ pm_, (pf 4) = [pm_] ∧ (fun u_ p_ => (∃ x_ : Int, u_ = .int .i64 x_ ∧ 0 ≤ x_ ∧ x_ < (A.length : Int)) ∧ p_ = curE g a len cap) (vf 4) pm_) := hR 4 (by decide)
      obtain ⟨p100, pE4, hR101⟩ := e4
      obtain ⟨v99, vE4⟩ : ∃ x, vf 4 = x := ⟨_, rfl⟩
      rw [vE4] at hR101
      obtain ⟨⟨xhR101, rfl, xhR1010, xhR1011⟩, rfl⟩ := hR101
      have e7 := hR 7 (by decide)
      refine Or.inl ⟨rfl, ?_⟩
      show RunM _ _ _ (pf 4) (([7] : List Nat).flatMap pf ++ _) (envOf _ vf [4, 7] ++ _) _ _
      rw [pE4]
      exact zbx (sk 44 (congrArg some e7.1) (zab _)) (by simp only [e7.2, fS] <;> rfl) (zcn (R := (fun u_ p_ => (∃ x_ : Int, u_ = .int .i64 x_ ∧ 0 ≤ x_ ∧ x_ < 2) ∧ p_ = curE g a len cap)) rfl rfl (fun L w hX hm => zbv g a len cap z 2 _ _ _ hm hb (by constructor <;> omega)))
     ·
      intro vf pf hmu hR
      have e4 : (∃ pm_, (pf 4) = [pm_] ∧ (fun u_ p_ => (∃ x_ : Int, u_ = .int .i64 x_ ∧ 0 ≤ x_ ∧ x_ < (A.length : Int)) ∧ p_ = curE g a len cap) (vf 4) pm_) := hR 4 (by decide)
      obtain ⟨p100, pE4, hR101⟩ := e4
      obtain ⟨v99, vE4⟩ : ∃ x, vf 4 = x := ⟨_, rfl⟩
      rw [vE4] at hR101
      obtain ⟨⟨xhR101, rfl, xhR1010, xhR1011⟩, rfl⟩ := hR101
      have e6 : (vf 6) = .int .i64 (A.getD (((intOf_o (vf 4))).toNat) 0) ∧ (pf 6) = [] := hR 6 (by decide)
      rw [vE4] at e6; try simp only [intOf_o] at e6
      have e8 : (∃ pm_, (pf 8) = [pm_] ∧ (fun u_ p_ => (∃ x_ : Int, u_ = .int .i64 x_ ∧ 0 ≤ x_ ∧ x_ < 2) ∧ p_ = curE g a len cap) (vf 8) pm_) := hR 8 (by decide)
      obtain ⟨p103, pE8, hR104⟩ := e8
      obtain ⟨v102, vE8⟩ : ∃ x, vf 8 = x := ⟨_, rfl⟩
      rw [vE8] at hR104
      obtain ⟨⟨xhR104, rfl, xhR1040, xhR1041⟩, rfl⟩ := hR104
      refine dqQ [6, 8] [4, 6, 8] rfl (zbg (sk 43 (congrArg some e6.1) (sk 45 (congrArg some vE8) (zab _))) (by simp only [pE8, vE8, e6.2, fS] <;> rfl) ?_)
      exact zbo (zbi (zct (cs := #[.int .i64 3, .int .i64 (A.getD ((xhR101).toNat) 0), .int .i64 xhR104]) rfl rfl rfl)) (fun _ _ h => ⟨h.1.trans (by show _ = (.agg #[.int .i64 3, .int .i64 (A.getD (((intOf_o (vf 4))).toNat) 0), .int .i64 (intOf_o (vf 8))] : Value); first | (rw [vE4, vE8]; done) | (rw [vE4, vE8]; rfl)), h.2⟩)
     intro vf pf hmu hR
     have e4 : (∃ pm_, (pf 4) = [pm_] ∧ (fun u_ p_ => (∃ x_ : Int, u_ = .int .i64 x_ ∧ 0 ≤ x_ ∧ x_ < (A.length : Int)) ∧ p_ = curE g a len cap) (vf 4) pm_) := hR 4 (by decide)
     obtain ⟨p100, pE4, hR101⟩ := e4
     obtain ⟨v99, vE4⟩ : ∃ x, vf 4 = x := ⟨_, rfl⟩
     rw [vE4] at hR101
     obtain ⟨⟨xhR101, rfl, xhR1010, xhR1011⟩, rfl⟩ := hR101
     have e8 : (∃ pm_, (pf 8) = [pm_] ∧ (fun u_ p_ => (∃ x_ : Int, u_ = .int .i64 x_ ∧ 0 ≤ x_ ∧ x_ < 2) ∧ p_ = curE g a len cap) (vf 8) pm_) := hR 8 (by decide)
     obtain ⟨p103, pE8, hR104⟩ := e8
     obtain ⟨v102, vE8⟩ : ∃ x, vf 8 = x := ⟨_, rfl⟩
     rw [vE8] at hR104
     obtain ⟨⟨xhR104, rfl, xhR1040, xhR1041⟩, rfl⟩ := hR104
     have e9 : (vf 9) = .agg #[.int .i64 3, .int .i64 (A.getD (((intOf_o (vf 4))).toNat) 0), .int .i64 (intOf_o (vf 8))] ∧ (pf 9) = [] := hR 9 (by decide)
     rw [vE4, vE8] at e9; try simp only [intOf_o] at e9
     refine dqQ [8, 9] [4, 8, 9] rfl (zbg (sk 46 (congrArg some e9.1) (zab _)) (by simp only [pE8, vE8, e9.2, fS] <;> rfl) ?_)
     exact zbo (zas (z := .agg #[.int .i64 0, .int .i64 0, .int .i64 0]) (s := 3) (cs := ([3, A.getD ((xhR101).toNat) 0, xhR104].map (Value.int .i64))) rfl Try.underlying71 rfl (by decide) rfl (by kernel_rfl) rfl) (fun v_ p_ h => by show IsRow 97 3 1 ([3, A.getD (((intOf_o (vf 4))).toNat) 0, (intOf_o (vf 8))].map (Value.int .i64)) v_ p_; rw [vE4, vE8]; exact h)
    intro vf pf hmu hR
    have e4 : (∃ pm_, (pf 4) = [pm_] ∧ (fun u_ p_ => (∃ x_ : Int, u_ = .int .i64 x_ ∧ 0 ≤ x_ ∧ x_ < (A.length : Int)) ∧ p_ = curE g a len cap) (vf 4) pm_) := hR 4 (by decide)
    obtain ⟨p100, pE4, hR101⟩ := e4
    obtain ⟨v99, vE4⟩ : ∃ x, vf 4 = x := ⟨_, rfl⟩
    rw [vE4] at hR101
    obtain ⟨⟨xhR101, rfl, xhR1010, xhR1011⟩, rfl⟩ := hR101
    have e8 : (∃ pm_, (pf 8) = [pm_] ∧ (fun u_ p_ => (∃ x_ : Int, u_ = .int .i64 x_ ∧ 0 ≤ x_ ∧ x_ < 2) ∧ p_ = curE g a len cap) (vf 8) pm_) := hR 8 (by decide)
    obtain ⟨p103, pE8, hR104⟩ := e8
    obtain ⟨v102, vE8⟩ : ∃ x, vf 8 = x := ⟨_, rfl⟩
    rw [vE8] at hR104
    obtain ⟨⟨xhR104, rfl, xhR1040, xhR1041⟩, rfl⟩ := hR104
    have e10 : IsRow 97 3 1 ([3, A.getD (((intOf_o (vf 4))).toNat) 0, (intOf_o (vf 8))].map (Value.int .i64)) (vf 10) (pf 10) := hR 10 (by decide)
    rw [vE4, vE8] at e10; try simp only [intOf_o] at e10
    obtain ⟨g105, vE10, pE10⟩ := e10
    have q0 := hR 0 (by decide)
    have q1 := hR 1 (by decide)
    have q2 := hR 2 (by decide)
    have q3 := hR 3 (by decide)
    have q5 := hR 5 (by decide)
    have q6 := hR 6 (by decide)
    have q7 := hR 7 (by decide)
    have q9 := hR 9 (by decide)
    refine zcd (zbs [36, 31, 25, 19, 18, 16, 6, 2, 1, 0] _ (sk 47 (congrArg some vE10) (zab _)) rfl) (by simp only [pE8, vE8, pE10, vE10, q0.2, q1.2, q2.2, q3.2, q5.2, q6.2, q7.2, q9.2, fS] <;> rfl) ?_
    simp only [List.drop_succ_cons, List.drop_zero]
    refine zbc 1 rfl ?_
    refine zak (zaf ?_)
    refine zfv ?_
    have hA8 := hA _ (zbd (d := (0 : Int)) (show xhR101.toNat < A.length by omega))
    refine zaz 2 [1, 0] rfl rfl (by decide) ?_
    refine zbk 2 rfl ?_
    exact zcf (rs := [.tmp 6]) (vs := [.slice (some ⟨g105, 0, none⟩) 1 1]) rfl ⟨rfl, trivial⟩ rfl (fun w hm => ⟨_, bigE [curE g a len cap, rowE 97 3 (.slice (some ⟨g105, 0, none⟩) 1 1) 1 ([3, A.getD ((xhR101).toNat) 0, xhR104].map (Value.int .i64))], rfl, ⟨[Oq.mk 3 (A.getD ((xhR101).toNat) 0) xhR104], rfl, zdm (by first | exact .inl ⟨rfl, ⟨by dsimp only; omega, by dsimp only; omega⟩, rfl⟩ | exact .inr (.inl ⟨rfl, ⟨by dsimp only; omega, by dsimp only; omega⟩, rfl⟩) | exact .inr (.inr (.inl ⟨rfl, ⟨by dsimp only; omega, by dsimp only; omega⟩, by dsimp only; omega, by dsimp only; omega⟩)) | exact .inr (.inr (.inr ⟨by decide, by decide, by decide, by decide, rfl, rfl⟩))) rfl (by omega)⟩, hm.sub (.refl _)⟩)
   refine ntQ (fsQ rfl (zdn (zac (zac (reQ 1 rfl ?_)))))
   refine hvQ rfl (lnQ rfl rfl rfl (fun w hm => hu w (hm.sub (.cons _ (.refl _))))) (zbj rfl rfl rfl rfl rfl rfl (fun h106 => ?_) (fun h106 => ?_))
   ·
    refine ntQ (zaj rfl (srQ (hvQ rfl (zct (cs := #[.int .i64 0, .int .i64 1, .int .i64 0]) rfl rfl rfl) ?_)))
    refine zey rfl (zas (z := .agg #[.int .i64 0, .int .i64 0, .int .i64 0]) (s := 3) (cs := ([0, 1, 0].map (Value.int .i64))) rfl Try.underlying71 rfl (by decide) rfl (by kernel_rfl) rfl) ?_
    intro g107
    refine zbc 1 rfl ?_
    refine zak (zfv ?_)
    refine zaz 2 [0, 1] rfl rfl (by decide) ?_
    refine zbk 2 rfl ?_
    exact zcf (rs := [.tmp 6]) (vs := [.slice (some ⟨g107, 0, none⟩) 1 1]) rfl ⟨rfl, trivial⟩ rfl (fun w hm => ⟨_, bigE [curE g a len cap, rowE 97 3 (.slice (some ⟨g107, 0, none⟩) 1 1) 1 ([0, 1, 0].map (Value.int .i64))], rfl, ⟨[Oq.mk 0 1 0], rfl, zdm (by first | exact .inl ⟨rfl, ⟨by dsimp only; omega, by dsimp only; omega⟩, rfl⟩ | exact .inr (.inl ⟨rfl, ⟨by dsimp only; omega, by dsimp only; omega⟩, rfl⟩) | exact .inr (.inr (.inl ⟨rfl, ⟨by dsimp only; omega, by dsimp only; omega⟩, by dsimp only; omega, by dsimp only; omega⟩)) | exact .inr (.inr (.inr ⟨by decide, by decide, by decide, by decide, rfl, rfl⟩))) rfl (by omega)⟩, hm.sub (.refl _)⟩)
   refine ntQ (zal rfl (zdb (zac (reQ 3 rfl ?_))))
   refine hvQ rfl (lnQ rfl rfl rfl (fun w hm => hu w (hm.sub (.cons _ (.refl _))))) (zch (R := (fun u_ p_ => (∃ x_ : Int, u_ = .int .i64 x_ ∧ 0 ≤ x_ ∧ x_ < (A.length : Int)) ∧ p_ = curE g a len cap)) 0 rfl rfl rfl rfl rfl (fun l' w hm => zbv g a len cap z (A.length : Int) _ _ _ hm hb (by constructor <;> omega)) ?_)
   intro v108 p109 hR110
   obtain ⟨⟨xhR110, rfl, xhR1100, xhR1101⟩, rfl⟩ := hR110
   refine zck (l' := (curE g a len cap :: l)) rfl ?_
   refine hvQ rfl (riQ 1 rfl rfl rfl rfl (fun w hm => hu w (hm.sub (.cons _ (.refl _))))) (hvQ rfl (lzQ rfl rfl rfl (fun w hm => hu w (hm.sub (.cons _ (.refl _))))) ?_)
   refine hvQ rfl (zct (cs := #[.int .i64 2, .int .i64 (A.getD ((xhR110).toNat) 0), .int .i64 0]) rfl rfl rfl) (zey rfl (zas (z := .agg #[.int .i64 0, .int .i64 0, .int .i64 0]) (s := 3) (cs := ([2, A.getD ((xhR110).toNat) 0, 0].map (Value.int .i64))) rfl Try.underlying71 rfl (by decide) rfl (by kernel_rfl) rfl) ?_)
   intro g111
   refine zbc 1 rfl ?_
   refine zak (zad ?_)
   have hA8 := hA _ (zbd (d := (0 : Int)) (show xhR110.toNat < A.length by omega))
   refine zaz 2 [0, 1] rfl rfl (by decide) ?_
   refine zbk 2 rfl ?_
   exact zcf (rs := [.tmp 6]) (vs := [.slice (some ⟨g111, 0, none⟩) 1 1]) rfl ⟨rfl, trivial⟩ rfl (fun w hm => ⟨_, bigE [curE g a len cap, rowE 97 3 (.slice (some ⟨g111, 0, none⟩) 1 1) 1 ([2, A.getD ((xhR110).toNat) 0, 0].map (Value.int .i64))], rfl, ⟨[Oq.mk 2 (A.getD ((xhR110).toNat) 0) 0], rfl, zdm (by first | exact .inl ⟨rfl, ⟨by dsimp only; omega, by dsimp only; omega⟩, rfl⟩ | exact .inr (.inl ⟨rfl, ⟨by dsimp only; omega, by dsimp only; omega⟩, rfl⟩) | exact .inr (.inr (.inl ⟨rfl, ⟨by dsimp only; omega, by dsimp only; omega⟩, by dsimp only; omega, by dsimp only; omega⟩)) | exact .inr (.inr (.inr ⟨by decide, by decide, by decide, by decide, rfl, rfl⟩))) rfl (by omega)⟩, hm.sub (.refl _)⟩)
  refine zbc 1 rfl (fsQ rfl (zdn (zac (zac (reQ 1 rfl ?_)))))
  refine hvQ rfl (lnQ rfl rfl rfl (fun w hm => hu w (hm.sub (.cons _ (.refl _))))) (zbj rfl rfl rfl rfl rfl rfl (fun h112 => ?_) (fun h112 => ?_))
  ·
   refine ntQ (zaj rfl (srQ (hvQ rfl (zct (cs := #[.int .i64 0, .int .i64 1, .int .i64 0]) rfl rfl rfl) ?_)))
   refine zey rfl (zas (z := .agg #[.int .i64 0, .int .i64 0, .int .i64 0]) (s := 3) (cs := ([0, 1, 0].map (Value.int .i64))) rfl Try.underlying71 rfl (by decide) rfl (by kernel_rfl) rfl) ?_
   intro g113
   refine zbc 1 rfl ?_
   refine zak (zfv ?_)
   refine zaz 2 [0, 1] rfl rfl (by decide) ?_
   refine zbk 2 rfl ?_
   exact zcf (rs := [.tmp 6]) (vs := [.slice (some ⟨g113, 0, none⟩) 1 1]) rfl ⟨rfl, trivial⟩ rfl (fun w hm => ⟨_, bigE [curE g a len cap, rowE 97 3 (.slice (some ⟨g113, 0, none⟩) 1 1) 1 ([0, 1, 0].map (Value.int .i64))], rfl, ⟨[Oq.mk 0 1 0], rfl, zdm (by first | exact .inl ⟨rfl, ⟨by dsimp only; omega, by dsimp only; omega⟩, rfl⟩ | exact .inr (.inl ⟨rfl, ⟨by dsimp only; omega, by dsimp only; omega⟩, rfl⟩) | exact .inr (.inr (.inl ⟨rfl, ⟨by dsimp only; omega, by dsimp only; omega⟩, by dsimp only; omega, by dsimp only; omega⟩)) | exact .inr (.inr (.inr ⟨by decide, by decide, by decide, by decide, rfl, rfl⟩))) rfl (by omega)⟩, hm.sub (.refl _)⟩)
  refine ntQ (zal rfl (zdb (zac (reQ 3 rfl ?_))))
  refine hvQ rfl (lnQ rfl rfl rfl (fun w hm => hu w (hm.sub (.cons _ (.refl _))))) (zch (R := (fun u_ p_ => (∃ x_ : Int, u_ = .int .i64 x_ ∧ 0 ≤ x_ ∧ x_ < (A.length : Int)) ∧ p_ = curE g a len cap)) 0 rfl rfl rfl rfl rfl (fun l' w hm => zbv g a len cap z (A.length : Int) _ _ _ hm hb (by constructor <;> omega)) ?_)
  intro v114 p115 hR116
  obtain ⟨⟨xhR116, rfl, xhR1160, xhR1161⟩, rfl⟩ := hR116
  refine zck (l' := (curE g a len cap :: l)) rfl ?_
  refine hvQ rfl (riQ 1 rfl rfl rfl rfl (fun w hm => hu w (hm.sub (.cons _ (.refl _))))) (hvQ rfl (lzQ rfl rfl rfl (fun w hm => hu w (hm.sub (.cons _ (.refl _))))) ?_)
  refine hvQ rfl (zct (cs := #[.int .i64 2, .int .i64 (A.getD ((xhR116).toNat) 0), .int .i64 0]) rfl rfl rfl) (zey rfl (zas (z := .agg #[.int .i64 0, .int .i64 0, .int .i64 0]) (s := 3) (cs := ([2, A.getD ((xhR116).toNat) 0, 0].map (Value.int .i64))) rfl Try.underlying71 rfl (by decide) rfl (by kernel_rfl) rfl) ?_)
  intro g117
  refine zbc 1 rfl ?_
  refine zak (zad ?_)
  have hA8 := hA _ (zbd (d := (0 : Int)) (show xhR116.toNat < A.length by omega))
  refine zaz 2 [0, 1] rfl rfl (by decide) ?_
  refine zbk 2 rfl ?_
  exact zcf (rs := [.tmp 6]) (vs := [.slice (some ⟨g117, 0, none⟩) 1 1]) rfl ⟨rfl, trivial⟩ rfl (fun w hm => ⟨_, bigE [curE g a len cap, rowE 97 3 (.slice (some ⟨g117, 0, none⟩) 1 1) 1 ([2, A.getD ((xhR116).toNat) 0, 0].map (Value.int .i64))], rfl, ⟨[Oq.mk 2 (A.getD ((xhR116).toNat) 0) 0], rfl, zdm (by first | exact .inl ⟨rfl, ⟨by dsimp only; omega, by dsimp only; omega⟩, rfl⟩ | exact .inr (.inl ⟨rfl, ⟨by dsimp only; omega, by dsimp only; omega⟩, rfl⟩) | exact .inr (.inr (.inl ⟨rfl, ⟨by dsimp only; omega, by dsimp only; omega⟩, by dsimp only; omega, by dsimp only; omega⟩)) | exact .inr (.inr (.inr ⟨by decide, by decide, by decide, by decide, rfl, rfl⟩))) rfl (by omega)⟩, hm.sub (.refl _)⟩)
 refine zbc 1 rfl (zal rfl (zdb (zac (reQ 1 rfl ?_))))
 refine zey rfl (zas (z := .int .i64 0) (s := 1) (cs := ([4, 5, 6, 7, 8, 9, 10, 11, 12, 7, 12].map (Value.int .i64))) rfl Try.underlying48 rfl (by decide) rfl (by kernel_rfl) rfl) ?_
 intro g118
 refine zcz (R := (fun u_ p_ => (∃ x : Int, u_ = .int .i64 x ∧ x ∈ ([4, 5, 6, 7, 8, 9, 10, 11, 12, 7, 12] : List Int)) ∧ p_ = curE g a len cap)) 1 rfl rfl rfl rfl rfl (fun L w hX hm => zfe g a len cap z (.slice (some ⟨g118, 0, none⟩) 11 11) [4, 5, 6, 7, 8, 9, 10, 11, 12, 7, 12] _ _ _ hm hb (fun w hm => (zao (l := (rowE 3 1 (.slice (some ⟨g118, 0, none⟩) 11 11) 11 ([4, 5, 6, 7, 8, 9, 10, 11, 12, 7, 12].map (Value.int .i64)) :: l)) 0 rfl) w (hX w hm)) (by decide)) ?_
 intro v119 p120 hR121
 obtain ⟨⟨xhR121, rfl, xhR121m⟩, rfl⟩ := hR121
 have hx9 := arKind xhR121m
 have har9 := arI_op hx9
 refine zck (l' := (rowE 3 1 (.slice (some ⟨g118, 0, none⟩) 11 11) 11 ([4, 5, 6, 7, 8, 9, 10, 11, 12, 7, 12].map (Value.int .i64)) :: curE g a len cap :: l)) rfl ?_
 refine zbc 1 rfl (zac (reQ 1 rfl (hvQ rfl (zct (cs := #[.int .i64 xhR121, .int .i64 0, .int .i64 0]) rfl rfl rfl) ?_)))
 refine zey rfl (zas (z := .agg #[.int .i64 0, .int .i64 0, .int .i64 0]) (s := 3) (cs := ([xhR121, 0, 0].map (Value.int .i64))) rfl Try.underlying71 rfl (by decide) rfl (by kernel_rfl) rfl) ?_
 intro g122
 refine zbc 1 rfl (zac (reQ 1 rfl ?_))
 refine zdu rfl (zam rfl rfl (fun w hm => zbb (zfy xhR121 w))) (zbc 1 rfl (zac (zbn 1 rfl (zbf ?_))))
 refine lkQ3 (α := Nat) (β := Value) (γ := List Oq) [0, 1, 2, 6, 7, 9, 16] rfl (fun k gv os => (rS9 97 3 gv os oqC :: curE g a len cap :: l)) (fun k gv os => [(8, gv), (10, .int .i64 (k : Int))]) (fun k gv os => (k : Int) ≤ arI xhR121 ∧ PartP n os (arI xhR121 - (k : Int)) ∧ 1 ≤ os.length ∧ (os.length : Int) + (arI xhR121 - (k : Int)) * ((M - 1) / arI xhR121) ≤ M) (fun k gv os => (arI xhR121).toNat - k) 0 _ [Oq.mk xhR121 0 0] ⟨by omega, exStart n hx9⟩ (saQ rfl) (.cons_cons _ (.cons _ (.refl _))) ?_
 intro k gv os hi123
 obtain ⟨hk, hP, h1, hl⟩ := hi123
 have hol9 := exLen hx9 (by omega) hk hl
 refine zac (zac (reQ 2 rfl ?_))
 refine zcb rfl rfl rfl rfl rfl rfl (fun h124 => ?_) (fun h124 => ?_)
 ·
  refine ntQ (zaj rfl (zdb (sbQ (reQ 4 rfl (hvQ rfl (vsQ rfl rfl rfl) (zag 1 rfl ?_))))))
  refine hvQ rfl (rv_quo rfl rfl rfl (by refine ⟨?_, ?_, ?_⟩ <;> omega)) ?_
  have hq9 := exQuo (M := M) hx9 (by omega)
  refine zcz (R := (fun u_ p_ => ∃ os : List Oq, p_ = bigE [curE g a len cap, rS9 97 3 u_ os oqC] ∧ ExP n ((M - 1) / (arI xhR121)) os)) 1 rfl rfl rfl rfl rfl (fun L w hX hm => IH ((M - 1) / (arI xhR121)) (by omega) (by omega) L w hm (fun w9 h9 => hu w9 ((hX w9 h9).sub (.cons _ (.refl _))))) ?_
  intro v125 p126 hR127
  obtain ⟨eshR127, rfl, heshR127⟩ := hR127
  have helhR127 := heshR127.2.2
  refine zck (l' := (rS9 97 3 gv os oqC :: bigE [curE g a len cap, rS9 97 3 v125 eshR127 oqC] :: l)) rfl ?_
  refine zew 2 [0, 1] rfl rfl (by decide) ?_
  refine zfa (curE g a len cap :: rS9 97 3 v125 eshR127 oqC :: rS9 97 3 gv os oqC :: l) zdv ?_
  refine zdc (i := 2) (z := .agg #[.int .i64 0, .int .i64 0, .int .i64 0]) (bytes := 24) (n' := (os ++ eshR127).length) (xs' := ((os ++ eshR127).flatMap oqC)) rfl rfl rfl rfl Try.underlying71 (by kernel_rfl) rfl rfl rfl rfl (zao 1 rfl) (flat_onesD oqC eshR127 (fun r u hu => by simp [oqC] at hu; first | (subst hu; rfl) | (rcases hu with rfl | rfl <;> rfl) | (rcases hu with rfl | rfl | rfl <;> rfl) | (rcases hu with rfl | rfl | rfl | rfl <;> rfl))) (by first | omega | (simp only [List.length_take, List.length_drop, List.length_append]; omega)) (zco os eshR127) (flat_app oqC os eshR127) (fun _ => rfl) ?_
  intro v128
  refine enQ 1 rfl (zdn (reQ 1 rfl (hvQ rfl (vaQ rfl rfl rfl) (enQ 1 rfl ?_))))
  refine zaz 3 [0, 2] rfl rfl (by decide) ?_
  exact zdz (k + 1) v128 (os ++ eshR127) ⟨by omega, exStep hx9 (by omega) hP h1 hl heshR127⟩ (by omega) (saQ rfl) (.refl _)
 refine ntQ (zal rfl ?_)
 refine zby (zes ?_)
 refine zat (zaw (zbn 2 rfl ?_))
 refine zak (zaz 2 [0, 1] rfl rfl (by decide) ?_)
 refine zbk 2 rfl ?_
 exact zcf (rs := [.tmp 6]) (vs := [gv]) rfl ⟨rfl, trivial⟩ rfl (fun w hm => ⟨_, bigE [curE g a len cap, rS9 97 3 gv os oqC], rfl, ⟨os, rfl, exEnd (x := xhR121) (k := k) (by omega) hP h1 hl⟩, hm.sub (.refl _)⟩)
theorem l04Expr_mut (g : Nat) (a : Option Addr) (len cap : Nat) (z : List Int) (n : Int) (u : Value) (A : List Int) (hA : ∀ x ∈ A, 0 ≤ x ∧ x < n) (hAl : A.length ≤ 100) (w0 : World) (hb : BRow .u8 w0 a len cap z) : ∀ (m : Nat) (M : Int), M.toNat ≤ m → 1 ≤ M ∧ M ≤ 15 → ∀ (l : List HP) (w : World), Mem w0 (curE g a len cap :: l) w → Rd w0 l u 1 A.length (A.map (Value.int .i64)) → Calls Try.prog 86 #[.pointer (some ⟨g, 0, none⟩), u, .int .i64 (M)] w (fun e_ w_ => ∃ v_ p_, e_ = .returned v_ ∧ (fun u_ p_ => ∃ os : List Oq, p_ = bigE [curE g a len cap, rS9 97 3 u_ os oqC] ∧ ExP n M os) v_ p_ ∧ Mem w0 (p_ :: l) w_)
  | 0, M, h, hM, _, _, _, _ => absurd h (by omega)
  | m + 1, M, h, hM, l, w, hm, hu => l04Expr_step g a len cap z n u A M w0 l w hm hb hu hA hAl hM (fun q h1 h2 l2 w2 hm2 hu2 => l04Expr_mut g a len cap z n u A hA hAl w0 hb m q (by omega) ⟨h1, by omega⟩ l2 w2 hm2 hu2)
theorem pk_max {w0 : World} {l : List HP} {L : List Int} {q : HP} (h : ∀ x ∈ L, x ≤ 9223372036854775807) : ∀ e w', (∃ v_ p_, e = Ending.returned v_ ∧ (fun u_ p_ => (∃ x : Int, u_ = .int .i64 x ∧ x ∈ L) ∧ p_ = q) v_ p_ ∧ Mem w0 (p_ :: l) w') → ∃ v_ p_, e = Ending.returned v_ ∧ (fun u_ p_ => (∃ x : Int, u_ = .int .i64 x ∧ x ≤ 9223372036854775807) ∧ p_ = q) v_ p_ ∧ Mem w0 (p_ :: l) w' := fun e w' ⟨v, p, h1, ⟨⟨x, h2, h3⟩, h4⟩, h5⟩ => ⟨v, p, h1, ⟨⟨x, h2, h x h3⟩, h4⟩, h5⟩
theorem l01PlaceK_mut (g : Nat) (a : Option Addr) (len cap : Nat) (z : List Int) (K : Int) (w0 : World) (l : List HP) (w : World) (hm0 : Mem w0 (curE g a len cap :: l) w) (hb : BRow .u8 w0 a len cap z) (hK : 1 ≤ K ∧ K ≤ 100) :
   Calls Try.prog 87 #[.pointer (some ⟨g, 0, none⟩), .int .i64 K] w (fun e_ w_ => ∃ v_ p_, e_ = .returned v_ ∧ (fun u_ p_ => (∃ x : Int, u_ = .int .i64 x ∧ x ≤ 9223372036854775807) ∧ p_ = curE g a len cap) v_ p_ ∧ Mem w0 (p_ :: l) w_) := by
 refine zdk (N := 16) (args := [.pointer (some ⟨g, 0, none⟩), .int .i64 K]) Try.func87 rfl rfl hm0 (zbn 1 rfl (zac (zac (reQ 1 rfl ?_))))
 refine zch (R := (fun u_ p_ => (∃ b : Bool, u_ = .bool b) ∧ p_ = curE g a len cap)) 0 rfl rfl rfl rfl rfl (fun l' w hm => zgl hm hb (15) (by omega) (by omega)) ?_
 intro v1 p2 hR3
 obtain ⟨⟨xhR3, rfl⟩, rfl⟩ := hR3
 refine zck (l' := (curE g a len cap :: l)) rfl ?_
 refine zbz (fun h4 => ?_) (fun h4 => ?_)
 ·
  refine ntQ (zaj rfl (zac (reQ 3 rfl (hvQ rfl (vaQ rfl rfl rfl) ?_))))
  refine zey rfl (zas (z := .int .i64 0) (s := 1) (cs := ([-1, K, K + 1, 9223372036854775807, -9223372036854775808].map (Value.int .i64))) rfl Try.underlying48 rfl (by decide) rfl (by kernel_rfl) rfl) ?_
  intro g5
  refine zcz (R := (fun u_ p_ => (∃ x : Int, u_ = .int .i64 x ∧ x ≤ 9223372036854775807) ∧ p_ = curE g a len cap)) 1 rfl rfl rfl rfl rfl (fun L w hX hm => (zfe g a len cap z (.slice (some ⟨g5, 0, none⟩) 5 5) ([(-1), K, (K + 1), 9223372036854775807, (-9223372036854775808)] : List Int) _ _ _ hm hb (fun w hm => (zao (l := (rowE 3 1 (.slice (some ⟨g5, 0, none⟩) 5 5) 5 ([-1, K, K + 1, 9223372036854775807, -9223372036854775808].map (Value.int .i64)) :: l)) 0 rfl) w (hX w hm)) (by simp)).mono (pk_max (fun y hy => by simp only [List.mem_cons, List.not_mem_nil, or_false] at hy; omega))) ?_
  intro v6 p7 hR8
  obtain ⟨⟨xhR8, rfl, xhR8m⟩, rfl⟩ := hR8
  refine zck (l' := (rowE 3 1 (.slice (some ⟨g5, 0, none⟩) 5 5) 5 ([-1, K, K + 1, 9223372036854775807, -9223372036854775808].map (Value.int .i64)) :: curE g a len cap :: l)) rfl ?_
  refine zbc 1 rfl ?_
  refine zak (zad ?_)
  exact zcf (rs := [.tmp 4]) (vs := [.int .i64 xhR8]) rfl ⟨rfl, trivial⟩ rfl (fun w hm => ⟨_, curE g a len cap, rfl, ⟨⟨_, rfl, by omega⟩, rfl⟩, hm.sub (.cons _ (.refl _))⟩)
 refine ntQ (zal rfl (zdb (zac (reQ 2 rfl ?_))))
 refine zch (R := (fun u_ p_ => (∃ x_ : Int, u_ = .int .i64 x_ ∧ 0 ≤ x_ ∧ x_ < K) ∧ p_ = curE g a len cap)) 0 rfl rfl rfl rfl rfl (fun l' w hm => zbv g a len cap z K _ _ _ hm hb (by constructor <;> omega)) ?_
 intro v9 p10 hR11
 obtain ⟨⟨xhR11, rfl, xhR110, xhR111⟩, rfl⟩ := hR11
 refine zck (l' := (curE g a len cap :: l)) rfl ?_
 refine zbc 1 rfl ?_
 exact zak (zcf (rs := [.tmp 4]) (vs := [.int .i64 xhR11]) rfl ⟨rfl, trivial⟩ rfl (fun w hm => ⟨_, curE g a len cap, rfl, ⟨⟨_, rfl, by omega⟩, rfl⟩, hm.sub (.refl _)⟩))
theorem sm_out {n : Nt} (h : NtSm n) {x : Int} {v : Value} (hl : n.os.length ≤ 30) (hx : x ≤ 9223372036854775807) : NtSm { n with ov := v, os := n.os ++ [x] } := ⟨h.s1, h.a1, by dsimp only; rw [List.length_append, List.length_singleton]; omega, h.x4, h.mx, h.mg, fun y hy => by
  rcases List.mem_append.1 hy with hy | hy
  · exact h.mo y hy
  · rw [List.mem_singleton] at hy; subst hy; exact hx⟩
theorem getD_appL {α : Type} {l : List α} {x d : α} {k : Nat} (h : k < (l ++ [x]).length) : (k < l.length ∧ (l ++ [x]).getD k d = l.getD k d) ∨ (l ++ [x]).getD k d = x := by
  rw [List.length_append, List.length_singleton] at h
  rcases Nat.lt_or_ge k l.length with h9 | h9
  · exact .inl ⟨h9, by rw [List.getD_eq_getElem?_getD, List.getElem?_append_left h9, ← List.getD_eq_getElem?_getD]⟩
  · exact .inr (by rw [List.getD_eq_getElem?_getD, List.getElem?_append_right h9, show k - l.length = 0 by omega]; rfl)
theorem mg_app {gs : List An} {g : An} (h : ∀ k, k < gs.length → (gs.getD k an0).a ≤ 9223372036854775807 ∧ (gs.getD k an0).b ≤ 9223372036854775807) (hg : g.a ≤ 9223372036854775807 ∧ g.b ≤ 9223372036854775807) : ∀ k, k < (gs ++ [g]).length → ((gs ++ [g]).getD k an0).a ≤ 9223372036854775807 ∧ ((gs ++ [g]).getD k an0).b ≤ 9223372036854775807 := fun k hk => by
  rcases getD_appL (d := an0) hk with ⟨h1, e⟩ | e
  · rw [e]; exact h k h1
  · rw [e]; exact hg
theorem sm_and {n : Nt} (h : NtSm n) {g : An} {v : Value} (hl : n.gs.length ≤ 390) (hx : g.a ≤ 9223372036854775807 ∧ g.b ≤ 9223372036854775807) : NtSm { n with av := v, gs := n.gs ++ [g] } := ⟨h.s1, by dsimp only; rw [List.length_append, List.length_singleton]; omega, h.o1, h.x4, h.mx, mg_app h.mg hx, h.mo⟩
theorem sm_seq {n : Nt} (h : NtSm n) {a b : Int} {v iv : Value} (hl : n.ss.length ≤ 10) : NtSm { n with sv := v, ss := n.ss ++ [Sq.mk a b iv [0]] } := ⟨by dsimp only; rw [List.length_append, List.length_singleton]; omega, h.a1, h.o1, fun s hs => by
  rcases List.mem_append.1 hs with hs | hs
  · exact h.x4 s hs
  · rw [List.mem_singleton] at hs; subst hs; show 1 ≤ 4; decide, fun s hs x hx => by
  rcases List.mem_append.1 hs with hs | hs
  · exact h.mx s hs x hx
  · rw [List.mem_singleton] at hs; subst hs; rw [List.mem_singleton.1 hx]; decide, h.mg, h.mo⟩
theorem mo_app {zs : List Int} {x : Int} (h : ∀ y ∈ zs, y ≤ 9223372036854775807) (hx : x ≤ 9223372036854775807) : ∀ y ∈ zs ++ [x], y ≤ 9223372036854775807 := fun y hy => by
  rcases List.mem_append.1 hy with hy | hy
  · exact h y hy
  · rw [List.mem_singleton] at hy; subst hy; exact hx
theorem l08Any_mut (g : Nat) (a : Option Addr) (len cap : Nat) (z : List Int) (w0 : World) (l : List HP) (w : World) (hm0 : Mem w0 (curE g a len cap :: l) w) (hb : BRow .u8 w0 a len cap z) :
   Calls Try.prog 82 #[.pointer (some ⟨g, 0, none⟩)] w (fun e_ w_ => ∃ v_ p_, e_ = .returned v_ ∧ (fun u_ p_ => ∃ n : Nt, u_ = n.agg ∧ p_ = bigE [curE g a len cap, ntE n] ∧ (n.sv.oneCell' = true ∧ n.av.oneCell' = true ∧ n.ov.oneCell' = true) ∧ NtSm n) v_ p_ ∧ Mem w0 (p_ :: l) w_) := by
 refine zdk (N := 84) (args := [.pointer (some ⟨g, 0, none⟩)]) Try.func82 rfl rfl hm0 (srQ ?_)
 refine zed rfl (zcc (z := .agg #[.int .i64 0, .slice none 0 0, .slice none 0 0, .slice none 0 0]) rfl rfl) ?_
 intro b1
 refine ntQ (zac (reQ 1 rfl ?_))
 refine zch (R := (fun u_ p_ => ∃ n : Nt, u_ = n.agg ∧ p_ = bigE [curE g a len cap, ntE n] ∧ (n.sv.oneCell' = true ∧ n.av.oneCell' = true ∧ n.ov.oneCell' = true) ∧ NtOk n ∧ n.ins ≤ 4 ∧ (n.ss.length : Int) ≤ 3 ∧ (n.gs.length : Int) ≤ 14)) 1 rfl rfl rfl rfl rfl (fun l' w hm => l08Net_mut g a len cap z _ _ _ hm hb) ?_
 intro v2 p3 hR4
 obtain ⟨n, rfl, rfl, ⟨o1n, o2n, o3n⟩, hn, hnq1, hnq2, hnq3⟩ := hR4
 refine zck (l' := (eB9 b1 :: bigE [curE g a len cap, ntE n] :: l)) rfl ?_
 refine zed rfl (zcc (z := .agg #[.int .i64 0, .slice none 0 0, .slice none 0 0, .slice none 0 0]) rfl rfl) ?_
 intro b5
 refine zbm (cs' := #[.int .i64 n.ins, n.sv, n.av, n.ov]) (i := 0) (off := 0) (us := [.int .i64 n.ins, n.sv, n.av, n.ov]) rfl rfl rfl rfl rfl rfl rfl (zaa rfl (zaa o1n (zaa o2n (zaa o3n zbe)))) rfl rfl rfl (ntQ (zgk ?_))
 refine zew 3 [1, 0, 2] rfl rfl (by decide) ?_
 refine zfa (curE g a len cap :: ntE n :: nB9 b5 n :: eB9 b1 :: l) zdv ?_
 refine zew 4 [3, 2, 0, 1] rfl rfl (by decide) ?_
 refine zfa (sqsE n.sv n.ss :: rS9 141 2 n.av n.gs anC :: rI9 3 n.ov n.os :: curE g a len cap :: nB9 b5 n :: eB9 b1 :: l) zdv ?_
 refine zfa (bigE (n.ss.map sqPart) :: rS9 143 3 n.sv n.ss sqC :: rS9 141 2 n.av n.gs anC :: rI9 3 n.ov n.os :: curE g a len cap :: nB9 b5 n :: eB9 b1 :: l) zdv ?_
 have hi0 := hn.i0
 have hi1 := hn.i1
 have hs1 := hn.s1
 have ha1 := hn.a1
 have ho1 := hn.o1
 have hcnt : n.cnt = 1 + n.ins + n.ss.length + n.gs.length := rfl
 have hfst : n.fst = 1 + n.ins + n.ss.length := rfl
 have hs9 := hn.sm
 refine zag 1 rfl (zch (R := (fun u_ p_ => (∃ x_ : Int, u_ = .int .i64 x_ ∧ 0 ≤ x_ ∧ x_ < 16) ∧ p_ = curE g a len cap)) 4 rfl rfl rfl rfl rfl (fun l' w hm => zbv g a len cap z 16 _ _ _ hm hb (by constructor <;> omega)) ?_)
 intro v6 p7 hR8
 obtain ⟨⟨xhR8, rfl, xhR80, xhR81⟩, rfl⟩ := hR8
 refine zck (l' := (bigE (n.ss.map sqPart) :: rS9 143 3 n.sv n.ss sqC :: rS9 141 2 n.av n.gs anC :: rI9 3 n.ov n.os :: curE g a len cap :: nB9 b5 n :: eB9 b1 :: l)) rfl ?_
 refine ntQ (zbf (srQ ?_))
 refine zbj rfl rfl rfl rfl rfl rfl (fun h9 => ?_) (fun h9 => ?_)
 ·
  refine zbc 1 rfl (zaj rfl (reQ 1 rfl ?_))
  refine zey rfl (zas (z := .int .i64 0) (s := 1) (cs := ([-1, 0, 20, 21, 9223372036854775807, -9223372036854775808].map (Value.int .i64))) rfl Try.underlying48 rfl (by decide) rfl (by kernel_rfl) rfl) ?_
  intro g10
  refine zcz (R := (fun u_ p_ => (∃ x : Int, u_ = .int .i64 x ∧ x ≤ 9223372036854775807) ∧ p_ = curE g a len cap)) 5 rfl rfl rfl rfl rfl (fun L w hX hm => (zfe g a len cap z (.slice (some ⟨g10, 0, none⟩) 6 6) ([-1, 0, 20, 21, 9223372036854775807, -9223372036854775808] : List Int) _ _ _ hm hb (fun w hm => (zao (l := (rowE 3 1 (.slice (some ⟨g10, 0, none⟩) 6 6) 6 ([-1, 0, 20, 21, 9223372036854775807, -9223372036854775808].map (Value.int .i64)) :: bigE (n.ss.map sqPart) :: rS9 143 3 n.sv n.ss sqC :: rS9 141 2 n.av n.gs anC :: rI9 3 n.ov n.os :: nB9 b5 n :: eB9 b1 :: l)) 0 rfl) w (hX w hm)) (by simp)).mono (pk_max (by decide))) ?_
  intro v11 p12 hR13
  obtain ⟨⟨xhR13, rfl, xhR13m⟩, rfl⟩ := hR13
  refine zck (l' := (rowE 3 1 (.slice (some ⟨g10, 0, none⟩) 6 6) 6 ([-1, 0, 20, 21, 9223372036854775807, -9223372036854775808].map (Value.int .i64)) :: bigE (n.ss.map sqPart) :: rS9 143 3 n.sv n.ss sqC :: rS9 141 2 n.av n.gs anC :: rI9 3 n.ov n.os :: curE g a len cap :: nB9 b5 n :: eB9 b1 :: l)) rfl ?_
  refine hvQ rfl (fdQ 0 rfl rfl rfl) (zgs (i := 6) (cs' := #[.int .i64 xhR13, n.sv, n.av, n.ov]) rfl rfl rfl rfl rfl rfl rfl rfl rfl rfl rfl ?_)
  refine zbu (zdn (srQ (hvQ rfl (zar (cs := [.int .i64 xhR13, n.sv, n.av, n.ov]) rfl rfl rfl rfl rfl (zah 6 rfl 0 rfl)) ?_)))
  refine zbm (cs' := #[.int .i64 xhR13, n.sv, n.av, n.ov]) (i := 7) (off := 0) (us := [.int .i64 xhR13, n.sv, n.av, n.ov]) rfl rfl rfl rfl rfl rfl rfl (zaa rfl (zaa o1n (zaa o2n (zaa o3n zbe)))) rfl rfl rfl (ntQ ?_)
  refine zak (zbw (fun w hm => (zao 2 rfl w hm).one) (fun hw1 => ?_))
  refine zbw (fun w hm => (zao 3 rfl w hm).one) (fun hw2 => ?_)
  refine zbw (fun w hm => (zao 4 rfl w hm).one) (fun hw3 => ?_)
  refine zaz 8 [7, 6, 5, 4, 3, 0, 2, 1] rfl rfl (by decide) ?_
  refine zbk 2 rfl ?_
  refine zaz 7 [6, 5, 4, 1, 3, 2, 0] rfl rfl (by decide) ?_
  refine zbk 3 rfl ?_
  refine zcu (ntE (Nt.mk xhR13 n.sv n.av n.ov n.ss n.gs n.os) :: rowE 3 1 (.slice (some ⟨g10, 0, none⟩) 6 6) 6 ([-1, 0, 20, 21, 9223372036854775807, -9223372036854775808].map (Value.int .i64)) :: curE g a len cap :: boxE b5 #[.int .i64 xhR13, n.sv, n.av, n.ov] 70 :: boxE b1 #[.int .i64 xhR13, n.sv, n.av, n.ov] 70 :: l) (fun w hm => hm) ?_
  refine zaz 5 [4, 3, 1, 0, 2] rfl rfl (by decide) ?_
  refine zbk 2 rfl ?_
  exact zcf (rs := [.cell 2 70]) (vs := [.agg #[.int .i64 xhR13, n.sv, n.av, n.ov]]) rfl ⟨⟨b1, 0, [.int .i64 xhR13, n.sv, n.av, n.ov], rfl, rfl, by kernel_rfl, by kernel_rfl, zah 3 rfl 0 rfl⟩, trivial⟩ rfl (fun w hm => ⟨_, bigE [curE g a len cap, ntE (Nt.mk xhR13 n.sv n.av n.ov n.ss n.gs n.os)], rfl, ⟨(Nt.mk xhR13 n.sv n.av n.ov n.ss n.gs n.os), rfl, rfl, ⟨hw1, hw2, hw3⟩, by first | exact hs9 | exact ⟨hs9.s1, hs9.a1, hs9.o1, hs9.x4, hs9.mx, hs9.mg, hs9.mo⟩ | exact sm_out hs9 (by omega) (by omega) | exact sm_and hs9 (by omega) ⟨by dsimp only; omega, by dsimp only; omega⟩ | exact sm_seq hs9 (by omega) | exact ⟨hs9.s1, hs9.a1, by dsimp only; omega, hs9.x4, hs9.mx, hs9.mg, hom⟩ | exact ⟨hs9.s1, by dsimp only; omega, hs9.o1, hs9.x4, hs9.mx, hgm, hs9.mo⟩⟩, hm.sub (.cons_cons _ (.cons _ (.cons _ (.cons _ (.refl _)))))⟩)
 refine zbc 1 rfl (zal rfl (srQ ?_))
 refine zbj rfl rfl rfl rfl rfl rfl (fun h14 => ?_) (fun h14 => ?_)
 ·
  refine zbc 1 rfl (zaj rfl ?_)
  refine zdo 7 [6, 5, 3, 2, 1, 0, 4] rfl rfl (by decide) ?_
  refine zdi (l := (bigE (n.ss.map sqPart) :: rS9 143 3 n.sv n.ss sqC :: rS9 141 2 n.av n.gs anC :: rI9 3 n.ov n.os :: nB9 b5 n :: eB9 b1 :: l)) rfl 6 [0, 1, 2, 3, 4, 5] (List.take 6 _) (List.drop 6 _) [[], [0], [], [], [2, 3], [4]] [16, 17, 18, 19, 20, 21] (fun i_ vs_ v_ p_ => match i_ with | 0 => v_ = .pointer (some ⟨b5, 0 + 3, none⟩) ∧ p_ = [] | 1 => v_ = n.ov ∧ p_ = [] | 2 => v_ = .pointer (some ⟨g, 0, none⟩) ∧ p_ = [] | 3 => IsRow 3 1 5 ([-1, 0, 1, 600, 9223372036854775807].map (Value.int .i64)) v_ p_ | 4 => (∃ pm_, p_ = [pm_] ∧ (fun u_ p_ => (∃ x : Int, u_ = .int .i64 x ∧ x ≤ 9223372036854775807) ∧ p_ = curE g a len cap) v_ pm_) | 5 => IsRow 3 1 1 ([(intOf_o (gV9 vs_ 0))].map (Value.int .i64)) v_ p_ | _ => True) [[], [0], [], [], [2, 3], [4]] [none, none, none, none, some 9, none] [curE g a len cap] [0, 1, 2, 3, 4, 5] 9 (List.take_append_drop 6 _).symm (by kernel_rfl) (by kernel_rfl) (by kernel_rfl) rfl rfl ?_ ?_
  ·
   refine ⟨?_, ?_, ?_, ?_, ?_, ?_, trivial⟩
   ·
    intro vf pf hmu hR
    refine dqQ [] [] rfl (zay (zae [3] rfl) ?_)
    exact zbi (fdQ 3 rfl rfl rfl)
   ·
    intro vf pf hmu hR
    have e0 := hR 0 (by decide)
    refine dqQ [0] [0] rfl (zaq (sk 16 (congrArg some e0.1) (zab _)) (List.sublist_append_right _ _) ?_)
    exact zbi (zan rfl rfl rfl (zai 4 rfl rfl))
   ·
    intro vf pf hmu hR
    refine dqQ [] [] rfl (zay (zae [0] rfl) ?_)
    exact zbi (zax rfl)
   ·
    intro vf pf hmu hR
    refine dqQ [] [] rfl (zaq (zab _) (List.sublist_append_right _ _) ?_)
    exact zas (z := .int .i64 0) (s := 1) (cs := ([-1, 0, 1, 600, 9223372036854775807].map (Value.int .i64))) rfl Try.underlying48 rfl (by decide) rfl (by kernel_rfl) rfl
   ·
    intro vf pf hmu hR
    have e2 := hR 2 (by decide)
    have e3 : IsRow 3 1 5 ([-1, 0, 1, 600, 9223372036854775807].map (Value.int .i64)) (vf 3) (pf 3) := hR 3 (by decide)
    obtain ⟨g15, vE3, pE3⟩ := e3
    refine Or.inl ⟨rfl, ?_⟩
    show RunM _ _ _ (pf 9) (([2, 3] : List Nat).flatMap pf ++ _) (envOf _ vf [2, 3] ++ _) _ _
    rw [hmu]
    exact zbx (sk 18 (congrArg some e2.1) (sk 19 (congrArg some vE3) (zab _))) (by simp only [pE3, vE3, e2.2, fS] <;> rfl) (zcn (R := (fun u_ p_ => (∃ x : Int, u_ = .int .i64 x ∧ x ≤ 9223372036854775807) ∧ p_ = curE g a len cap)) rfl rfl (fun L w hX hm => (zfe g a len cap z (.slice (some ⟨g15, 0, none⟩) 5 5) ([-1, 0, 1, 600, 9223372036854775807] : List Int) _ _ _ hm hb (fun w hm => (zao (l := (rowE 3 1 (.slice (some ⟨g15, 0, none⟩) 5 5) 5 ([-1, 0, 1, 600, 9223372036854775807].map (Value.int .i64)) :: bigE (n.ss.map sqPart) :: rS9 143 3 n.sv n.ss sqC :: rS9 141 2 n.av n.gs anC :: rI9 3 n.ov n.os :: nB9 b5 n :: eB9 b1 :: l)) 0 rfl) w (hX w hm)) (by simp)).mono (pk_max (by decide))))
   intro vf pf hmu hR
   have e4 : (∃ pm_, (pf 4) = [pm_] ∧ (fun u_ p_ => (∃ x : Int, u_ = .int .i64 x ∧ x ≤ 9223372036854775807) ∧ p_ = curE g a len cap) (vf 4) pm_) := hR 4 (by decide)
   obtain ⟨p17, pE4, hR18⟩ := e4
   obtain ⟨v16, vE4⟩ : ∃ x, vf 4 = x := ⟨_, rfl⟩
   rw [vE4] at hR18
   obtain ⟨⟨xhR18, rfl, xhR18m⟩, rfl⟩ := hR18
   refine dqQ [4] [4] rfl (zbg (sk 20 (congrArg some vE4) (zab _)) (by simp only [pE4, vE4, fS] <;> rfl) ?_)
   exact zbo (zas (z := .int .i64 0) (s := 1) (cs := ([xhR18].map (Value.int .i64))) rfl Try.underlying48 rfl (by decide) rfl (by kernel_rfl) rfl) (fun v_ p_ h => by show IsRow 3 1 1 ([(intOf_o (vf 4))].map (Value.int .i64)) v_ p_; rw [vE4]; exact h)
  intro vf pf hmu hR
  have e1 := hR 1 (by decide)
  have e3 : IsRow 3 1 5 ([-1, 0, 1, 600, 9223372036854775807].map (Value.int .i64)) (vf 3) (pf 3) := hR 3 (by decide)
  obtain ⟨g15, vE3, pE3⟩ := e3
  have e4 : (∃ pm_, (pf 4) = [pm_] ∧ (fun u_ p_ => (∃ x : Int, u_ = .int .i64 x ∧ x ≤ 9223372036854775807) ∧ p_ = curE g a len cap) (vf 4) pm_) := hR 4 (by decide)
  obtain ⟨p17, pE4, hR18⟩ := e4
  obtain ⟨v16, vE4⟩ : ∃ x, vf 4 = x := ⟨_, rfl⟩
  rw [vE4] at hR18
  obtain ⟨⟨xhR18, rfl, xhR18m⟩, rfl⟩ := hR18
  have e5 : IsRow 3 1 1 ([(intOf_o (vf 4))].map (Value.int .i64)) (vf 5) (pf 5) := hR 5 (by decide)
  rw [vE4] at e5
  obtain ⟨g19, vE5, pE5⟩ := e5
  have q0 := hR 0 (by decide)
  have q1 := hR 1 (by decide)
  have q2 := hR 2 (by decide)
  refine zcd (zbs [14, 8, 7, 3, 2, 0] _ (sk 17 (congrArg some e1.1) (sk 21 (congrArg some vE5) (zab _))) rfl) (by simp only [pE3, vE3, pE4, vE4, pE5, vE5, q0.2, q1.2, q2.2, fS] <;> rfl) ?_
  simp only [List.drop_succ_cons, List.drop_zero]
  refine zdc (i := 6) (z := .int .i64 0) (bytes := 8) rfl rfl rfl rfl Try.underlying48 (by kernel_rfl) rfl rfl rfl rfl (zao 2 rfl) (zcj _) (by first | omega | (simp; done) | (simp; omega)) (zco n.os ([xhR18])) (zcx n.os ([xhR18])) (fun _ => rfl) ?_
  intro v20
  refine hvQ rfl (fdQ 3 rfl rfl rfl) (zcr (i := 6) rfl (fun ho21 => ?_))
  refine zgs (i := 7) (cs' := #[.int .i64 n.ins, n.sv, n.av, v20]) rfl rfl rfl rfl rfl rfl ho21 rfl rfl rfl rfl (zbu (zdn (srQ (hvQ rfl (zar (cs := [.int .i64 n.ins, n.sv, n.av, v20]) rfl rfl rfl rfl rfl (zah 7 rfl 0 rfl)) ?_))))
  refine zbm (cs' := #[.int .i64 n.ins, n.sv, n.av, v20]) (i := 8) (off := 0) (us := [.int .i64 n.ins, n.sv, n.av, v20]) rfl rfl rfl rfl rfl rfl rfl (zaa rfl (zaa o1n (zaa o2n (zaa ho21 zbe)))) rfl rfl rfl (ntQ ?_)
  refine zak (zbw (fun w hm => (zao 4 rfl w hm).one) (fun hw1 => ?_))
  refine zbw (fun w hm => (zao 5 rfl w hm).one) (fun hw2 => ?_)
  refine zbw (fun w hm => (zao 6 rfl w hm).one) (fun hw3 => ?_)
  refine zaz 9 [8, 7, 6, 5, 2, 1, 0, 4, 3] rfl rfl (by decide) ?_
  refine zbk 2 rfl ?_
  refine zaz 8 [7, 6, 3, 2, 1, 5, 4, 0] rfl rfl (by decide) ?_
  refine zbk 3 rfl ?_
  refine zcu (ntE (Nt.mk n.ins n.sv n.av v20 n.ss n.gs (n.os ++ ([xhR18]))) :: rowE 3 1 (.slice (some ⟨g15, 0, none⟩) 5 5) 5 ([-1, 0, 1, 600, 9223372036854775807].map (Value.int .i64)) :: curE g a len cap :: rowE 3 1 (.slice (some ⟨g19, 0, none⟩) 1 1) 1 ([xhR18].map (Value.int .i64)) :: boxE b5 #[.int .i64 n.ins, n.sv, n.av, v20] 70 :: boxE b1 #[.int .i64 n.ins, n.sv, n.av, v20] 70 :: l) (fun w hm => hm) ?_
  refine zaz 6 [5, 4, 3, 1, 0, 2] rfl rfl (by decide) ?_
  refine zbk 2 rfl ?_
  exact zcf (rs := [.cell 2 70]) (vs := [.agg #[.int .i64 n.ins, n.sv, n.av, v20]]) rfl ⟨⟨b1, 0, [.int .i64 n.ins, n.sv, n.av, v20], rfl, rfl, by kernel_rfl, by kernel_rfl, zah 4 rfl 0 rfl⟩, trivial⟩ rfl (fun w hm => ⟨_, bigE [curE g a len cap, ntE (Nt.mk n.ins n.sv n.av v20 n.ss n.gs (n.os ++ ([xhR18])))], rfl, ⟨(Nt.mk n.ins n.sv n.av v20 n.ss n.gs (n.os ++ ([xhR18]))), rfl, rfl, ⟨hw1, hw2, hw3⟩, by first | exact hs9 | exact ⟨hs9.s1, hs9.a1, hs9.o1, hs9.x4, hs9.mx, hs9.mg, hs9.mo⟩ | exact sm_out hs9 (by omega) (by omega) | exact sm_and hs9 (by omega) ⟨by dsimp only; omega, by dsimp only; omega⟩ | exact sm_seq hs9 (by omega) | exact ⟨hs9.s1, hs9.a1, by dsimp only; omega, hs9.x4, hs9.mx, hs9.mg, hom⟩ | exact ⟨hs9.s1, by dsimp only; omega, hs9.o1, hs9.x4, hs9.mx, hgm, hs9.mo⟩⟩, hm.sub (.cons_cons _ (.cons _ (.cons _ (.cons _ (.cons _ (.refl _))))))⟩)
 refine zbc 1 rfl (zal rfl (srQ ?_))
 refine zbj rfl rfl rfl rfl rfl rfl (fun h22 => ?_) (fun h22 => ?_)
 ·
  refine zbc 1 rfl (zaj rfl ?_)
  refine zdo 7 [6, 5, 3, 2, 1, 0, 4] rfl rfl (by decide) ?_
  refine zdi (l := (bigE (n.ss.map sqPart) :: rS9 143 3 n.sv n.ss sqC :: rS9 141 2 n.av n.gs anC :: rI9 3 n.ov n.os :: nB9 b5 n :: eB9 b1 :: l)) rfl 9 [0, 1, 2, 3, 4, 5, 6, 7, 8] (List.take 9 _) (List.drop 9 _) [[], [0], [], [2], [3], [], [5], [4, 6], [6, 7]] [26, 27, 28, 29, 30, 31, 32, 33, 34] (fun i_ vs_ v_ p_ => match i_ with | 0 => v_ = .pointer (some ⟨b5, 0 + 2, none⟩) ∧ p_ = [] | 1 => v_ = n.av ∧ p_ = [] | 2 => v_ = .agg #[.int .i64 n.ins, n.sv, n.av, n.ov] ∧ p_ = [] | 3 => v_ = .int .i64 n.cnt ∧ p_ = [] | 4 => v_ = .int .i64 (2 * n.cnt) ∧ p_ = [] | 5 => v_ = .pointer (some ⟨g, 0, none⟩) ∧ p_ = [] | 6 => (∃ pm_, p_ = [pm_] ∧ (fun u_ p_ => (∃ x : Int, u_ = .int .i64 x ∧ x ≤ 9223372036854775807) ∧ p_ = curE g a len cap) v_ pm_) | 7 => v_ = .agg #[.int .i64 (2 * n.cnt), .int .i64 (intOf_o (gV9 vs_ 1))] ∧ p_ = [] | 8 => IsRow 141 2 1 ([2 * n.cnt, (intOf_o (gV9 vs_ 0))].map (Value.int .i64)) v_ p_ | _ => True) [[], [0], [], [2], [3], [], [5], [4, 6], [6, 7]] [none, none, none, none, none, none, some 12, none, none] [curE g a len cap] [0, 1, 2, 3, 4, 5, 6, 7, 8] 12 (List.take_append_drop 9 _).symm (by kernel_rfl) (by kernel_rfl) (by kernel_rfl) rfl rfl ?_ ?_
  ·
   refine ⟨?_, ?_, ?_, ?_, ?_, ?_, ?_, ?_, ?_, trivial⟩
   ·
    intro vf pf hmu hR
    refine dqQ [] [] rfl (zay (zae [3] rfl) ?_)
    exact zbi (fdQ 2 rfl rfl rfl)
   ·
    intro vf pf hmu hR
    have e0 := hR 0 (by decide)
    refine dqQ [0] [0] rfl (zaq (sk 26 (congrArg some e0.1) (zab _)) (List.sublist_append_right _ _) ?_)
    exact zbi (zan rfl rfl rfl (zai 4 rfl rfl))
   ·
    intro vf pf hmu hR
    refine dqQ [] [] rfl (zaq (zae [3] rfl) (List.sublist_append_right _ _) ?_)
    exact zbi (zar (cs := [.int .i64 n.ins, n.sv, n.av, n.ov]) rfl rfl rfl rfl rfl (zah 4 rfl 0 rfl))
   ·
    intro vf pf hmu hR
    have e2 := hR 2 (by decide)
    refine dqQ [2] [2] rfl (zaq (sk 28 (congrArg some e2.1) (zab _)) (List.sublist_append_right _ _) ?_)
    exact (zam rfl rfl (fun w hm => zbb (zeg n w (show RdsNt w n from ⟨zao 1 rfl w hm, fun s hs => zbh (zau (hm.holds _ (zbr (i := 0) rfl)) (List.mem_map.2 ⟨s, hs, rfl⟩)), zao 2 rfl w hm, zao 3 rfl w hm⟩) hn)))
   ·
    intro vf pf hmu hR
    have e3 := hR 3 (by decide)
    refine dqQ [3] [3] rfl (zay (sk 29 (congrArg some e3.1) (zab _)) ?_)
    exact zbi (zfs rfl rfl rfl (by constructor <;> omega))
   ·
    intro vf pf hmu hR
    refine dqQ [] [] rfl (zay (zae [0] rfl) ?_)
    exact zbi (zax rfl)
   ·
    intro vf pf hmu hR
    have e5 := hR 5 (by decide)
    refine Or.inl ⟨rfl, ?_⟩
    show RunM _ _ _ (pf 12) (([5] : List Nat).flatMap pf ++ _) (envOf _ vf [5] ++ _) _ _
    rw [hmu]
    exact zbx (sk 31 (congrArg some e5.1) (zab _)) (by simp only [e5.2, fS] <;> rfl) (zcn (R := (fun u_ p_ => (∃ x : Int, u_ = .int .i64 x ∧ x ≤ 9223372036854775807) ∧ p_ = curE g a len cap)) rfl rfl (fun L w hX hm => l01PlaceK_mut g a len cap z 4 _ _ _ hm hb (by omega)))
   ·
    intro vf pf hmu hR
    have e4 := hR 4 (by decide)
    have e6 : (∃ pm_, (pf 6) = [pm_] ∧ (fun u_ p_ => (∃ x : Int, u_ = .int .i64 x ∧ x ≤ 9223372036854775807) ∧ p_ = curE g a len cap) (vf 6) pm_) := hR 6 (by decide)
    obtain ⟨p24, pE6, hR25⟩ := e6
    obtain ⟨v23, vE6⟩ : ∃ x, vf 6 = x := ⟨_, rfl⟩
    rw [vE6] at hR25
    obtain ⟨⟨xhR25, rfl, xhR25m⟩, rfl⟩ := hR25
    refine dqQ [4, 6] [4, 6] rfl (zbg (sk 30 (congrArg some e4.1) (sk 32 (congrArg some vE6) (zab _))) (by simp only [pE6, vE6, e4.2, fS] <;> rfl) ?_)
    exact zbo (zbi (zct (cs := #[.int .i64 (2 * n.cnt), .int .i64 xhR25]) rfl rfl rfl)) (fun _ _ h => ⟨h.1.trans (by show _ = (.agg #[.int .i64 (2 * n.cnt), .int .i64 (intOf_o (vf 6))] : Value); first | (rw [vE6]; done) | (rw [vE6]; rfl)), h.2⟩)
   intro vf pf hmu hR
   have e6 : (∃ pm_, (pf 6) = [pm_] ∧ (fun u_ p_ => (∃ x : Int, u_ = .int .i64 x ∧ x ≤ 9223372036854775807) ∧ p_ = curE g a len cap) (vf 6) pm_) := hR 6 (by decide)
   obtain ⟨p24, pE6, hR25⟩ := e6
   obtain ⟨v23, vE6⟩ : ∃ x, vf 6 = x := ⟨_, rfl⟩
   rw [vE6] at hR25
   obtain ⟨⟨xhR25, rfl, xhR25m⟩, rfl⟩ := hR25
   have e7 : (vf 7) = .agg #[.int .i64 (2 * n.cnt), .int .i64 (intOf_o (vf 6))] ∧ (pf 7) = [] := hR 7 (by decide)
   rw [vE6] at e7
   refine dqQ [6, 7] [6, 7] rfl (zbg (sk 33 (congrArg some e7.1) (zab _)) (by simp only [pE6, vE6, e7.2, fS] <;> rfl) ?_)
   exact zbo (zas (z := .agg #[.int .i64 0, .int .i64 0]) (s := 2) (cs := ([2 * n.cnt, xhR25].map (Value.int .i64))) rfl Try.underlying68 rfl (by decide) rfl (by kernel_rfl) rfl) (fun v_ p_ h => by show IsRow 141 2 1 ([2 * n.cnt, (intOf_o (vf 6))].map (Value.int .i64)) v_ p_; rw [vE6]; exact h)
  intro vf pf hmu hR
  have e1 := hR 1 (by decide)
  have e6 : (∃ pm_, (pf 6) = [pm_] ∧ (fun u_ p_ => (∃ x : Int, u_ = .int .i64 x ∧ x ≤ 9223372036854775807) ∧ p_ = curE g a len cap) (vf 6) pm_) := hR 6 (by decide)
  obtain ⟨p24, pE6, hR25⟩ := e6
  obtain ⟨v23, vE6⟩ : ∃ x, vf 6 = x := ⟨_, rfl⟩
  rw [vE6] at hR25
  obtain ⟨⟨xhR25, rfl, xhR25m⟩, rfl⟩ := hR25
  have e8 : IsRow 141 2 1 ([2 * n.cnt, (intOf_o (vf 6))].map (Value.int .i64)) (vf 8) (pf 8) := hR 8 (by decide)
  rw [vE6] at e8
  obtain ⟨g26, vE8, pE8⟩ := e8
  have q0 := hR 0 (by decide)
  have q1 := hR 1 (by decide)
  have q2 := hR 2 (by decide)
  have q3 := hR 3 (by decide)
  have q4 := hR 4 (by decide)
  have q5 := hR 5 (by decide)
  have q7 := hR 7 (by decide)
  refine zcd (zbs [24, 14, 8, 7, 3, 2, 0] _ (sk 27 (congrArg some e1.1) (sk 34 (congrArg some vE8) (zab _))) rfl) (by simp only [pE6, vE6, pE8, vE8, q0.2, q1.2, q2.2, q3.2, q4.2, q5.2, q7.2, fS] <;> rfl) ?_
  simp only [List.drop_succ_cons, List.drop_zero]
  refine zdc (i := 4) (z := .agg #[.int .i64 0, .int .i64 0]) (bytes := 16) rfl rfl rfl rfl Try.underlying68 (by kernel_rfl) rfl rfl rfl rfl (zao 1 rfl) (zcj _) (by first | omega | (simp only [List.length_append, List.length_cons, List.length_nil]; omega)) (zco n.gs [(An.mk (2 * n.cnt) xhR25)]) (zei anC n.gs (An.mk (2 * n.cnt) xhR25) _ rfl) (fun _ => rfl) ?_
  intro v27
  refine hvQ rfl (fdQ 2 rfl rfl rfl) (zcr (i := 4) rfl (fun ho28 => ?_))
  refine zgs (i := 6) (cs' := #[.int .i64 n.ins, n.sv, v27, n.ov]) rfl rfl rfl rfl rfl rfl ho28 rfl rfl rfl rfl (zbu (zdn (srQ (hvQ rfl (zar (cs := [.int .i64 n.ins, n.sv, v27, n.ov]) rfl rfl rfl rfl rfl (zah 6 rfl 0 rfl)) ?_))))
  refine zbm (cs' := #[.int .i64 n.ins, n.sv, v27, n.ov]) (i := 7) (off := 0) (us := [.int .i64 n.ins, n.sv, v27, n.ov]) rfl rfl rfl rfl rfl rfl rfl (zaa rfl (zaa o1n (zaa ho28 (zaa o3n zbe)))) rfl rfl rfl (ntQ ?_)
  refine zak (zbw (fun w hm => (zao 3 rfl w hm).one) (fun hw1 => ?_))
  refine zbw (fun w hm => (zao 4 rfl w hm).one) (fun hw2 => ?_)
  refine zbw (fun w hm => (zao 5 rfl w hm).one) (fun hw3 => ?_)
  refine zaz 8 [7, 6, 5, 4, 1, 0, 3, 2] rfl rfl (by decide) ?_
  refine zbk 2 rfl ?_
  refine zaz 7 [6, 5, 2, 1, 4, 3, 0] rfl rfl (by decide) ?_
  refine zbk 3 rfl ?_
  refine zcu (ntE (Nt.mk n.ins n.sv v27 n.ov n.ss (n.gs ++ [(An.mk (2 * n.cnt) xhR25)]) n.os) :: curE g a len cap :: rowE 141 2 (.slice (some ⟨g26, 0, none⟩) 1 1) 1 ([2 * n.cnt, xhR25].map (Value.int .i64)) :: boxE b5 #[.int .i64 n.ins, n.sv, v27, n.ov] 70 :: boxE b1 #[.int .i64 n.ins, n.sv, v27, n.ov] 70 :: l) (fun w hm => hm) ?_
  refine zaz 5 [4, 3, 2, 0, 1] rfl rfl (by decide) ?_
  refine zbk 2 rfl ?_
  exact zcf (rs := [.cell 2 70]) (vs := [.agg #[.int .i64 n.ins, n.sv, v27, n.ov]]) rfl ⟨⟨b1, 0, [.int .i64 n.ins, n.sv, v27, n.ov], rfl, rfl, by kernel_rfl, by kernel_rfl, zah 3 rfl 0 rfl⟩, trivial⟩ rfl (fun w hm => ⟨_, bigE [curE g a len cap, ntE (Nt.mk n.ins n.sv v27 n.ov n.ss (n.gs ++ [(An.mk (2 * n.cnt) xhR25)]) n.os)], rfl, ⟨(Nt.mk n.ins n.sv v27 n.ov n.ss (n.gs ++ [(An.mk (2 * n.cnt) xhR25)]) n.os), rfl, rfl, ⟨hw1, hw2, hw3⟩, by first | exact hs9 | exact ⟨hs9.s1, hs9.a1, hs9.o1, hs9.x4, hs9.mx, hs9.mg, hs9.mo⟩ | exact sm_out hs9 (by omega) (by omega) | exact sm_and hs9 (by omega) ⟨by dsimp only; omega, by dsimp only; omega⟩ | exact sm_seq hs9 (by omega) | exact ⟨hs9.s1, hs9.a1, by dsimp only; omega, hs9.x4, hs9.mx, hs9.mg, hom⟩ | exact ⟨hs9.s1, by dsimp only; omega, hs9.o1, hs9.x4, hs9.mx, hgm, hs9.mo⟩⟩, hm.sub (.cons_cons _ (.cons _ (.cons _ (.cons _ (.refl _)))))⟩)
 refine zbc 1 rfl (zal rfl (srQ ?_))
 refine zbj rfl rfl rfl rfl rfl rfl (fun h29 => ?_) (fun h29 => ?_)
 ·
  refine zbc 1 rfl (zaj rfl ?_)
  refine zdo 7 [6, 5, 3, 2, 1, 0, 4] rfl rfl (by decide) ?_
  refine zdi (l := (bigE (n.ss.map sqPart) :: rS9 143 3 n.sv n.ss sqC :: rS9 141 2 n.av n.gs anC :: rI9 3 n.ov n.os :: nB9 b5 n :: eB9 b1 :: l)) rfl 11 [0, 1, 2, 3, 4, 5, 6, 7, 8, 9, 10] (List.take 11 _) (List.drop 11 _) [[], [0], [], [2], [3], [], [], [3, 5, 6], [], [3, 4, 7, 8], [3, 7, 8, 9]] [39, 40, 41, 42, 43, 44, 45, 46, 47, 48, 49] (fun i_ vs_ v_ p_ => match i_ with | 0 => v_ = .pointer (some ⟨b5, 0 + 1, none⟩) ∧ p_ = [] | 1 => v_ = n.sv ∧ p_ = [] | 2 => v_ = .pointer (some ⟨g, 0, none⟩) ∧ p_ = [] | 3 => (∃ pm_, p_ = [pm_] ∧ (fun u_ p_ => (∃ x_ : Int, u_ = .int .i64 x_ ∧ 0 ≤ x_ ∧ x_ < 4) ∧ p_ = curE g a len cap) v_ pm_) | 4 => v_ = .int .i64 ((intOf_o (gV9 vs_ 0)) - 1) ∧ p_ = [] | 5 => v_ = .pointer (some ⟨g, 0, none⟩) ∧ p_ = [] | 6 => IsRow 3 1 5 ([-1, 1, 2, 31, 32].map (Value.int .i64)) v_ p_ | 7 => (∃ pm_, p_ = [pm_] ∧ (fun u_ p_ => (∃ x : Int, u_ = .int .i64 x ∧ x ≤ 9223372036854775807) ∧ p_ = curE g a len cap) v_ pm_) | 8 => IsRow 3 1 1 ([0].map (Value.int .i64)) v_ p_ | 9 => v_ = .agg #[.int .i64 ((intOf_o (gV9 vs_ 0)) - 1), .int .i64 (intOf_o (gV9 vs_ 2)), (gV9 vs_ 3)] ∧ p_ = [] | 10 => IsRow 143 3 1 ([.int .i64 ((intOf_o (gV9 vs_ 0)) - 1), .int .i64 (intOf_o (gV9 vs_ 1)), (gV9 vs_ 2)]) v_ p_ | _ => True) [[], [0], [], [2], [], [], [], [5, 6], [], [4, 7, 8], [7, 8, 9]] [none, none, none, some 14, none, none, none, some 3, none, none, none] [curE g a len cap] [0, 1, 2, 4, 5, 6, 7, 8, 9, 10] 14 (List.take_append_drop 11 _).symm (by kernel_rfl) (by kernel_rfl) (by kernel_rfl) rfl rfl ?_ ?_
  ·
   refine ⟨?_, ?_, ?_, ?_, ?_, ?_, ?_, ?_, ?_, ?_, ?_, trivial⟩
   ·
    intro vf pf hmu hR
    refine dqQ [] [] rfl (zay (zae [3] rfl) ?_)
    exact zbi (fdQ 1 rfl rfl rfl)
   ·
    intro vf pf hmu hR
    have e0 := hR 0 (by decide)
    refine dqQ [0] [0] rfl (zaq (sk 39 (congrArg some e0.1) (zab _)) (List.sublist_append_right _ _) ?_)
    exact zbi (zan rfl rfl rfl (zai 4 rfl rfl))
   ·
    intro vf pf hmu hR
    refine dqQ [] [] rfl (zay (zae [0] rfl) ?_)
    exact zbi (zax rfl)
   ·
    intro vf pf hmu hR
    have e2 := hR 2 (by decide)
    refine Or.inl ⟨rfl, ?_⟩
    show RunM _ _ _ (pf 14) (([2] : List Nat).flatMap pf ++ _) (envOf _ vf [2] ++ _) _ _
    rw [hmu]
    exact zbx (sk 41 (congrArg some e2.1) (zab _)) (by simp only [e2.2, fS] <;> rfl) (zcn (R := (fun u_ p_ => (∃ x_ : Int, u_ = .int .i64 x_ ∧ 0 ≤ x_ ∧ x_ < 4) ∧ p_ = curE g a len cap)) rfl rfl (fun L w hX hm => zbv g a len cap z 4 _ _ _ hm hb (by constructor <;> omega)))
   ·
    intro vf pf hmu hR
    have e3 : (∃ pm_, (pf 3) = [pm_] ∧ (fun u_ p_ => (∃ x_ : Int, u_ = .int .i64 x_ ∧ 0 ≤ x_ ∧ x_ < 4) ∧ p_ = curE g a len cap) (vf 3) pm_) := hR 3 (by decide)
    obtain ⟨p31, pE3, hR32⟩ := e3
    obtain ⟨v30, vE3⟩ : ∃ x, vf 3 = x := ⟨_, rfl⟩
    rw [vE3] at hR32
    obtain ⟨⟨xhR32, rfl, xhR320, xhR321⟩, rfl⟩ := hR32
    refine dqQ [] [3] rfl (zay (sk 42 (congrArg some vE3) (zab _)) ?_)
    exact zbo (zbi (vsQ rfl rfl rfl)) (fun _ _ h => ⟨h.1.trans (by show _ = (.int .i64 ((intOf_o (vf 3)) - 1) : Value); first | (rw [vE3]; done) | (rw [vE3]; rfl)), h.2⟩)
   ·
    intro vf pf hmu hR
    refine dqQ [] [] rfl (zay (zae [0] rfl) ?_)
    exact zbi (zax rfl)
   ·
    intro vf pf hmu hR
    refine dqQ [] [] rfl (zaq (zab _) (List.sublist_append_right _ _) ?_)
    exact zas (z := .int .i64 0) (s := 1) (cs := ([-1, 1, 2, 31, 32].map (Value.int .i64))) rfl Try.underlying48 rfl (by decide) rfl (by kernel_rfl) rfl
   ·
    intro vf pf hmu hR
    have e3 : (∃ pm_, (pf 3) = [pm_] ∧ (fun u_ p_ => (∃ x_ : Int, u_ = .int .i64 x_ ∧ 0 ≤ x_ ∧ x_ < 4) ∧ p_ = curE g a len cap) (vf 3) pm_) := hR 3 (by decide)
    obtain ⟨p31, pE3, hR32⟩ := e3
    obtain ⟨v30, vE3⟩ : ∃ x, vf 3 = x := ⟨_, rfl⟩
    rw [vE3] at hR32
    obtain ⟨⟨xhR32, rfl, xhR320, xhR321⟩, rfl⟩ := hR32
    have e5 := hR 5 (by decide)
    have e6 : IsRow 3 1 5 ([-1, 1, 2, 31, 32].map (Value.int .i64)) (vf 6) (pf 6) := hR 6 (by decide)
    obtain ⟨g33, vE6, pE6⟩ := e6
    refine Or.inl ⟨rfl, ?_⟩
    show RunM _ _ _ (pf 3) (([5, 6] : List Nat).flatMap pf ++ _) (envOf _ vf [3, 5, 6] ++ _) _ _
    rw [pE3]
    exact zbx (sk 44 (congrArg some e5.1) (sk 45 (congrArg some vE6) (zab _))) (by simp only [pE6, vE6, e5.2, fS] <;> rfl) (zcn (R := (fun u_ p_ => (∃ x : Int, u_ = .int .i64 x ∧ x ≤ 9223372036854775807) ∧ p_ = curE g a len cap)) rfl rfl (fun L w hX hm => (zfe g a len cap z (.slice (some ⟨g33, 0, none⟩) 5 5) ([-1, 1, 2, 31, 32] : List Int) _ _ _ hm hb (fun w hm => (zao (l := (rowE 3 1 (.slice (some ⟨g33, 0, none⟩) 5 5) 5 ([-1, 1, 2, 31, 32].map (Value.int .i64)) :: bigE (n.ss.map sqPart) :: rS9 143 3 n.sv n.ss sqC :: rS9 141 2 n.av n.gs anC :: rI9 3 n.ov n.os :: nB9 b5 n :: eB9 b1 :: l)) 0 rfl) w (hX w hm)) (by simp)).mono (pk_max (by decide))))
   ·
    intro vf pf hmu hR
    refine dqQ [] [] rfl (zaq (zab _) (List.sublist_append_right _ _) ?_)
    exact zas (z := .int .i64 0) (s := 1) (cs := ([0].map (Value.int .i64))) rfl Try.underlying48 rfl (by decide) rfl (by kernel_rfl) rfl
   ·
    intro vf pf hmu hR
    have e3 : (∃ pm_, (pf 3) = [pm_] ∧ (fun u_ p_ => (∃ x_ : Int, u_ = .int .i64 x_ ∧ 0 ≤ x_ ∧ x_ < 4) ∧ p_ = curE g a len cap) (vf 3) pm_) := hR 3 (by decide)
    obtain ⟨p31, pE3, hR32⟩ := e3
    obtain ⟨v30, vE3⟩ : ∃ x, vf 3 = x := ⟨_, rfl⟩
    rw [vE3] at hR32
    obtain ⟨⟨xhR32, rfl, xhR320, xhR321⟩, rfl⟩ := hR32
    have e4 : (vf 4) = .int .i64 ((intOf_o (vf 3)) - 1) ∧ (pf 4) = [] := hR 4 (by decide)
    rw [vE3] at e4
    have e7 : (∃ pm_, (pf 7) = [pm_] ∧ (fun u_ p_ => (∃ x : Int, u_ = .int .i64 x ∧ x ≤ 9223372036854775807) ∧ p_ = curE g a len cap) (vf 7) pm_) := hR 7 (by decide)
    obtain ⟨p35, pE7, hR36⟩ := e7
    obtain ⟨v34, vE7⟩ : ∃ x, vf 7 = x := ⟨_, rfl⟩
    rw [vE7] at hR36
    obtain ⟨⟨xhR36, rfl, xhR36m⟩, rfl⟩ := hR36
    have e8 : IsRow 3 1 1 ([0].map (Value.int .i64)) (vf 8) (pf 8) := hR 8 (by decide)
    obtain ⟨g37, vE8, pE8⟩ := e8
    refine dqQ [4, 7, 8] [3, 4, 7, 8] rfl (zbg (sk 43 (congrArg some e4.1) (sk 46 (congrArg some vE7) (sk 47 (congrArg some vE8) (zab _)))) (by simp only [pE7, vE7, pE8, vE8, e4.2, fS] <;> rfl) ?_)
    exact zbo (zbi (zge (cs := #[.int .i64 (xhR32 - 1), .int .i64 xhR36, .slice (some ⟨g37, 0, none⟩) 1 1]) rfl rfl (fun w hm => built_seqH (xhR32 - 1) xhR36 (.slice (some ⟨g37, 0, none⟩) 1 1) rfl))) (fun _ _ h => ⟨h.1.trans (by show _ = (.agg #[.int .i64 ((intOf_o (vf 3)) - 1), .int .i64 (intOf_o (vf 7)), (vf 8)] : Value); first | (rw [vE3, vE7, vE8]; done) | (rw [vE3, vE7, vE8]; rfl)), h.2⟩)
   intro vf pf hmu hR
   have e3 : (∃ pm_, (pf 3) = [pm_] ∧ (fun u_ p_ => (∃ x_ : Int, u_ = .int .i64 x_ ∧ 0 ≤ x_ ∧ x_ < 4) ∧ p_ = curE g a len cap) (vf 3) pm_) := hR 3 (by decide)
   obtain ⟨p31, pE3, hR32⟩ := e3
   obtain ⟨v30, vE3⟩ : ∃ x, vf 3 = x := ⟨_, rfl⟩
   rw [vE3] at hR32
   obtain ⟨⟨xhR32, rfl, xhR320, xhR321⟩, rfl⟩ := hR32
   have e7 : (∃ pm_, (pf 7) = [pm_] ∧ (fun u_ p_ => (∃ x : Int, u_ = .int .i64 x ∧ x ≤ 9223372036854775807) ∧ p_ = curE g a len cap) (vf 7) pm_) := hR 7 (by decide)
   obtain ⟨p35, pE7, hR36⟩ := e7
   obtain ⟨v34, vE7⟩ : ∃ x, vf 7 = x := ⟨_, rfl⟩
   rw [vE7] at hR36
   obtain ⟨⟨xhR36, rfl, xhR36m⟩, rfl⟩ := hR36
   have e8 : IsRow 3 1 1 ([0].map (Value.int .i64)) (vf 8) (pf 8) := hR 8 (by decide)
   obtain ⟨g37, vE8, pE8⟩ := e8
   have e9 : (vf 9) = .agg #[.int .i64 ((intOf_o (vf 3)) - 1), .int .i64 (intOf_o (vf 7)), (vf 8)] ∧ (pf 9) = [] := hR 9 (by decide)
   rw [vE3, vE7, vE8] at e9
   refine dqQ [7, 8, 9] [3, 7, 8, 9] rfl (zbg (sk 48 (congrArg some e9.1) (zab _)) (by simp only [pE7, vE7, pE8, vE8, e9.2, fS] <;> rfl) ?_)
   exact zbo (zas (z := .agg #[.int .i64 0, .int .i64 0, .slice none 0 0]) (s := 3) (cs := [.int .i64 (xhR32 - 1), .int .i64 xhR36, .slice (some ⟨g37, 0, none⟩) 1 1]) rfl Try.underlying67 rfl (by decide) rfl (by kernel_rfl) rfl) (fun v_ p_ h => by show IsRow 143 3 1 ([.int .i64 ((intOf_o (vf 3)) - 1), .int .i64 (intOf_o (vf 7)), (vf 8)]) v_ p_; rw [vE3, vE7, vE8]; exact h)
  intro vf pf hmu hR
  have e1 := hR 1 (by decide)
  have e3 : (∃ pm_, (pf 3) = [pm_] ∧ (fun u_ p_ => (∃ x_ : Int, u_ = .int .i64 x_ ∧ 0 ≤ x_ ∧ x_ < 4) ∧ p_ = curE g a len cap) (vf 3) pm_) := hR 3 (by decide)
  obtain ⟨p31, pE3, hR32⟩ := e3
  obtain ⟨v30, vE3⟩ : ∃ x, vf 3 = x := ⟨_, rfl⟩
  rw [vE3] at hR32
  obtain ⟨⟨xhR32, rfl, xhR320, xhR321⟩, rfl⟩ := hR32
  have e6 : IsRow 3 1 5 ([-1, 1, 2, 31, 32].map (Value.int .i64)) (vf 6) (pf 6) := hR 6 (by decide)
  obtain ⟨g33, vE6, pE6⟩ := e6
  have e7 : (∃ pm_, (pf 7) = [pm_] ∧ (fun u_ p_ => (∃ x : Int, u_ = .int .i64 x ∧ x ≤ 9223372036854775807) ∧ p_ = curE g a len cap) (vf 7) pm_) := hR 7 (by decide)
  obtain ⟨p35, pE7, hR36⟩ := e7
  obtain ⟨v34, vE7⟩ : ∃ x, vf 7 = x := ⟨_, rfl⟩
  rw [vE7] at hR36
  obtain ⟨⟨xhR36, rfl, xhR36m⟩, rfl⟩ := hR36
  have e8 : IsRow 3 1 1 ([0].map (Value.int .i64)) (vf 8) (pf 8) := hR 8 (by decide)
  obtain ⟨g37, vE8, pE8⟩ := e8
  have e10 : IsRow 143 3 1 ([.int .i64 ((intOf_o (vf 3)) - 1), .int .i64 (intOf_o (vf 7)), (vf 8)]) (vf 10) (pf 10) := hR 10 (by decide)
  rw [vE3, vE7, vE8] at e10
  obtain ⟨g38, vE10, pE10⟩ := e10
  have q0 := hR 0 (by decide)
  have q1 := hR 1 (by decide)
  have q2 := hR 2 (by decide)
  have q4 := hR 4 (by decide)
  have q5 := hR 5 (by decide)
  have q9 := hR 9 (by decide)
  refine zcd (zbs [37, 24, 14, 8, 7, 3, 2, 0] _ (sk 40 (congrArg some e1.1) (sk 49 (congrArg some vE10) (zab _))) rfl) (by simp only [pE6, vE6, pE7, vE7, pE8, vE8, pE10, vE10, q0.2, q1.2, q2.2, q4.2, q5.2, q9.2, fS] <;> rfl) ?_
  simp only [List.drop_succ_cons, List.drop_zero]
  refine zdc (i := 5) (z := .agg #[.int .i64 0, .int .i64 0, .slice none 0 0]) (bytes := 40) rfl rfl rfl rfl Try.underlying67 (by kernel_rfl) rfl rfl rfl rfl (zao 3 rfl) (by simp [Value.oneCell']) (by first | omega | (simp only [List.length_append, List.length_cons, List.length_nil]; omega)) (zco n.ss [(Sq.mk (xhR32 - 1) xhR36 (.slice (some ⟨g37, 0, none⟩) 1 1) [0])]) (zei sqC n.ss (Sq.mk (xhR32 - 1) xhR36 (.slice (some ⟨g37, 0, none⟩) 1 1) [0]) _ rfl) (fun _ => rfl) ?_
  intro v39
  refine hvQ rfl (fdQ 1 rfl rfl rfl) (zcr (i := 5) rfl (fun ho40 => ?_))
  refine zgs (i := 8) (cs' := #[.int .i64 n.ins, v39, n.av, n.ov]) rfl rfl rfl rfl rfl rfl ho40 rfl rfl rfl rfl (zbu (zdn (srQ (hvQ rfl (zar (cs := [.int .i64 n.ins, v39, n.av, n.ov]) rfl rfl rfl rfl rfl (zah 8 rfl 0 rfl)) ?_))))
  refine zbm (cs' := #[.int .i64 n.ins, v39, n.av, n.ov]) (i := 9) (off := 0) (us := [.int .i64 n.ins, v39, n.av, n.ov]) rfl rfl rfl rfl rfl rfl rfl (zaa rfl (zaa ho40 (zaa o2n (zaa o3n zbe)))) rfl rfl rfl (ntQ ?_)
  refine zak (zbw (fun w hm => (zao 5 rfl w hm).one) (fun hw1 => ?_))
  refine zbw (fun w hm => (zao 6 rfl w hm).one) (fun hw2 => ?_)
  refine zbw (fun w hm => (zao 7 rfl w hm).one) (fun hw3 => ?_)
  refine zaz 10 [9, 8, 7, 6, 5, 3, 1, 0, 2, 4] rfl rfl (by decide) ?_
  refine zcu (bigE ((n.ss ++ [(Sq.mk (xhR32 - 1) xhR36 (.slice (some ⟨g37, 0, none⟩) 1 1) [0])]).map sqPart) :: rowE 3 1 (.slice (some ⟨g33, 0, none⟩) 5 5) 5 ([-1, 1, 2, 31, 32].map (Value.int .i64)) :: curE g a len cap :: rowE 143 3 (.slice (some ⟨g38, 0, none⟩) 1 1) 1 ([.int .i64 (xhR32 - 1), .int .i64 xhR36, .slice (some ⟨g37, 0, none⟩) 1 1]) :: rowE 143 3 v39 ((n.ss ++ [(Sq.mk (xhR32 - 1) xhR36 (.slice (some ⟨g37, 0, none⟩) 1 1) [0])]).length) ((n.ss ++ [(Sq.mk (xhR32 - 1) xhR36 (.slice (some ⟨g37, 0, none⟩) 1 1) [0])]).flatMap sqC) :: rS9 141 2 n.av n.gs anC :: rI9 3 n.ov n.os :: boxE b5 #[.int .i64 n.ins, v39, n.av, n.ov] 70 :: boxE b1 #[.int .i64 n.ins, v39, n.av, n.ov] 70 :: l) (fun w hm => by rw [List.map_append]; exact conv_snocX w hm) ?_
  refine zaz 9 [8, 7, 6, 5, 3, 2, 1, 4, 0] rfl rfl (by decide) ?_
  refine zbk 2 rfl ?_
  refine zaz 8 [7, 6, 3, 2, 1, 5, 4, 0] rfl rfl (by decide) ?_
  refine zbk 3 rfl ?_
  refine zcu (ntE (Nt.mk n.ins v39 n.av n.ov (n.ss ++ [(Sq.mk (xhR32 - 1) xhR36 (.slice (some ⟨g37, 0, none⟩) 1 1) [0])]) n.gs n.os) :: rowE 3 1 (.slice (some ⟨g33, 0, none⟩) 5 5) 5 ([-1, 1, 2, 31, 32].map (Value.int .i64)) :: curE g a len cap :: rowE 143 3 (.slice (some ⟨g38, 0, none⟩) 1 1) 1 ([.int .i64 (xhR32 - 1), .int .i64 xhR36, .slice (some ⟨g37, 0, none⟩) 1 1]) :: boxE b5 #[.int .i64 n.ins, v39, n.av, n.ov] 70 :: boxE b1 #[.int .i64 n.ins, v39, n.av, n.ov] 70 :: l) (fun w hm => hm) ?_
  refine zaz 6 [5, 4, 3, 1, 0, 2] rfl rfl (by decide) ?_
  refine zbk 2 rfl ?_
  exact zcf (rs := [.cell 2 70]) (vs := [.agg #[.int .i64 n.ins, v39, n.av, n.ov]]) rfl ⟨⟨b1, 0, [.int .i64 n.ins, v39, n.av, n.ov], rfl, rfl, by kernel_rfl, by kernel_rfl, zah 4 rfl 0 rfl⟩, trivial⟩ rfl (fun w hm => ⟨_, bigE [curE g a len cap, ntE (Nt.mk n.ins v39 n.av n.ov (n.ss ++ [(Sq.mk (xhR32 - 1) xhR36 (.slice (some ⟨g37, 0, none⟩) 1 1) [0])]) n.gs n.os)], rfl, ⟨(Nt.mk n.ins v39 n.av n.ov (n.ss ++ [(Sq.mk (xhR32 - 1) xhR36 (.slice (some ⟨g37, 0, none⟩) 1 1) [0])]) n.gs n.os), rfl, rfl, ⟨hw1, hw2, hw3⟩, by first | exact hs9 | exact ⟨hs9.s1, hs9.a1, hs9.o1, hs9.x4, hs9.mx, hs9.mg, hs9.mo⟩ | exact sm_out hs9 (by omega) (by omega) | exact sm_and hs9 (by omega) ⟨by dsimp only; omega, by dsimp only; omega⟩ | exact sm_seq hs9 (by omega) | exact ⟨hs9.s1, hs9.a1, by dsimp only; omega, hs9.x4, hs9.mx, hs9.mg, hom⟩ | exact ⟨hs9.s1, by dsimp only; omega, hs9.o1, hs9.x4, hs9.mx, hgm, hs9.mo⟩⟩, hm.sub (.cons_cons _ (.cons _ (.cons _ (.cons _ (.cons _ (.refl _))))))⟩)
 refine zbc 1 rfl (zal rfl (srQ ?_))
 refine zbj rfl rfl rfl rfl rfl rfl (fun h41 => ?_) (fun h41 => ?_)
 ·
  refine zbc 1 rfl (zaj rfl (zbf ?_))
  refine lkQ2 (α := List Int) (β := Value) [0, 2, 3, 7, 8, 14, 24, 37, 52] rfl (fun os2 ov2 => (bigE (n.ss.map sqPart) :: rS9 143 3 n.sv n.ss sqC :: rS9 141 2 n.av n.gs anC :: rI9 3 ov2 os2 :: curE g a len cap :: boxE b5 #[.int .i64 n.ins, n.sv, n.av, ov2] 70 :: eB9 b1 :: l)) (fun os2 ov2 => []) (fun os2 ov2 => os2.length ≤ 20 ∧ ∀ x ∈ os2, x ≤ 9223372036854775807) (fun os2 ov2 => 30 - os2.length) n.os n.ov ⟨by omega, hs9.mo⟩ (saQ rfl) (.refl _) ?_
  intro os2 ov2 hi42
  obtain ⟨hol, hom⟩ := hi42
  refine zac (zac ?_)
  refine zdo 7 [6, 5, 3, 2, 1, 0, 4] rfl rfl (by decide) ?_
  refine zdi (l := (bigE (n.ss.map sqPart) :: rS9 143 3 n.sv n.ss sqC :: rS9 141 2 n.av n.gs anC :: rI9 3 ov2 os2 :: boxE b5 #[.int .i64 n.ins, n.sv, n.av, ov2] 70 :: eB9 b1 :: l)) rfl 7 [0, 1, 2, 3, 4, 5, 6] (List.take 7 _) (List.drop 7 _) [[], [0], [1], [], [3], [4], [2, 4, 5]] [54, 55, 56, 57, 58, 59, 60] (fun i_ vs_ v_ p_ => match i_ with | 0 => v_ = .pointer (some ⟨b5, 0 + 3, none⟩) ∧ p_ = [] | 1 => v_ = ov2 ∧ p_ = [] | 2 => v_ = .int .i64 (os2.length : Int) ∧ p_ = [] | 3 => v_ = .pointer (some ⟨g, 0, none⟩) ∧ p_ = [] | 4 => (∃ pm_, p_ = [pm_] ∧ (fun u_ p_ => (∃ x_ : Int, u_ = .int .i64 x_ ∧ 0 ≤ x_ ∧ x_ < 2) ∧ p_ = curE g a len cap) v_ pm_) | 5 => v_ = .int .i64 (16 + (intOf_o (gV9 vs_ 0))) ∧ p_ = [] | 6 => v_ = .bool (decide ((os2.length : Int) < 16 + (intOf_o (gV9 vs_ 1)))) ∧ p_ = [] | _ => True) [[], [0], [1], [], [3], [4], [2, 4, 5]] [none, none, none, none, some 7, none, none] [curE g a len cap] [0, 1, 2, 3, 4, 5, 6] 7 (List.take_append_drop 7 _).symm (by kernel_rfl) (by kernel_rfl) (by kernel_rfl) rfl rfl ?_ ?_
  ·
   refine ⟨?_, ?_, ?_, ?_, ?_, ?_, ?_, trivial⟩
   ·
    intro vf pf hmu hR
    refine dqQ [] [] rfl (zay (zae [3] rfl) ?_)
    exact zbi (fdQ 3 rfl rfl rfl)
   ·
    intro vf pf hmu hR
    have e0 := hR 0 (by decide)
    refine dqQ [0] [0] rfl (zaq (sk 54 (congrArg some e0.1) (zab _)) (List.sublist_append_right _ _) ?_)
    exact zbi (zan rfl rfl rfl (zai 4 rfl rfl))
   ·
    intro vf pf hmu hR
    have e1 := hR 1 (by decide)
    refine dqQ [1] [1] rfl (zaq (sk 55 (congrArg some e1.1) (zab _)) (List.sublist_append_right _ _) ?_)
    exact zbi (lnQ rfl rfl rfl (zao 3 rfl))
   ·
    intro vf pf hmu hR
    refine dqQ [] [] rfl (zay (zae [0] rfl) ?_)
    exact zbi (zax rfl)
   ·
    intro vf pf hmu hR
    have e3 := hR 3 (by decide)
    refine Or.inl ⟨rfl, ?_⟩
    show RunM _ _ _ (pf 7) (([3] : List Nat).flatMap pf ++ _) (envOf _ vf [3] ++ _) _ _
    rw [hmu]
    exact zbx (sk 57 (congrArg some e3.1) (zab _)) (by simp only [e3.2, fS] <;> rfl) (zcn (R := (fun u_ p_ => (∃ x_ : Int, u_ = .int .i64 x_ ∧ 0 ≤ x_ ∧ x_ < 2) ∧ p_ = curE g a len cap)) rfl rfl (fun L w hX hm => zbv g a len cap z 2 _ _ _ hm hb (by constructor <;> omega)))
   ·
    intro vf pf hmu hR
    have e4 : (∃ pm_, (pf 4) = [pm_] ∧ (fun u_ p_ => (∃ x_ : Int, u_ = .int .i64 x_ ∧ 0 ≤ x_ ∧ x_ < 2) ∧ p_ = curE g a len cap) (vf 4) pm_) := hR 4 (by decide)
    obtain ⟨p44, pE4, hR45⟩ := e4
    obtain ⟨v43, vE4⟩ : ∃ x, vf 4 = x := ⟨_, rfl⟩
    rw [vE4] at hR45
    obtain ⟨⟨xhR45, rfl, xhR450, xhR451⟩, rfl⟩ := hR45
    refine dqQ [4] [4] rfl (zbg (sk 58 (congrArg some vE4) (zab _)) (by simp only [pE4, vE4, fS] <;> rfl) ?_)
    exact zbo (zbi (vaQ rfl rfl rfl)) (fun _ _ h => ⟨h.1.trans (by show _ = (.int .i64 (16 + (intOf_o (vf 4))) : Value); first | (rw [vE4]; done) | (rw [vE4]; rfl)), h.2⟩)
   intro vf pf hmu hR
   have e2 := hR 2 (by decide)
   have e4 : (∃ pm_, (pf 4) = [pm_] ∧ (fun u_ p_ => (∃ x_ : Int, u_ = .int .i64 x_ ∧ 0 ≤ x_ ∧ x_ < 2) ∧ p_ = curE g a len cap) (vf 4) pm_) := hR 4 (by decide)
   obtain ⟨p44, pE4, hR45⟩ := e4
   obtain ⟨v43, vE4⟩ : ∃ x, vf 4 = x := ⟨_, rfl⟩
   rw [vE4] at hR45
   obtain ⟨⟨xhR45, rfl, xhR450, xhR451⟩, rfl⟩ := hR45
   have e5 : (vf 5) = .int .i64 (16 + (intOf_o (vf 4))) ∧ (pf 5) = [] := hR 5 (by decide)
   rw [vE4] at e5
   refine dqQ [2, 4, 5] [2, 4, 5] rfl (zbg (sk 56 (congrArg some e2.1) (sk 59 (congrArg some e5.1) (zab _))) (by simp only [pE4, vE4, e2.2, e5.2, fS] <;> rfl) ?_)
   exact zbo (zbi (zgr rfl rfl rfl rfl)) (fun _ _ h => ⟨h.1.trans (by show _ = (.bool (decide ((os2.length : Int) < 16 + (intOf_o (vf 4)))) : Value); first | (rw [vE4]; done) | (rw [vE4]; rfl)), h.2⟩)
  intro vf pf hmu hR
  have e4 : (∃ pm_, (pf 4) = [pm_] ∧ (fun u_ p_ => (∃ x_ : Int, u_ = .int .i64 x_ ∧ 0 ≤ x_ ∧ x_ < 2) ∧ p_ = curE g a len cap) (vf 4) pm_) := hR 4 (by decide)
  obtain ⟨p44, pE4, hR45⟩ := e4
  obtain ⟨v43, vE4⟩ : ∃ x, vf 4 = x := ⟨_, rfl⟩
  rw [vE4] at hR45
  obtain ⟨⟨xhR45, rfl, xhR450, xhR451⟩, rfl⟩ := hR45
  have e6 : (vf 6) = .bool (decide ((os2.length : Int) < 16 + (intOf_o (vf 4)))) ∧ (pf 6) = [] := hR 6 (by decide)
  rw [vE4] at e6
  have q0 := hR 0 (by decide)
  have q1 := hR 1 (by decide)
  have q2 := hR 2 (by decide)
  have q3 := hR 3 (by decide)
  have q5 := hR 5 (by decide)
  have q6 := hR 6 (by decide)
  refine zcd (zbs [52, 37, 24, 14, 8, 7, 3, 2, 0] _ (sk 60 (congrArg some e6.1) (zab _)) rfl) (by simp only [pE4, vE4, q0.2, q1.2, q2.2, q3.2, q5.2, q6.2, fS] <;> rfl) ?_
  simp only [List.drop_succ_cons, List.drop_zero]
  refine ntQ ?_
  refine hc_cond rfl (fun h46 => ?_) (fun h46 => ?_)
  ·
   have h46q : ((os2.length : Int) < 16 + xhR45) := of_decide_eq_true h46
   refine zdb (zbf (zav (hvQ rfl (fdQ 3 rfl rfl rfl) (hvQ rfl (zan rfl rfl rfl (zai 5 rfl rfl)) ?_))))
   refine zey rfl (zas (z := .int .i64 0) (s := 1) (cs := ([1].map (Value.int .i64))) rfl Try.underlying48 rfl (by decide) rfl (by kernel_rfl) rfl) ?_
   intro g47
   refine zdc (i := 5) (z := .int .i64 0) (bytes := 8) rfl rfl rfl rfl Try.underlying48 (by kernel_rfl) rfl rfl rfl rfl (zao 0 rfl) (zcj _) (by first | omega | (simp; done) | (simp; omega)) (zco os2 ([1])) (zcx os2 ([1])) (fun _ => rfl) ?_
   intro v48
   refine hvQ rfl (fdQ 3 rfl rfl rfl) (zcr (i := 5) rfl (fun ho49 => ?_))
   refine zgs (i := 6) (cs' := #[.int .i64 n.ins, n.sv, n.av, v48]) rfl rfl rfl rfl rfl rfl ho49 rfl rfl rfl rfl (zbu (zbt ?_))
   refine zaz 8 [7, 6, 1, 5, 4, 3, 2] rfl rfl (by decide) ?_
   exact zci (os2 ++ ([1])) v48 ⟨by rw [List.length_append, List.length_singleton]; omega, mo_app hom (by omega)⟩ (by rw [List.length_append, List.length_singleton]; omega) (saQ rfl) (.refl _)
  have h46q : ¬ ((os2.length : Int) < 16 + xhR45) := of_decide_eq_false h46
  refine zby (zes ?_)
  refine zat (zdn (srQ (hvQ rfl (zar (cs := [.int .i64 n.ins, n.sv, n.av, ov2]) rfl rfl rfl rfl rfl (zah 5 rfl 0 rfl)) ?_)))
  refine zcr (i := 4) rfl (fun ho50 => ?_)
  refine zbm (cs' := #[.int .i64 n.ins, n.sv, n.av, ov2]) (i := 6) (off := 0) (us := [.int .i64 n.ins, n.sv, n.av, ov2]) rfl rfl rfl rfl rfl rfl rfl (zaa rfl (zaa o1n (zaa o2n (zaa ho50 zbe)))) rfl rfl rfl (ntQ ?_)
  refine zak (zbw (fun w hm => (zao 2 rfl w hm).one) (fun hw1 => ?_))
  refine zbw (fun w hm => (zao 3 rfl w hm).one) (fun hw2 => ?_)
  refine zbw (fun w hm => (zao 4 rfl w hm).one) (fun hw3 => ?_)
  refine zaz 7 [6, 5, 4, 3, 0, 2, 1] rfl rfl (by decide) ?_
  refine zbk 2 rfl ?_
  refine zaz 6 [5, 4, 1, 3, 2, 0] rfl rfl (by decide) ?_
  refine zbk 3 rfl ?_
  refine zcu (ntE (Nt.mk n.ins n.sv n.av ov2 n.ss n.gs os2) :: curE g a len cap :: boxE b5 #[.int .i64 n.ins, n.sv, n.av, ov2] 70 :: boxE b1 #[.int .i64 n.ins, n.sv, n.av, ov2] 70 :: l) (fun w hm => hm) ?_
  refine zaz 4 [3, 2, 0, 1] rfl rfl (by decide) ?_
  refine zbk 2 rfl ?_
  exact zcf (rs := [.cell 2 70]) (vs := [.agg #[.int .i64 n.ins, n.sv, n.av, ov2]]) rfl ⟨⟨b1, 0, [.int .i64 n.ins, n.sv, n.av, ov2], rfl, rfl, by kernel_rfl, by kernel_rfl, zah 2 rfl 0 rfl⟩, trivial⟩ rfl (fun w hm => ⟨_, bigE [curE g a len cap, ntE (Nt.mk n.ins n.sv n.av ov2 n.ss n.gs os2)], rfl, ⟨(Nt.mk n.ins n.sv n.av ov2 n.ss n.gs os2), rfl, rfl, ⟨hw1, hw2, hw3⟩, by first | exact hs9 | exact ⟨hs9.s1, hs9.a1, hs9.o1, hs9.x4, hs9.mx, hs9.mg, hs9.mo⟩ | exact sm_out hs9 (by omega) (by omega) | exact sm_and hs9 (by omega) ⟨by dsimp only; omega, by dsimp only; omega⟩ | exact sm_seq hs9 (by omega) | exact ⟨hs9.s1, hs9.a1, by dsimp only; omega, hs9.x4, hs9.mx, hs9.mg, hom⟩ | exact ⟨hs9.s1, by dsimp only; omega, hs9.o1, hs9.x4, hs9.mx, hgm, hs9.mo⟩⟩, hm.sub (.cons_cons _ (.cons _ (.cons _ (.refl _))))⟩)
 refine zbc 1 rfl (zal rfl (srQ ?_))
 refine zbj rfl rfl rfl rfl rfl rfl (fun h51 => ?_) (fun h51 => ?_)
 ·
  refine zbc 1 rfl (zaj rfl (zac (reQ 1 rfl ?_)))
  refine zch (R := (fun u_ p_ => (∃ b : Bool, u_ = .bool b) ∧ p_ = curE g a len cap)) 4 rfl rfl rfl rfl rfl (fun l' w hm => zgl hm hb (6) (by omega) (by omega)) ?_
  intro v52 p53 hR54
  obtain ⟨⟨xhR54, rfl⟩, rfl⟩ := hR54
  refine zck (l' := (bigE (n.ss.map sqPart) :: rS9 143 3 n.sv n.ss sqC :: rS9 141 2 n.av n.gs anC :: rI9 3 n.ov n.os :: curE g a len cap :: nB9 b5 n :: eB9 b1 :: l)) rfl ?_
  refine zbz (fun h55 => ?_) (fun h55 => ?_)
  ·
   refine ntQ (zaj rfl (zbf ?_))
   refine lkQ2 (α := List An) (β := Value) [0, 2, 3, 7, 8, 14, 24, 37, 52, 66, 69] rfl (fun gs2 av2 => (bigE (n.ss.map sqPart) :: rS9 143 3 n.sv n.ss sqC :: rS9 141 2 av2 gs2 anC :: rI9 3 n.ov n.os :: curE g a len cap :: boxE b5 #[.int .i64 n.ins, n.sv, av2, n.ov] 70 :: eB9 b1 :: l)) (fun gs2 av2 => []) (fun gs2 av2 => gs2.length ≤ 302 ∧ ∀ k, k < gs2.length → (gs2.getD k an0).a ≤ 9223372036854775807 ∧ (gs2.getD k an0).b ≤ 9223372036854775807) (fun gs2 av2 => 400 - gs2.length) n.gs n.av ⟨by omega, hs9.mg⟩ (saQ rfl) (.refl _) ?_
   intro gs2 av2 hi56
   obtain ⟨hgl, hgm⟩ := hi56
   refine zac (zac ?_)
   refine zdo 7 [6, 5, 3, 2, 1, 0, 4] rfl rfl (by decide) ?_
   refine zdi (l := (bigE (n.ss.map sqPart) :: rS9 143 3 n.sv n.ss sqC :: rS9 141 2 av2 gs2 anC :: rI9 3 n.ov n.os :: boxE b5 #[.int .i64 n.ins, n.sv, av2, n.ov] 70 :: eB9 b1 :: l)) rfl 7 [0, 1, 2, 3, 4, 5, 6] (List.take 7 _) (List.drop 7 _) [[], [0], [1], [], [3], [4], [2, 4, 5]] [70, 71, 72, 73, 74, 75, 76] (fun i_ vs_ v_ p_ => match i_ with | 0 => v_ = .pointer (some ⟨b5, 0 + 2, none⟩) ∧ p_ = [] | 1 => v_ = av2 ∧ p_ = [] | 2 => v_ = .int .i64 (gs2.length : Int) ∧ p_ = [] | 3 => v_ = .pointer (some ⟨g, 0, none⟩) ∧ p_ = [] | 4 => (∃ pm_, p_ = [pm_] ∧ (fun u_ p_ => (∃ x_ : Int, u_ = .int .i64 x_ ∧ 0 ≤ x_ ∧ x_ < 2) ∧ p_ = curE g a len cap) v_ pm_) | 5 => v_ = .int .i64 (300 + (intOf_o (gV9 vs_ 0))) ∧ p_ = [] | 6 => v_ = .bool (decide ((gs2.length : Int) < 300 + (intOf_o (gV9 vs_ 1)))) ∧ p_ = [] | _ => True) [[], [0], [1], [], [3], [4], [2, 4, 5]] [none, none, none, none, some 7, none, none] [curE g a len cap] [0, 1, 2, 3, 4, 5, 6] 7 (List.take_append_drop 7 _).symm (by kernel_rfl) (by kernel_rfl) (by kernel_rfl) rfl rfl ?_ ?_
   ·
    refine ⟨?_, ?_, ?_, ?_, ?_, ?_, ?_, trivial⟩
    ·
     intro vf pf hmu hR
     refine dqQ [] [] rfl (zay (zae [3] rfl) ?_)
     exact zbi (fdQ 2 rfl rfl rfl)
    ·
     intro vf pf hmu hR
     have e0 := hR 0 (by decide)
     refine dqQ [0] [0] rfl (zaq (sk 70 (congrArg some e0.1) (zab _)) (List.sublist_append_right _ _) ?_)
     exact zbi (zan rfl rfl rfl (zai 4 rfl rfl))
    ·
     intro vf pf hmu hR
     have e1 := hR 1 (by decide)
     refine dqQ [1] [1] rfl (zaq (sk 71 (congrArg some e1.1) (zab _)) (List.sublist_append_right _ _) ?_)
     exact zbi (lnQ rfl rfl rfl (zao 2 rfl))
    ·
     intro vf pf hmu hR
     refine dqQ [] [] rfl (zay (zae [0] rfl) ?_)
     exact zbi (zax rfl)
    ·
     intro vf pf hmu hR
     have e3 := hR 3 (by decide)
     refine Or.inl ⟨rfl, ?_⟩
     show RunM _ _ _ (pf 7) (([3] : List Nat).flatMap pf ++ _) (envOf _ vf [3] ++ _) _ _
     rw [hmu]
     exact zbx (sk 73 (congrArg some e3.1) (zab _)) (by simp only [e3.2, fS] <;> rfl) (zcn (R := (fun u_ p_ => (∃ x_ : Int, u_ = .int .i64 x_ ∧ 0 ≤ x_ ∧ x_ < 2) ∧ p_ = curE g a len cap)) rfl rfl (fun L w hX hm => zbv g a len cap z 2 _ _ _ hm hb (by constructor <;> omega)))
    ·
     intro vf pf hmu hR
     have e4 : (∃ pm_, (pf 4) = [pm_] ∧ (fun u_ p_ => (∃ x_ : Int, u_ = .int .i64 x_ ∧ 0 ≤ x_ ∧ x_ < 2) ∧ p_ = curE g a len cap) (vf 4) pm_) := hR 4 (by decide)
     obtain ⟨p58, pE4, hR59⟩ := e4
     obtain ⟨v57, vE4⟩ : ∃ x, vf 4 = x := ⟨_, rfl⟩
     rw [vE4] at hR59
     obtain ⟨⟨xhR59, rfl, xhR590, xhR591⟩, rfl⟩ := hR59
     refine dqQ [4] [4] rfl (zbg (sk 74 (congrArg some vE4) (zab _)) (by simp only [pE4, vE4, fS] <;> rfl) ?_)
     exact zbo (zbi (vaQ rfl rfl rfl)) (fun _ _ h => ⟨h.1.trans (by show _ = (.int .i64 (300 + (intOf_o (vf 4))) : Value); first | (rw [vE4]; done) | (rw [vE4]; rfl)), h.2⟩)
    intro vf pf hmu hR
    have e2 := hR 2 (by decide)
    have e4 : (∃ pm_, (pf 4) = [pm_] ∧ (fun u_ p_ => (∃ x_ : Int, u_ = .int .i64 x_ ∧ 0 ≤ x_ ∧ x_ < 2) ∧ p_ = curE g a len cap) (vf 4) pm_) := hR 4 (by decide)
    obtain ⟨p58, pE4, hR59⟩ := e4
    obtain ⟨v57, vE4⟩ : ∃ x, vf 4 = x := ⟨_, rfl⟩
    rw [vE4] at hR59
    obtain ⟨⟨xhR59, rfl, xhR590, xhR591⟩, rfl⟩ := hR59
    have e5 : (vf 5) = .int .i64 (300 + (intOf_o (vf 4))) ∧ (pf 5) = [] := hR 5 (by decide)
    rw [vE4] at e5
    refine dqQ [2, 4, 5] [2, 4, 5] rfl (zbg (sk 72 (congrArg some e2.1) (sk 75 (congrArg some e5.1) (zab _))) (by simp only [pE4, vE4, e2.2, e5.2, fS] <;> rfl) ?_)
    exact zbo (zbi (zgr rfl rfl rfl rfl)) (fun _ _ h => ⟨h.1.trans (by show _ = (.bool (decide ((gs2.length : Int) < 300 + (intOf_o (vf 4)))) : Value); first | (rw [vE4]; done) | (rw [vE4]; rfl)), h.2⟩)
   intro vf pf hmu hR
   have e4 : (∃ pm_, (pf 4) = [pm_] ∧ (fun u_ p_ => (∃ x_ : Int, u_ = .int .i64 x_ ∧ 0 ≤ x_ ∧ x_ < 2) ∧ p_ = curE g a len cap) (vf 4) pm_) := hR 4 (by decide)
   obtain ⟨p58, pE4, hR59⟩ := e4
   obtain ⟨v57, vE4⟩ : ∃ x, vf 4 = x := ⟨_, rfl⟩
   rw [vE4] at hR59
   obtain ⟨⟨xhR59, rfl, xhR590, xhR591⟩, rfl⟩ := hR59
   have e6 : (vf 6) = .bool (decide ((gs2.length : Int) < 300 + (intOf_o (vf 4)))) ∧ (pf 6) = [] := hR 6 (by decide)
   rw [vE4] at e6
   have q0 := hR 0 (by decide)
   have q1 := hR 1 (by decide)
   have q2 := hR 2 (by decide)
   have q3 := hR 3 (by decide)
   have q5 := hR 5 (by decide)
   have q6 := hR 6 (by decide)
   refine zcd (zbs [69, 66, 52, 37, 24, 14, 8, 7, 3, 2, 0] _ (sk 76 (congrArg some e6.1) (zab _)) rfl) (by simp only [pE4, vE4, q0.2, q1.2, q2.2, q3.2, q5.2, q6.2, fS] <;> rfl) ?_
   simp only [List.drop_succ_cons, List.drop_zero]
   refine ntQ ?_
   refine hc_cond rfl (fun h60 => ?_) (fun h60 => ?_)
   ·
    have h60q : ((gs2.length : Int) < 300 + xhR59) := of_decide_eq_true h60
    refine zdb (zbf (zav (hvQ rfl (fdQ 2 rfl rfl rfl) (hvQ rfl (zan rfl rfl rfl (zai 5 rfl rfl)) (hvQ rfl (zct (cs := #[.int .i64 2, .int .i64 1]) rfl rfl rfl) ?_)))))
    refine zey rfl (zas (z := .agg #[.int .i64 0, .int .i64 0]) (s := 2) (cs := ([2, 1].map (Value.int .i64))) rfl Try.underlying68 rfl (by decide) rfl (by kernel_rfl) rfl) ?_
    intro g61
    refine zdc (i := 4) (z := .agg #[.int .i64 0, .int .i64 0]) (bytes := 16) rfl rfl rfl rfl Try.underlying68 (by kernel_rfl) rfl rfl rfl rfl (zao 0 rfl) (zcj _) (by first | omega | (simp only [List.length_append, List.length_cons, List.length_nil]; omega)) (zco gs2 [(An.mk 2 1)]) (zei anC gs2 (An.mk 2 1) _ rfl) (fun _ => rfl) ?_
    intro v62
    refine hvQ rfl (fdQ 2 rfl rfl rfl) (zcr (i := 4) rfl (fun ho63 => ?_))
    refine zgs (i := 6) (cs' := #[.int .i64 n.ins, n.sv, v62, n.ov]) rfl rfl rfl rfl rfl rfl ho63 rfl rfl rfl rfl (zbu (zbt ?_))
    refine zaz 8 [7, 6, 1, 5, 4, 3, 2] rfl rfl (by decide) ?_
    exact zci (gs2 ++ [(An.mk 2 1)]) v62 ⟨by rw [List.length_append, List.length_singleton]; omega, mg_app hgm ⟨by dsimp only; omega, by dsimp only; omega⟩⟩ (by rw [List.length_append, List.length_singleton]; omega) (saQ rfl) (.refl _)
   have h60q : ¬ ((gs2.length : Int) < 300 + xhR59) := of_decide_eq_false h60
   refine zby (zes ?_)
   refine zat (zdn (srQ (hvQ rfl (zar (cs := [.int .i64 n.ins, n.sv, av2, n.ov]) rfl rfl rfl rfl rfl (zah 5 rfl 0 rfl)) ?_)))
   refine zcr (i := 3) rfl (fun ho64 => ?_)
   refine zbm (cs' := #[.int .i64 n.ins, n.sv, av2, n.ov]) (i := 6) (off := 0) (us := [.int .i64 n.ins, n.sv, av2, n.ov]) rfl rfl rfl rfl rfl rfl rfl (zaa rfl (zaa o1n (zaa ho64 (zaa o3n zbe)))) rfl rfl rfl (ntQ ?_)
   refine zak (zbw (fun w hm => (zao 2 rfl w hm).one) (fun hw1 => ?_))
   refine zbw (fun w hm => (zao 3 rfl w hm).one) (fun hw2 => ?_)
   refine zbw (fun w hm => (zao 4 rfl w hm).one) (fun hw3 => ?_)
   refine zaz 7 [6, 5, 4, 3, 0, 2, 1] rfl rfl (by decide) ?_
   refine zbk 2 rfl ?_
   refine zaz 6 [5, 4, 1, 3, 2, 0] rfl rfl (by decide) ?_
   refine zbk 3 rfl ?_
   refine zcu (ntE (Nt.mk n.ins n.sv av2 n.ov n.ss gs2 n.os) :: curE g a len cap :: boxE b5 #[.int .i64 n.ins, n.sv, av2, n.ov] 70 :: boxE b1 #[.int .i64 n.ins, n.sv, av2, n.ov] 70 :: l) (fun w hm => hm) ?_
   refine zaz 4 [3, 2, 0, 1] rfl rfl (by decide) ?_
   refine zbk 2 rfl ?_
   exact zcf (rs := [.cell 2 70]) (vs := [.agg #[.int .i64 n.ins, n.sv, av2, n.ov]]) rfl ⟨⟨b1, 0, [.int .i64 n.ins, n.sv, av2, n.ov], rfl, rfl, by kernel_rfl, by kernel_rfl, zah 2 rfl 0 rfl⟩, trivial⟩ rfl (fun w hm => ⟨_, bigE [curE g a len cap, ntE (Nt.mk n.ins n.sv av2 n.ov n.ss gs2 n.os)], rfl, ⟨(Nt.mk n.ins n.sv av2 n.ov n.ss gs2 n.os), rfl, rfl, ⟨hw1, hw2, hw3⟩, by first | exact hs9 | exact ⟨hs9.s1, hs9.a1, hs9.o1, hs9.x4, hs9.mx, hs9.mg, hs9.mo⟩ | exact sm_out hs9 (by omega) (by omega) | exact sm_and hs9 (by omega) ⟨by dsimp only; omega, by dsimp only; omega⟩ | exact sm_seq hs9 (by omega) | exact ⟨hs9.s1, hs9.a1, by dsimp only; omega, hs9.x4, hs9.mx, hs9.mg, hom⟩ | exact ⟨hs9.s1, by dsimp only; omega, hs9.o1, hs9.x4, hs9.mx, hgm, hs9.mo⟩⟩, hm.sub (.cons_cons _ (.cons _ (.cons _ (.refl _))))⟩)
  refine ntQ (fsQ rfl (zdn (srQ (hvQ rfl (zar (cs := [.int .i64 n.ins, n.sv, n.av, n.ov]) rfl rfl rfl rfl rfl (zah 5 rfl 0 rfl)) ?_))))
  refine zbm (cs' := #[.int .i64 n.ins, n.sv, n.av, n.ov]) (i := 6) (off := 0) (us := [.int .i64 n.ins, n.sv, n.av, n.ov]) rfl rfl rfl rfl rfl rfl rfl (zaa rfl (zaa o1n (zaa o2n (zaa o3n zbe)))) rfl rfl rfl (ntQ ?_)
  refine zak (zbw (fun w hm => (zao 1 rfl w hm).one) (fun hw1 => ?_))
  refine zbw (fun w hm => (zao 2 rfl w hm).one) (fun hw2 => ?_)
  refine zbw (fun w hm => (zao 3 rfl w hm).one) (fun hw3 => ?_)
  refine zaz 7 [6, 5, 4, 3, 2, 1, 0] rfl rfl (by decide) ?_
  refine zbk 2 rfl ?_
  refine zaz 6 [5, 4, 3, 2, 1, 0] rfl rfl (by decide) ?_
  refine zbk 3 rfl ?_
  refine zcu (ntE (Nt.mk n.ins n.sv n.av n.ov n.ss n.gs n.os) :: curE g a len cap :: nB9 b5 n :: nB9 b1 n :: l) (fun w hm => hm) ?_
  refine zaz 4 [3, 2, 0, 1] rfl rfl (by decide) ?_
  refine zbk 2 rfl ?_
  exact zcf (rs := [.cell 2 70]) (vs := [.agg #[.int .i64 n.ins, n.sv, n.av, n.ov]]) rfl ⟨⟨b1, 0, [.int .i64 n.ins, n.sv, n.av, n.ov], rfl, rfl, by kernel_rfl, by kernel_rfl, zah 2 rfl 0 rfl⟩, trivial⟩ rfl (fun w hm => ⟨_, bigE [curE g a len cap, ntE (Nt.mk n.ins n.sv n.av n.ov n.ss n.gs n.os)], rfl, ⟨(Nt.mk n.ins n.sv n.av n.ov n.ss n.gs n.os), rfl, rfl, ⟨hw1, hw2, hw3⟩, by first | exact hs9 | exact ⟨hs9.s1, hs9.a1, hs9.o1, hs9.x4, hs9.mx, hs9.mg, hs9.mo⟩ | exact sm_out hs9 (by omega) (by omega) | exact sm_and hs9 (by omega) ⟨by dsimp only; omega, by dsimp only; omega⟩ | exact sm_seq hs9 (by omega) | exact ⟨hs9.s1, hs9.a1, by dsimp only; omega, hs9.x4, hs9.mx, hs9.mg, hom⟩ | exact ⟨hs9.s1, by dsimp only; omega, hs9.o1, hs9.x4, hs9.mx, hgm, hs9.mo⟩⟩, hm.sub (.cons_cons _ (.cons _ (.cons _ (.refl _))))⟩)
 refine zbc 1 rfl (fsQ rfl (zdn (srQ (hvQ rfl (zar (cs := [.int .i64 n.ins, n.sv, n.av, n.ov]) rfl rfl rfl rfl rfl (zah 5 rfl 0 rfl)) ?_))))
 refine zbm (cs' := #[.int .i64 n.ins, n.sv, n.av, n.ov]) (i := 6) (off := 0) (us := [.int .i64 n.ins, n.sv, n.av, n.ov]) rfl rfl rfl rfl rfl rfl rfl (zaa rfl (zaa o1n (zaa o2n (zaa o3n zbe)))) rfl rfl rfl (ntQ ?_)
 refine zak (zbw (fun w hm => (zao 1 rfl w hm).one) (fun hw1 => ?_))
 refine zbw (fun w hm => (zao 2 rfl w hm).one) (fun hw2 => ?_)
 refine zbw (fun w hm => (zao 3 rfl w hm).one) (fun hw3 => ?_)
 refine zaz 7 [6, 5, 4, 3, 2, 1, 0] rfl rfl (by decide) ?_
 refine zbk 2 rfl ?_
 refine zaz 6 [5, 4, 3, 2, 1, 0] rfl rfl (by decide) ?_
 refine zbk 3 rfl ?_
 refine zcu (ntE (Nt.mk n.ins n.sv n.av n.ov n.ss n.gs n.os) :: curE g a len cap :: nB9 b5 n :: nB9 b1 n :: l) (fun w hm => hm) ?_
 refine zaz 4 [3, 2, 0, 1] rfl rfl (by decide) ?_
 refine zbk 2 rfl ?_
 exact zcf (rs := [.cell 2 70]) (vs := [.agg #[.int .i64 n.ins, n.sv, n.av, n.ov]]) rfl ⟨⟨b1, 0, [.int .i64 n.ins, n.sv, n.av, n.ov], rfl, rfl, by kernel_rfl, by kernel_rfl, zah 2 rfl 0 rfl⟩, trivial⟩ rfl (fun w hm => ⟨_, bigE [curE g a len cap, ntE (Nt.mk n.ins n.sv n.av n.ov n.ss n.gs n.os)], rfl, ⟨(Nt.mk n.ins n.sv n.av n.ov n.ss n.gs n.os), rfl, rfl, ⟨hw1, hw2, hw3⟩, by first | exact hs9 | exact ⟨hs9.s1, hs9.a1, hs9.o1, hs9.x4, hs9.mx, hs9.mg, hs9.mo⟩ | exact sm_out hs9 (by omega) (by omega) | exact sm_and hs9 (by omega) ⟨by dsimp only; omega, by dsimp only; omega⟩ | exact sm_seq hs9 (by omega) | exact ⟨hs9.s1, hs9.a1, by dsimp only; omega, hs9.x4, hs9.mx, hs9.mg, hom⟩ | exact ⟨hs9.s1, by dsimp only; omega, hs9.o1, hs9.x4, hs9.mx, hgm, hs9.mo⟩⟩, hm.sub (.cons_cons _ (.cons _ (.cons _ (.refl _))))⟩)
structure DSt where
  rs : List CRow
  lv : Value
  zs : List Int
  av : Value
  ps : List HP
theorem cntA_rng {n : Nt} : 0 ≤ cntA n ∧ cntA n ≤ 400 := by
  unfold cntA
  split
  · next h =>
    have e : n.cnt = 1 + n.ins + n.ss.length + n.gs.length := rfl
    omega
  · omega
theorem rs_max {rs : List CRow} {u : CRow} (h : ∀ i j, (rs.getD i crow0).xs.getD j 0 ≤ 9223372036854775807) (hu : ∀ x ∈ u.xs, x ≤ 9223372036854775807) : ∀ i j, ((rs ++ [u]).getD i crow0).xs.getD j 0 ≤ 9223372036854775807 := fun i j => by
  by_cases hi : i < (rs ++ [u]).length
  · rcases getD_appL (d := crow0) hi with ⟨h1, e⟩ | e
    · rw [e]; exact h i j
    · rw [e]
      by_cases hj : j < u.xs.length
      · exact hu _ (zbd hj)
      · rw [zem (by omega)]; decide
  · rw [show (rs ++ [u]).getD i crow0 = crow0 by rw [List.getD_eq_getElem?_getD, List.getElem?_eq_none (Nat.not_lt.1 hi)]; rfl]; show ([] : List Int).getD j 0 ≤ 9223372036854775807; rw [zem (Nat.zero_le _)]; decide
theorem rs_nil : ∀ i j, (([] : List CRow).getD i crow0).xs.getD j 0 ≤ 9223372036854775807 := fun i j => by show ([] : List Int).getD j 0 ≤ 9223372036854775807; rw [zem (Nat.zero_le _)]; decide
theorem av_app {zs : List Int} {k : Nat} (h : ∀ x ∈ zs, 0 ≤ x ∧ x < (k : Int)) : ∀ x ∈ zs ++ [(k : Int)], 0 ≤ x ∧ x < ((k + 1 : Nat) : Int) := fun x hx => by
  rcases List.mem_append.1 hx with hx | hx
  · have := h x hx; omega
  · rw [List.mem_singleton] at hx; subst hx; omega
theorem ntE_rds {n : Nt} {w : World} (h : (ntE n).holds w) : RdsNt w n := ⟨(zcw (zau h List.mem_cons_self)).1, (zcw (zau h List.mem_cons_self)).2, zbh (zau h (List.mem_cons_of_mem _ List.mem_cons_self)), zbh (zau h (List.mem_cons_of_mem _ (List.mem_cons_of_mem _ List.mem_cons_self)))⟩
theorem DrawAddExpr_ret (a : Option Addr) (len cap : Nat) (z : List Int) (w : World) (hb : BRow .u8 w a len cap z) (hlen : len ≤ 1048576) :
   Calls Try.prog 34 #[.slice a len cap] w (Ret w (fun u_ p_ => ∃ (ps : List HP) (n : Nt) (rs : List CRow) (os : List Oq) (sv vO : Value) (W : Int), u_ = .tuple #[n.agg, sv, vO, .int .i64 W] ∧ p_ = [bigE ps] ∧ (∀ w, (bigE ps).holds w → RdsNt w n ∧ RdsW w sv 1 rs.length (rs.flatMap crowC) ∧ RdsAll w rs ∧ RdsW w vO 3 os.length (os.flatMap oqC)) ∧ (n.sv.oneCell' = true ∧ n.av.oneCell' = true ∧ n.ov.oneCell' = true) ∧ sv.oneCell' = true ∧ vO.oneCell' = true ∧ NtSm n ∧ (∀ i j, (rs.getD i crow0).xs.getD j 0 ≤ 9223372036854775807) ∧ rs.length ≤ 3)) := by
 refine zbq (N := 78) (args := [.slice a len cap]) Try.func34 rfl rfl (srQ ?_)
 refine zed rfl (zcc (z := .agg #[.int .i64 0, .slice none 0 0, .slice none 0 0, .slice none 0 0]) rfl rfl) ?_
 intro b1
 refine zbc 3 rfl (zac (reQ 1 rfl ?_))
 refine zfg rfl rfl rfl (zam rfl rfl (fun w hm => new_ret (hb.below hm.bel) hlen)) ?_
 intro v2 p3 hR4
 obtain ⟨ghR4, rfl, rfl⟩ := hR4
 refine zbc 1 rfl (zac (reQ 1 rfl ?_))
 refine zch (R := (fun u_ p_ => ∃ n : Nt, u_ = n.agg ∧ p_ = bigE [curE ghR4 a len cap, ntE n] ∧ (n.sv.oneCell' = true ∧ n.av.oneCell' = true ∧ n.ov.oneCell' = true) ∧ NtSm n)) 0 rfl rfl rfl rfl rfl (fun l' w hm => l08Any_mut ghR4 a len cap z _ _ _ hm hb) ?_
 intro v5 p6 hR7
 obtain ⟨n, rfl, rfl, ⟨o1n, o2n, o3n⟩, hsm⟩ := hR7
 have hcr := cntA_rng (n := n)
 refine zck (l' := [bigE [curE ghR4 a len cap, ntE n], eB9 b1]) rfl ?_
 refine zed rfl (zcc (z := .agg #[.int .i64 0, .slice none 0 0, .slice none 0 0, .slice none 0 0]) rfl rfl) ?_
 intro b8
 refine zbm (cs' := #[.int .i64 n.ins, n.sv, n.av, n.ov]) (i := 0) (off := 0) (us := [.int .i64 n.ins, n.sv, n.av, n.ov]) rfl rfl rfl rfl rfl rfl rfl (zaa rfl (zaa o1n (zaa o2n (zaa o3n zbe)))) rfl rfl rfl (ntQ (srQ ?_))
 refine zew 3 [2, 0, 1] rfl rfl (by decide) ?_
 refine zfa [curE ghR4 a len cap, ntE n, nB9 b8 n, eB9 b1] zdv ?_
 refine zey rfl (zds (s := 1) rfl Try.underlying44 rfl) ?_
 intro g9
 refine zbc 1 rfl (srQ ?_)
 refine zey rfl (zds (s := 1) rfl Try.underlying48 rfl) ?_
 intro g10
 refine zbc 1 rfl (zac (zac (reQ 1 rfl ?_)))
 refine zch (R := (fun u_ p_ => (∃ x_ : Int, u_ = .int .i64 x_ ∧ 0 ≤ x_ ∧ x_ < 3) ∧ p_ = curE ghR4 a len cap)) 2 rfl rfl rfl rfl rfl (fun l' w hm => zbv ghR4 a len cap z 3 _ _ _ hm hb (by constructor <;> omega)) ?_
 intro v11 p12 hR13
 obtain ⟨⟨xhR13, rfl, xhR130, xhR131⟩, rfl⟩ := hR13
 refine zck (l' := [rowE 3 1 (.slice (some ⟨g10, 0, none⟩) 0 0) 0 ([]), rowE 48 1 (.slice (some ⟨g9, 0, none⟩) 0 0) 0 ([]), curE ghR4 a len cap, ntE n, nB9 b8 n, eB9 b1]) rfl ?_
 refine zbc 1 rfl (zbf ?_)
 refine zeo _ zfq ?_
 refine lkQ2 (α := Int) (β := DSt) [0, 2, 3, 4, 5, 6, 7] rfl (fun kv q => [bigE q.ps, rI9 3 q.av q.zs, rS9 48 1 q.lv q.rs crowC, curE ghR4 a len cap, ntE n, nB9 b8 n, eB9 b1]) (fun kv q => [(8, q.lv), (9, q.av), (10, .int .i64 kv)]) (fun kv q => -1 ≤ kv ∧ (q.rs.length : Int) + kv ≤ 2 ∧ q.zs.length = q.rs.length ∧ (∀ x ∈ q.zs, 0 ≤ x ∧ x < (q.rs.length : Int)) ∧ (∀ w, (bigE q.ps).holds w → RdsAll w q.rs) ∧ (∀ i j, (q.rs.getD i crow0).xs.getD j 0 ≤ 9223372036854775807)) (fun kv q => (kv + 1).toNat) xhR13 ⟨[], _, [], _, []⟩ ⟨by omega, by dsimp only; rw [List.length_nil]; omega, rfl, (fun x hx => by cases hx), (fun w _ => RdsAll.nil w), rs_nil⟩ (saQ rfl) (pfQ rfl) ?_
 intro kv q hi14
 obtain ⟨hkv, hrk, hzl, hzr, hps, hmx⟩ := hi14
 refine zac (zac (reQ 1 rfl ?_))
 refine zfw rfl rfl rfl rfl rfl rfl (fun h15 => ?_) (fun h15 => ?_)
 ·
  refine ntQ (zaj rfl (zdb (sbQ (srQ ?_))))
  refine zey rfl (zds (s := 1) rfl Try.underlying48 rfl) ?_
  intro g16
  refine zbc 1 rfl (zac (zac (reQ 1 rfl ?_)))
  refine zch (R := (fun u_ p_ => (∃ x_ : Int, u_ = .int .i64 x_ ∧ 0 ≤ x_ ∧ x_ < 5) ∧ p_ = curE ghR4 a len cap)) 4 rfl rfl rfl rfl rfl (fun l' w hm => zbv ghR4 a len cap z 5 _ _ _ hm hb (by constructor <;> omega)) ?_
  intro v17 p18 hR19
  obtain ⟨⟨xhR19, rfl, xhR190, xhR191⟩, rfl⟩ := hR19
  refine zck (l' := [rowE 3 1 (.slice (some ⟨g16, 0, none⟩) 0 0) 0 ([]), bigE q.ps, rI9 3 q.av q.zs, rS9 48 1 q.lv q.rs crowC, curE ghR4 a len cap, ntE n, nB9 b8 n, eB9 b1]) rfl ?_
  refine zbc 1 rfl (zbf ?_)
  refine zeo [rowE 3 1 (.slice (some ⟨g16, 0, none⟩) 0 0) (([] : List Int).length) (([] : List Int).map (Value.int .i64)), bigE q.ps, rI9 3 q.av q.zs, rS9 48 1 q.lv q.rs crowC, curE ghR4 a len cap, ntE n, nB9 b8 n, eB9 b1] (fun w hm => hm) ?_
  refine lkQ3 (α := Int) (β := List Int) (γ := Value) [0, 2, 3, 4, 5, 6, 7, 8, 9, 10, 23] rfl (fun jv xs xv => [rI9 3 xv xs, bigE q.ps, rI9 3 q.av q.zs, rS9 48 1 q.lv q.rs crowC, curE ghR4 a len cap, ntE n, nB9 b8 n, eB9 b1]) (fun jv xs xv => [(11, xv), (12, .int .i64 jv)]) (fun jv xs xv => 0 ≤ jv ∧ (xs.length : Int) + jv ≤ 4 ∧ ∀ x ∈ xs, x ≤ 9223372036854775807) (fun jv xs xv => jv.toNat) xhR19 [] _ ⟨by omega, by simp; omega, fun x hx => by cases hx⟩ (saQ rfl) (pfQ rfl) ?_
  intro jv xs xv hi20
  obtain ⟨hjv, hxl, hxm⟩ := hi20
  refine zac (zac (reQ 1 rfl ?_))
  refine zeq rfl rfl rfl rfl rfl rfl (fun h21 => ?_) (fun h21 => ?_)
  ·
   refine ntQ (zaj rfl (zdb (sbQ (reQ 2 rfl (hvQ rfl (zar (cs := [.int .i64 n.ins, n.sv, n.av, n.ov]) rfl rfl rfl rfl rfl (zah 6 rfl 0 rfl)) ?_)))))
   refine zdu rfl (zam rfl rfl (fun w hm => zbb (zeh n w (nt_rds 5 rfl w hm) hsm))) (hvQ rfl (rv_max rfl rfl rfl) (hvQ rfl (zfs rfl rfl rfl (by constructor <;> omega)) ?_))
   refine zch (R := (fun u_ p_ => (∃ x_ : Int, u_ = .int .i64 x_ ∧ 0 ≤ x_ ∧ x_ < 2 * (if 1 < cntA n then cntA n else 1)) ∧ p_ = curE ghR4 a len cap)) 4 rfl rfl rfl rfl rfl (fun l' w hm => zbv ghR4 a len cap z (2 * (if 1 < cntA n then cntA n else 1)) _ _ _ hm hb (by constructor <;> omega)) ?_
   intro v22 p23 hR24
   obtain ⟨⟨xhR24, rfl, xhR240, xhR241⟩, rfl⟩ := hR24
   refine zck (l' := [rI9 3 xv xs, bigE q.ps, rI9 3 q.av q.zs, rS9 48 1 q.lv q.rs crowC, curE ghR4 a len cap, ntE n, nB9 b8 n, eB9 b1]) rfl ?_
   refine zey rfl (zas (z := .int .i64 0) (s := 1) (cs := ([xhR24].map (Value.int .i64))) rfl Try.underlying48 rfl (by decide) rfl (by kernel_rfl) rfl) ?_
   intro g25
   refine zdc (i := 1) (z := .int .i64 0) (bytes := 8) rfl rfl rfl rfl Try.underlying48 (by kernel_rfl) rfl rfl rfl rfl (zao 0 rfl) (zcj _) (by first | omega | (simp; done) | (simp; omega)) (zco xs ([xhR24])) (zcx xs ([xhR24])) (fun _ => rfl) ?_
   intro v26
   refine enQ 1 rfl (zdn (reQ 1 rfl (hvQ rfl (vsQ rfl rfl rfl) (enQ 1 rfl ?_))))
   exact zdz (jv - 1) (xs ++ ([xhR24])) v26 ⟨by omega, by rw [List.length_append, List.length_singleton]; omega, mo_app hxm (by omega)⟩ (by omega) (saQ rfl) (slQ [1, 0, 0, 0, 0, 0, 0, 0] rfl)
  refine ntQ (zal rfl ?_)
  refine zby (zes ?_)
  refine zat (zaw (zac (zac (reQ 1 rfl ?_))))
  refine zch (R := (fun u_ p_ => (∃ b : Bool, u_ = .bool b) ∧ p_ = curE ghR4 a len cap)) 4 rfl rfl rfl rfl rfl (fun l' w hm => zgl hm hb (25) (by omega) (by omega)) ?_
  intro v27 p28 hR29
  obtain ⟨⟨xhR29, rfl⟩, rfl⟩ := hR29
  refine zck (l' := [rI9 3 xv xs, bigE q.ps, rI9 3 q.av q.zs, rS9 48 1 q.lv q.rs crowC, curE ghR4 a len cap, ntE n, nB9 b8 n, eB9 b1]) rfl ?_
  refine zbz (fun h30 => ?_) (fun h30 => ?_)
  ·
   refine ntQ (zaj rfl (reQ 2 rfl (hvQ rfl (zar (cs := [.int .i64 n.ins, n.sv, n.av, n.ov]) rfl rfl rfl rfl rfl (zah 6 rfl 0 rfl)) ?_)))
   refine zdu rfl (zam rfl rfl (fun w hm => zbb (zeh n w (nt_rds 5 rfl w hm) hsm))) (hvQ rfl (zfs rfl rfl rfl (by constructor <;> omega)) ?_)
   refine zey rfl (zas (z := .int .i64 0) (s := 1) (cs := ([-1, 0, 2 * (cntA n)].map (Value.int .i64))) rfl Try.underlying48 rfl (by decide) rfl (by kernel_rfl) rfl) ?_
   intro g31
   refine zcz (R := (fun u_ p_ => (∃ x : Int, u_ = .int .i64 x ∧ x ≤ 9223372036854775807) ∧ p_ = curE ghR4 a len cap)) 5 rfl rfl rfl rfl rfl (fun L w hX hm => (zfe ghR4 a len cap z (.slice (some ⟨g31, 0, none⟩) 3 3) ([(-1), 0, (2 * cntA n)] : List Int) _ _ _ hm hb (fun w hm => (zao (l := [rowE 3 1 (.slice (some ⟨g31, 0, none⟩) 3 3) 3 ([-1, 0, 2 * (cntA n)].map (Value.int .i64)), rI9 3 xv xs, bigE q.ps, rI9 3 q.av q.zs, rS9 48 1 q.lv q.rs crowC, ntE n, nB9 b8 n, eB9 b1]) 0 rfl) w (hX w hm)) (by simp)).mono (pk_max (fun y hy => by simp only [List.mem_cons, List.not_mem_nil, or_false] at hy; omega))) ?_
   intro v32 p33 hR34
   obtain ⟨⟨xhR34, rfl, xhR34m⟩, rfl⟩ := hR34
   refine zck (l' := [rowE 3 1 (.slice (some ⟨g31, 0, none⟩) 3 3) 3 ([-1, 0, 2 * (cntA n)].map (Value.int .i64)), rI9 3 xv xs, bigE q.ps, rI9 3 q.av q.zs, rS9 48 1 q.lv q.rs crowC, curE ghR4 a len cap, ntE n, nB9 b8 n, eB9 b1]) rfl ?_
   refine zey rfl (zas (z := .int .i64 0) (s := 1) (cs := ([xhR34].map (Value.int .i64))) rfl Try.underlying48 rfl (by decide) rfl (by kernel_rfl) rfl) ?_
   intro g35
   refine zdc (i := 2) (z := .int .i64 0) (bytes := 8) rfl rfl rfl rfl Try.underlying48 (by kernel_rfl) rfl rfl rfl rfl (zao 0 rfl) (zcj _) (by first | omega | (simp; done) | (simp; omega)) (zco xs ([xhR34])) (zcx xs ([xhR34])) (fun _ => rfl) ?_
   intro v36
   refine zbc 1 rfl (zac (reQ 2 rfl (hvQ rfl (lnQ rfl rfl rfl (zao 5 rfl)) ?_)))
   refine zey rfl (zas (z := .int .i64 0) (s := 1) (cs := ([(q.rs.length : Int)].map (Value.int .i64))) rfl Try.underlying48 rfl (by decide) rfl (by kernel_rfl) rfl) ?_
   intro g37
   refine zdc (i := 5) (z := .int .i64 0) (bytes := 8) rfl rfl rfl rfl Try.underlying48 (by kernel_rfl) rfl rfl rfl rfl (zao 0 rfl) (zcj _) (by first | omega | (simp; done) | (simp; omega)) (zco q.zs ([(q.rs.length : Int)])) (zcx q.zs ([(q.rs.length : Int)])) (fun _ => rfl) ?_
   intro v38
   refine zbc 1 rfl (reQ 2 rfl ?_)
   refine zey rfl (zgh rfl Try.underlying44 (by kernel_rfl) rfl (fun w hm => (zao 3 rfl w hm).one)) ?_
   intro g39
   refine zcr (i := 4) rfl (fun ho40 => ?_)
   refine zdc (i := 7) (z := .slice none 0 0) (bytes := 24) rfl rfl rfl rfl Try.underlying44 (by kernel_rfl) rfl rfl rfl rfl (zao 0 rfl) (zaa ho40 zbe) (by first | omega | (simp only [List.length_append, List.length_cons, List.length_nil]; omega)) (zco q.rs [(CRow.mk v36 (xs ++ ([xhR34])))]) (zei crowC q.rs (CRow.mk v36 (xs ++ ([xhR34]))) _ rfl) (fun _ => rfl) ?_
   intro v41
   refine enQ 1 rfl (zdn (reQ 1 rfl (hvQ rfl (vsQ rfl rfl rfl) (enQ 1 rfl ?_))))
   refine zaz 12 [11, 10, 9, 8, 7, 6, 4, 5] rfl rfl (by decide) ?_
   refine zbk 2 rfl ?_
   exact zci (kv - 1) ⟨q.rs ++ [(CRow.mk v36 (xs ++ ([xhR34])))], v41, q.zs ++ ([(q.rs.length : Int)]), v38, [bigE q.ps, rowE 3 1 v36 ((xs ++ ([xhR34])).length) ((xs ++ ([xhR34])).map (Value.int .i64))]⟩ ⟨by omega, by dsimp only; rw [List.length_append, List.length_singleton]; omega, by dsimp only; rw [List.length_append, List.length_singleton, List.length_append, List.length_singleton]; omega, by dsimp only; rw [List.length_append, List.length_singleton]; exact av_app hzr, fun w hw => RdsAll.cons (u := CRow.mk v36 (xs ++ ([xhR34]))) (hps w (zau hw List.mem_cons_self)) (zbh (zau hw (List.mem_cons_of_mem _ List.mem_cons_self))) (fun q hq => (List.mem_append.1 hq).elim .inr (fun h => .inl (List.mem_singleton.1 h))), rs_max hmx (mo_app hxm (by omega))⟩ (by omega) (saQ rfl) (pfQ rfl)
  refine ntQ (zal rfl (zdb (zac (reQ 2 rfl (hvQ rfl (lnQ rfl rfl rfl (zao 3 rfl)) ?_)))))
  refine zey rfl (zas (z := .int .i64 0) (s := 1) (cs := ([(q.rs.length : Int)].map (Value.int .i64))) rfl Try.underlying48 rfl (by decide) rfl (by kernel_rfl) rfl) ?_
  intro g42
  refine zdc (i := 3) (z := .int .i64 0) (bytes := 8) rfl rfl rfl rfl Try.underlying48 (by kernel_rfl) rfl rfl rfl rfl (zao 0 rfl) (zcj _) (by first | omega | (simp; done) | (simp; omega)) (zco q.zs ([(q.rs.length : Int)])) (zcx q.zs ([(q.rs.length : Int)])) (fun _ => rfl) ?_
  intro v43
  refine zbc 1 rfl (reQ 2 rfl ?_)
  refine zey rfl (zgh rfl Try.underlying44 (by kernel_rfl) rfl (fun w hm => (zao 1 rfl w hm).one)) ?_
  intro g44
  refine zcr (i := 2) rfl (fun ho45 => ?_)
  refine zdc (i := 5) (z := .slice none 0 0) (bytes := 24) rfl rfl rfl rfl Try.underlying44 (by kernel_rfl) rfl rfl rfl rfl (zao 0 rfl) (zaa ho45 zbe) (by first | omega | (simp only [List.length_append, List.length_cons, List.length_nil]; omega)) (zco q.rs [(CRow.mk xv xs)]) (zei crowC q.rs (CRow.mk xv xs) _ rfl) (fun _ => rfl) ?_
  intro v46
  refine enQ 1 rfl (zdn (reQ 1 rfl (hvQ rfl (vsQ rfl rfl rfl) (enQ 1 rfl ?_))))
  refine zaz 10 [9, 8, 7, 6, 5, 4, 2, 3] rfl rfl (by decide) ?_
  refine zbk 2 rfl ?_
  exact zci (kv - 1) ⟨q.rs ++ [(CRow.mk xv xs)], v46, q.zs ++ ([(q.rs.length : Int)]), v43, [bigE q.ps, rI9 3 xv xs]⟩ ⟨by omega, by dsimp only; rw [List.length_append, List.length_singleton]; omega, by dsimp only; rw [List.length_append, List.length_singleton, List.length_append, List.length_singleton]; omega, by dsimp only; rw [List.length_append, List.length_singleton]; exact av_app hzr, fun w hw => RdsAll.cons (u := CRow.mk xv xs) (hps w (zau hw List.mem_cons_self)) (zbh (zau hw (List.mem_cons_of_mem _ List.mem_cons_self))) (fun q hq => (List.mem_append.1 hq).elim .inr (fun h => .inl (List.mem_singleton.1 h))), rs_max hmx hxm⟩ (by omega) (saQ rfl) (pfQ rfl)
 refine ntQ (zal rfl ?_)
 refine zby (zes ?_)
 refine zat (zaw (zac (reQ 2 rfl ?_)))
 refine zcz (R := (fun u_ p_ => ∃ os : List Oq, p_ = bigE [curE ghR4 a len cap, rS9 97 3 u_ os oqC] ∧ ExP q.rs.length 9 os)) 3 rfl rfl rfl rfl rfl (fun L w hX hm => l04Expr_mut ghR4 a len cap z q.rs.length q.av q.zs hzr (by omega) _ hb 9 9 (by decide) (by decide) L w hm (fun w9 h9 => (zao (l := [bigE q.ps, rI9 3 q.av q.zs, rS9 48 1 q.lv q.rs crowC, ntE n, nB9 b8 n, eB9 b1]) 1 rfl) w9 (hX w9 h9))) ?_
 intro v47 p48 hR49
 obtain ⟨os, rfl, hos⟩ := hR49
 refine zck (l' := [bigE q.ps, rI9 3 q.av q.zs, rS9 48 1 q.lv q.rs crowC, bigE [curE ghR4 a len cap, rS9 97 3 v47 os oqC], ntE n, nB9 b8 n, eB9 b1]) rfl ?_
 refine zbc 1 rfl (zgk ?_)
 refine zew 7 [6, 5, 4, 2, 1, 0, 3] rfl rfl (by decide) ?_
 refine zfa [curE ghR4 a len cap, rS9 97 3 v47 os oqC, bigE q.ps, rI9 3 q.av q.zs, rS9 48 1 q.lv q.rs crowC, ntE n, nB9 b8 n, eB9 b1] zdv ?_
 refine zag 1 rfl (zch (R := (fun u_ p_ => (∃ b : Bool, u_ = .bool b) ∧ p_ = curE ghR4 a len cap)) 0 rfl rfl rfl rfl rfl (fun l' w hm => zgl hm hb (12) (by omega) (by omega)) ?_)
 intro v50 p51 hR52
 obtain ⟨⟨xhR52, rfl⟩, rfl⟩ := hR52
 refine zck (l' := [curE ghR4 a len cap, rS9 97 3 v47 os oqC, bigE q.ps, rI9 3 q.av q.zs, rS9 48 1 q.lv q.rs crowC, ntE n, nB9 b8 n, eB9 b1]) rfl ?_
 refine zbz (fun h53 => ?_) (fun h53 => ?_)
 ·
  refine ntQ (zaj rfl (zac (hc_keep _ [66, 23, 13, 10, 9, 8, 7, 6, 5, 4, 2, 0] rfl ?_)))
  refine zdo 8 [6, 5, 4, 3, 2, 1, 7, 0] rfl rfl (by decide) ?_
  refine zdq (l := [rS9 97 3 v47 os oqC, bigE q.ps, rI9 3 q.av q.zs, rS9 48 1 q.lv q.rs crowC, ntE n, nB9 b8 n]) rfl 7 [0, 1, 2, 3, 4, 5, 6] (List.take 7 _) (List.drop 7 _) [[], [], [], [], [3], [0], [1]] [some 67, some 68, some 69, some 70, some 71, none, some 3] (fun i_ vs_ v_ p_ => match i_ with | 0 => v_ = .agg #[.int .i64 n.ins, n.sv, n.av, n.ov] ∧ p_ = [] | 1 => v_ = q.lv ∧ p_ = [] | 2 => v_ = v47 ∧ p_ = [] | 3 => v_ = .pointer (some ⟨ghR4, 0, none⟩) ∧ p_ = [] | 4 => (∃ pm_, p_ = [pm_] ∧ (fun u_ p_ => (∃ x : Int, u_ = .int .i64 x ∧ x ≤ 9223372036854775807) ∧ p_ = curE ghR4 a len cap) v_ pm_) | 5 => p_ = [nB9 b1 n] | 6 => v_ = q.lv ∧ p_ = [] | _ => True) [[], [], [], [], [3], [0], [1]] [none, none, none, none, some 9, some 10, none] [[curE ghR4 a len cap], [eB9 b1]] [0, 1, 2, 3, 4, 5, 6] 9 (List.take_append_drop 7 _).symm (by kernel_rfl) (by kernel_rfl) (by kernel_rfl) rfl rfl ?_ ?_
  ·
   refine ⟨?_, ?_, ?_, ?_, ?_, ?_, ?_, trivial⟩
   ·
    intro vf pf hmu hR
    refine zce [] [] rfl (zaq (zae [7] rfl) (List.sublist_append_right _ _) ?_)
    exact zbi (zar (cs := [.int .i64 n.ins, n.sv, n.av, n.ov]) rfl rfl rfl rfl rfl (zah 5 rfl 0 rfl))
   ·
    intro vf pf hmu hR
    refine zce [] [] rfl (zay (zae [8] rfl) ?_)
    exact zbi (zax rfl)
   ·
    intro vf pf hmu hR
    refine zce [] [] rfl (zay (zae [13] rfl) ?_)
    exact zbi (zax rfl)
   ·
    intro vf pf hmu hR
    refine zce [] [] rfl (zay (zae [6] rfl) ?_)
    exact zbi (zax rfl)
   ·
    intro vf pf hmu hR
    have e3 := hR 3 (by decide)
    refine Or.inl ⟨rfl, ?_⟩
    show RunM _ _ _ (pf 9) (([3] : List Nat).flatMap pf ++ _) (envOf3 _ vf [3] ++ _) _ _
    have hmu0 : pf 9 = [curE ghR4 a len cap] := hmu 0 (show 0 < 2 by omega)
    rw [hmu0]
    exact zbx (sk 70 (congrArg some e3.1) (zab _)) (by simp only [e3.2, fS] <;> rfl) (zcn (R := (fun u_ p_ => (∃ x : Int, u_ = .int .i64 x ∧ x ≤ 9223372036854775807) ∧ p_ = curE ghR4 a len cap)) rfl rfl (fun L w hX hm => l01PlaceK_mut ghR4 a len cap z 6 _ _ _ hm hb (by omega)))
   ·
    intro vf pf hmu hR
    have e0 := hR 0 (by decide)
    refine Or.inl ⟨rfl, ?_⟩
    show RunM _ _ _ (pf 10) (([0] : List Nat).flatMap pf ++ _) (envOf3 _ vf [0] ++ _) _ _
    have hmu1 : pf 10 = [eB9 b1] := hmu 1 (show 1 < 2 by omega)
    rw [hmu1]
    exact zbx (sk 2 rfl (sk 67 (congrArg some e0.1) (zab _))) (by simp only [e0.2, fS] <;> rfl) (zel (zcs (us := [.int .i64 n.ins, n.sv, n.av, n.ov]) (off := 0) 0 rfl rfl rfl rfl rfl rfl (zaa rfl (zaa o1n (zaa o2n (zaa o3n zbe)))) rfl rfl) (fun v_ p_ h => by show p_ = [nB9 b1 n]; exact h))
   intro vf pf hmu hR
   have e1 := hR 1 (by decide)
   refine zce [1] [1] rfl (zay (sk 68 (congrArg some e1.1) (zab _)) ?_)
   exact zbi (zax rfl)
  intro vf pf hmu hR
  have e2 := hR 2 (by decide)
  have e4 : (∃ pm_, (pf 4) = [pm_] ∧ (fun u_ p_ => (∃ x : Int, u_ = .int .i64 x ∧ x ≤ 9223372036854775807) ∧ p_ = curE ghR4 a len cap) (vf 4) pm_) := hR 4 (by decide)
  obtain ⟨p55, pE4, hR56⟩ := e4
  obtain ⟨v54, vE4⟩ : ∃ x, vf 4 = x := ⟨_, rfl⟩
  rw [vE4] at hR56
  obtain ⟨⟨xhR56, rfl, xhR56m⟩, rfl⟩ := hR56
  have e5 : (pf 5) = [nB9 b1 n] := hR 5 (by decide)
  have pE5 := e5
  have e6 := hR 6 (by decide)
  have q0 := hR 0 (by decide)
  have q1 := hR 1 (by decide)
  have q2 := hR 2 (by decide)
  have q3 := hR 3 (by decide)
  have q6 := hR 6 (by decide)
  refine zcd (sk 0 rfl (sk 2 rfl (sk 3 (congrArg some e6.1) (zbs [66, 23, 13, 10, 9, 8, 7, 6, 5, 4] _ (sk 69 (congrArg some e2.1) (sk 71 (congrArg some vE4) (zab _))) rfl)))) (by simp only [pE4, vE4, pE5, q0.2, q1.2, q2.2, q3.2, q6.2, fS] <;> rfl) ?_
  simp only [List.drop_succ_cons, List.drop_zero]
  refine zbc 2 rfl ?_
  refine zak (zad ?_)
  refine zbw (fun w hm => (zao 5 rfl w hm).one) (fun hw1 => ?_)
  refine zbw (fun w hm => (zao 2 rfl w hm).one) (fun hw2 => ?_)
  refine zaz 8 [1, 2, 3, 5, 6] rfl rfl (by decide) ?_
  refine zbk 4 rfl ?_
  exact zca (rs := [.cell 2 70, .tmp 3, .tmp 4, .tmp 5]) (vs := [.agg #[.int .i64 n.ins, n.sv, n.av, n.ov], q.lv, v47, .int .i64 xhR56]) (post := [bigE [ntE n, rS9 48 1 q.lv q.rs crowC, bigE q.ps, rS9 97 3 v47 os oqC]]) rfl ⟨⟨b1, 0, [.int .i64 n.ins, n.sv, n.av, n.ov], rfl, rfl, by kernel_rfl, by kernel_rfl, zah 1 rfl 0 rfl⟩, rfl, rfl, rfl, trivial⟩ rfl (slQ [0] rfl) ⟨_, n, q.rs, os, _, _, xhR56, rfl, rfl, fun w hw => ⟨ntE_rds (zau hw List.mem_cons_self), zbh (zau hw (List.mem_cons_of_mem _ List.mem_cons_self)), hps w (zau hw (List.mem_cons_of_mem _ (List.mem_cons_of_mem _ List.mem_cons_self))), zbh (zau hw (List.mem_cons_of_mem _ (List.mem_cons_of_mem _ (List.mem_cons_of_mem _ List.mem_cons_self))))⟩, ⟨o1n, o2n, o3n⟩, hw1, hw2, hsm, hmx, by omega⟩
 refine ntQ (zal rfl (zdb (zac (hc_keep _ [66, 23, 13, 10, 9, 8, 7, 6, 5, 2, 0] rfl ?_))))
 refine zdo 8 [6, 5, 4, 3, 2, 1, 7, 0] rfl rfl (by decide) ?_
 refine zdq (l := [rS9 97 3 v47 os oqC, bigE q.ps, rI9 3 q.av q.zs, rS9 48 1 q.lv q.rs crowC, ntE n, nB9 b8 n]) rfl 9 [0, 1, 2, 3, 4, 5, 6, 7, 8] (List.take 9 _) (List.drop 9 _) [[], [], [], [], [3], [4], [0], [1], [2]] [some 72, some 73, some 74, some 75, some 76, some 77, none, some 3, some 4] (fun i_ vs_ v_ p_ => match i_ with | 0 => v_ = .agg #[.int .i64 n.ins, n.sv, n.av, n.ov] ∧ p_ = [] | 1 => v_ = q.lv ∧ p_ = [] | 2 => v_ = v47 ∧ p_ = [] | 3 => v_ = .pointer (some ⟨ghR4, 0, none⟩) ∧ p_ = [] | 4 => (∃ pm_, p_ = [pm_] ∧ (fun u_ p_ => (∃ x_ : Int, u_ = .int .i64 x_ ∧ 0 ≤ x_ ∧ x_ < 3) ∧ p_ = curE ghR4 a len cap) v_ pm_) | 5 => v_ = .int .i64 (1 + (intOf_o (gV9 vs_ 0))) ∧ p_ = [] | 6 => p_ = [nB9 b1 n] | 7 => v_ = q.lv ∧ p_ = [] | 8 => v_ = v47 ∧ p_ = [] | _ => True) [[], [], [], [], [3], [4], [0], [1], [2]] [none, none, none, none, some 10, none, some 11, none, none] [[curE ghR4 a len cap], [eB9 b1]] [0, 1, 2, 3, 4, 5, 6, 7, 8] 10 (List.take_append_drop 9 _).symm (by kernel_rfl) (by kernel_rfl) (by kernel_rfl) rfl rfl ?_ ?_
 ·
  refine ⟨?_, ?_, ?_, ?_, ?_, ?_, ?_, ?_, ?_, trivial⟩
  ·
   intro vf pf hmu hR
   refine zce [] [] rfl (zaq (zae [7] rfl) (List.sublist_append_right _ _) ?_)
   exact zbi (zar (cs := [.int .i64 n.ins, n.sv, n.av, n.ov]) rfl rfl rfl rfl rfl (zah 5 rfl 0 rfl))
  ·
   intro vf pf hmu hR
   refine zce [] [] rfl (zay (zae [8] rfl) ?_)
   exact zbi (zax rfl)
  ·
   intro vf pf hmu hR
   refine zce [] [] rfl (zay (zae [13] rfl) ?_)
   exact zbi (zax rfl)
  ·
   intro vf pf hmu hR
   refine zce [] [] rfl (zay (zae [6] rfl) ?_)
   exact zbi (zax rfl)
  ·
   intro vf pf hmu hR
   have e3 := hR 3 (by decide)
   refine Or.inl ⟨rfl, ?_⟩
   show RunM _ _ _ (pf 10) (([3] : List Nat).flatMap pf ++ _) (envOf3 _ vf [3] ++ _) _ _
   have hmu0 : pf 10 = [curE ghR4 a len cap] := hmu 0 (show 0 < 2 by omega)
   rw [hmu0]
   exact zbx (sk 75 (congrArg some e3.1) (zab _)) (by simp only [e3.2, fS] <;> rfl) (zcn (R := (fun u_ p_ => (∃ x_ : Int, u_ = .int .i64 x_ ∧ 0 ≤ x_ ∧ x_ < 3) ∧ p_ = curE ghR4 a len cap)) rfl rfl (fun L w hX hm => zbv ghR4 a len cap z 3 _ _ _ hm hb (by constructor <;> omega)))
  ·
   intro vf pf hmu hR
   have e4 : (∃ pm_, (pf 4) = [pm_] ∧ (fun u_ p_ => (∃ x_ : Int, u_ = .int .i64 x_ ∧ 0 ≤ x_ ∧ x_ < 3) ∧ p_ = curE ghR4 a len cap) (vf 4) pm_) := hR 4 (by decide)
   obtain ⟨p58, pE4, hR59⟩ := e4
   obtain ⟨v57, vE4⟩ : ∃ x, vf 4 = x := ⟨_, rfl⟩
   rw [vE4] at hR59
   obtain ⟨⟨xhR59, rfl, xhR590, xhR591⟩, rfl⟩ := hR59
   refine zce [4] [4] rfl (zbg (sk 76 (congrArg some vE4) (zab _)) (by simp only [pE4, vE4, fS] <;> rfl) ?_)
   exact zbo (zbi (vaQ rfl rfl rfl)) (fun _ _ h => ⟨h.1.trans (by show _ = (.int .i64 (1 + (intOf_o (vf 4))) : Value); first | (rw [vE4]; done) | (rw [vE4]; rfl)), h.2⟩)
  ·
   intro vf pf hmu hR
   have e0 := hR 0 (by decide)
   refine Or.inl ⟨rfl, ?_⟩
   show RunM _ _ _ (pf 11) (([0] : List Nat).flatMap pf ++ _) (envOf3 _ vf [0] ++ _) _ _
   have hmu1 : pf 11 = [eB9 b1] := hmu 1 (show 1 < 2 by omega)
   rw [hmu1]
   exact zbx (sk 2 rfl (sk 72 (congrArg some e0.1) (zab _))) (by simp only [e0.2, fS] <;> rfl) (zel (zcs (us := [.int .i64 n.ins, n.sv, n.av, n.ov]) (off := 0) 0 rfl rfl rfl rfl rfl rfl (zaa rfl (zaa o1n (zaa o2n (zaa o3n zbe)))) rfl rfl) (fun v_ p_ h => by show p_ = [nB9 b1 n]; exact h))
  ·
   intro vf pf hmu hR
   have e1 := hR 1 (by decide)
   refine zce [1] [1] rfl (zay (sk 73 (congrArg some e1.1) (zab _)) ?_)
   exact zbi (zax rfl)
  intro vf pf hmu hR
  have e2 := hR 2 (by decide)
  refine zce [2] [2] rfl (zay (sk 74 (congrArg some e2.1) (zab _)) ?_)
  exact zbi (zax rfl)
 intro vf pf hmu hR
 have e4 : (∃ pm_, (pf 4) = [pm_] ∧ (fun u_ p_ => (∃ x_ : Int, u_ = .int .i64 x_ ∧ 0 ≤ x_ ∧ x_ < 3) ∧ p_ = curE ghR4 a len cap) (vf 4) pm_) := hR 4 (by decide)
 obtain ⟨p58, pE4, hR59⟩ := e4
 obtain ⟨v57, vE4⟩ : ∃ x, vf 4 = x := ⟨_, rfl⟩
 rw [vE4] at hR59
 obtain ⟨⟨xhR59, rfl, xhR590, xhR591⟩, rfl⟩ := hR59
 have e5 : (vf 5) = .int .i64 (1 + (intOf_o (vf 4))) ∧ (pf 5) = [] := hR 5 (by decide)
 rw [vE4] at e5
 have e6 : (pf 6) = [nB9 b1 n] := hR 6 (by decide)
 have pE6 := e6
 have e7 := hR 7 (by decide)
 have e8 := hR 8 (by decide)
 have q0 := hR 0 (by decide)
 have q1 := hR 1 (by decide)
 have q2 := hR 2 (by decide)
 have q3 := hR 3 (by decide)
 have q5 := hR 5 (by decide)
 have q7 := hR 7 (by decide)
 have q8 := hR 8 (by decide)
 refine zcd (sk 0 rfl (sk 2 rfl (sk 3 (congrArg some e7.1) (sk 4 (congrArg some e8.1) (zbs [66, 23, 13, 10, 9, 8, 7, 6, 5] _ (sk 77 (congrArg some e5.1) (zab _)) rfl))))) (by simp only [pE4, vE4, pE6, q0.2, q1.2, q2.2, q3.2, q5.2, q7.2, q8.2, fS] <;> rfl) ?_
 simp only [List.drop_succ_cons, List.drop_zero]
 refine zbc 1 rfl ?_
 refine zak (zbw (fun w hm => (zao 5 rfl w hm).one) (fun hw1 => ?_))
 refine zbw (fun w hm => (zao 2 rfl w hm).one) (fun hw2 => ?_)
 refine zaz 8 [1, 2, 3, 5, 6] rfl rfl (by decide) ?_
 refine zbk 4 rfl ?_
 exact zca (rs := [.cell 2 70, .tmp 3, .tmp 4, .tmp 5]) (vs := [.agg #[.int .i64 n.ins, n.sv, n.av, n.ov], q.lv, v47, .int .i64 (1 + xhR59)]) (post := [bigE [ntE n, rS9 48 1 q.lv q.rs crowC, bigE q.ps, rS9 97 3 v47 os oqC]]) rfl ⟨⟨b1, 0, [.int .i64 n.ins, n.sv, n.av, n.ov], rfl, rfl, by kernel_rfl, by kernel_rfl, zah 1 rfl 0 rfl⟩, rfl, rfl, rfl, trivial⟩ rfl (slQ [0] rfl) ⟨_, n, q.rs, os, _, _, (1 + xhR59), rfl, rfl, fun w hw => ⟨ntE_rds (zau hw List.mem_cons_self), zbh (zau hw (List.mem_cons_of_mem _ List.mem_cons_self)), hps w (zau hw (List.mem_cons_of_mem _ (List.mem_cons_of_mem _ List.mem_cons_self))), zbh (zau hw (List.mem_cons_of_mem _ (List.mem_cons_of_mem _ (List.mem_cons_of_mem _ List.mem_cons_self))))⟩, ⟨o1n, o2n, o3n⟩, hw1, hw2, hsm, hmx, by omega⟩
theorem num_snoc : ∀ (xs : List Int) (x : Int), numB (xs ++ [x]) = numB xs + x * 2 ^ xs.length
  | [], x => by show x + 2 * 0 = 0 + x * 2 ^ 0; omega
  | y :: ys, x => by
    show y + 2 * numB (ys ++ [x]) = y + 2 * numB ys + x * 2 ^ (ys.length + 1)
    rw [num_snoc ys x, Int.pow_succ, ← Int.mul_assoc]
    generalize x * 2 ^ ys.length = t
    omega
theorem num_take {xs : List Int} {k : Nat} (h : k < xs.length) : numB (xs.take (k + 1)) = numB (xs.take k) + xs.getD k 0 * 2 ^ k := by
  rw [zen 0 h, num_snoc, List.length_take, Nat.min_eq_left (by omega)]
theorem num_rng : ∀ {xs : List Int}, Z01 xs → 0 ≤ numB xs ∧ numB xs < 2 ^ xs.length
  | [], _ => by show (0 : Int) ≤ 0 ∧ (0 : Int) < 2 ^ 0; decide
  | y :: ys, h => by
    have h1 := h y List.mem_cons_self
    have h2 := num_rng (xs := ys) (fun x hx => h x (List.mem_cons_of_mem _ hx))
    show 0 ≤ y + 2 * numB ys ∧ y + 2 * numB ys < 2 ^ (ys.length + 1)
    rw [Int.pow_succ]
    omega
theorem pow4 {k : Nat} (h : k ≤ 4) : (2 : Int) ^ k ≤ 16 ∧ (1 : Int) ≤ 2 ^ k := by
  match k, h with
  | 0, _ => decide
  | 1, _ => decide
  | 2, _ => decide
  | 3, _ => decide
  | 4, _ => decide
theorem num_15 {xs : List Int} (h : Z01 xs) (hl : xs.length ≤ 4) : 0 ≤ numB xs ∧ numB xs ≤ 15 := by
  have h1 := num_rng h
  have h2 := pow4 hl
  omega
theorem z01_take {xs : List Int} (h : Z01 xs) (k : Nat) : Z01 (xs.take k) := fun x hx => h x (List.mem_of_mem_take hx)
theorem z01_at {xs : List Int} (h : Z01 xs) {k : Nat} (hk : k < xs.length) : xs.getD k 0 = 0 ∨ xs.getD k 0 = 1 := h _ (zbd hk)
theorem shl_rng {x : Int} (h : x = 0 ∨ x = 1) {k : Nat} (hk : k < 4) : 0 ≤ x * 2 ^ ((k : Int)).toNat ∧ x * 2 ^ ((k : Int)).toNat ≤ 16 := by
  have h2 := pow4 (k := k) (by omega)
  rw [Int.toNat_natCast]
  rcases h with h | h <;> rw [h] <;> omega
theorem vals_cp {n m : Nt} (h : CpS n m) (st : List Int) (inp : Int) : valsL m st inp = valsL (withG n m.gs) st inp := by
  show (m.gs.take m.gs.length).foldl _ (leafL m st inp) = (m.gs.take m.gs.length).foldl _ (leafL (withG n m.gs) st inp)
  have e : leafL m st inp = leafL (withG n m.gs) st inp := by unfold leafL; rw [h.ins]; rfl
  rw [e]
theorem stL_cp {n m : Nt} (h : CpS n m) : stL m = stL n := by
  have e : ∀ ss : List Sq, ss.map Sq.it = (ss.map sqv).map (fun q => q.2.1) := fun ss => by rw [List.map_map]; rfl
  show (m.ss.take m.ss.length).map Sq.it = (n.ss.take n.ss.length).map Sq.it
  rw [List.take_length, List.take_length, e, e, h.ss]
theorem vals_len9 {n : Nt} (h : NtOk n) (inp : Int) : ((valsL n (stL n) inp).length : Int) = n.cnt := by
  have h1 := zez n (stL n) inp n.gs.length (Nat.le_refl _)
  have h2 := str_len n (Nat.le_refl n.ss.length)
  have h3 := h.i0
  have e : n.cnt = 1 + n.ins + n.ss.length + n.gs.length := rfl
  rw [h1, h2]; omega
theorem vals_01 {n : Nt} (h : NtOk n) (inp : Int) {l : Int} (hl : LtOk l n.cnt) : (valsL n (stL n) inp).getD (l / 2).toNat 0 = 0 ∨ (valsL n (stL n) inp).getD (l / 2).toNat 0 = 1 := by
  have h1 : ((valL n (stL n) inp n.gs.length).length : Int) = n.cnt := vals_len9 h inp
  obtain ⟨a, b⟩ := hl
  have hk : (l / 2).toNat < (valL n (stL n) inp n.gs.length).length := by omega
  exact val01 h (str_len n (Nat.le_refl _)) inp n.gs.length (Nat.le_refl _) _ hk
theorem sg_take {n : Nt} {inp : Int} {rs : List CRow} {i : Nat} (h : i < rs.length) : ((rs.map CRow.xs).map (fun s => numB (bvL n (stL n) inp n.gs s))).take i ++ [numB (bvL n (stL n) inp n.gs (rs.getD i crow0).xs)] = ((rs.map CRow.xs).map (fun s => numB (bvL n (stL n) inp n.gs s))).take (i + 1) := by
  rw [zen 0 (by simp; exact h)]
  congr 2
  have h9 := sgV_at n (stL n) inp n.gs (sg := rs.map CRow.xs) (i := i) (by simp; exact h)
  rw [xs_at] at h9; exact h9.symm
theorem law_len {n m : Nt} {rs : List CRow} {os : List Oq} {W : Int} {zs ys : List Int} (h1 : ((∃ r : GL, AxP n (rs.map CRow.xs) os W ∧ exX n.fst W.toNat (rs.map CRow.xs) os os.length 0 n.gs = some r ∧ zs.length = W.toNat) ∨ (¬ (AxP n (rs.map CRow.xs) os W ∧ ∃ r, exX n.fst W.toNat (rs.map CRow.xs) os os.length 0 n.gs = some r) ∧ zs = []))) (h2 : ((AxP n (rs.map CRow.xs) os W ∧ exX n.fst W.toNat (rs.map CRow.xs) os os.length 0 n.gs = some (m.gs, ys) ∧ CpS n m ∧ ys.length = W.toNat) ∨ (¬ (AxP n (rs.map CRow.xs) os W ∧ ∃ r, exX n.fst W.toNat (rs.map CRow.xs) os os.length 0 n.gs = some r) ∧ ys = [] ∧ m.gs = n.gs))) : ys.length = zs.length ∧ (zs.length = 0 → m.gs = n.gs) ∧ (zs.length ≠ 0 → AxP n (rs.map CRow.xs) os W ∧ exX n.fst W.toNat (rs.map CRow.xs) os os.length 0 n.gs = some (m.gs, ys) ∧ CpS n m ∧ ys.length = W.toNat) := by
  rcases h1 with ⟨r, a1, a2, a3⟩ | ⟨a1, a2⟩
  · rcases h2 with ⟨b1, b2, b3, b4⟩ | ⟨b1, b2, b3⟩
    · refine ⟨by rw [b4, a3], fun h => ?_, fun _ => ⟨b1, b2, b3, b4⟩⟩
      have := a1.w; omega
    · exact absurd ⟨a1, r, a2⟩ b1
  · rcases h2 with ⟨b1, b2, b3, b4⟩ | ⟨b1, b2, b3⟩
    · exact absurd ⟨b1, _, b2⟩ a1
    · subst a2 b2
      exact ⟨rfl, fun _ => b3, fun h => absurd rfl h⟩
theorem law_bits {n m : Nt} {rs : List CRow} {os : List Oq} {W : Int} {ys : List Int} (a : AxP n (rs.map CRow.xs) os W) (e : exX n.fst W.toNat (rs.map CRow.xs) os os.length 0 n.gs = some (m.gs, ys)) (c : CpS n m) : NtOk m ∧ LsOk n m.gs ys ∧ ∀ inp, numB (bvL n (stL n) inp m.gs ys) = (evE os ((rs.map CRow.xs).map (fun s => numB (bvL n (stL n) inp n.gs s))) W os.length 0).1 := by
  have hw := a.w
  obtain ⟨j1, j2, j3, j4⟩ := exX_ok (g0 := n.gs) (W := W.toNat) ⟨by omega, by omega⟩ a.nt a.sg a.op a.nk os.length 0 n.gs _ (by omega) a.op.pos (Ext.refl a.nt) e
  refine ⟨c.ok j1.ok, j2, fun inp => ?_⟩
  have h9 := j4 (stL n) inp (str_len n (Nat.le_refl _))
  rw [show ((W.toNat : Nat) : Int) = W by omega] at h9
  exact h9
theorem exprAt_ret (os : List Oq) (vs : List Int) (x : Int) (v u : Value) (hok : OpsP vs.length os) (hx : 0 ≤ x ∧ x ≤ 4) : ∀ (f p : Nat), os.length - p ≤ f → p < os.length → ∀ (w : World), RdsW w v 3 os.length (os.flatMap oqC) → RdsW w u 1 vs.length (vs.map (Value.int .i64)) →
    Calls Try.prog 104 #[v, .int .i64 (p : Int), u, .int .i64 x] w (Ret w (fun u_ p_ => u_ = .tuple #[.int .i64 (evE os vs x f p).1, .int .i64 ((evE os vs x f p).2 : Int)] ∧ p_ = []))
  | 0, p, h, hp, w, hv, hu => by omega
  | f + 1, p, h, hp, w, hv, hu => exprAt_step os vs x f p v u w hv hu hok hp h hx (fun q h1 h2 w2 hv2 hu2 => exprAt_ret os vs x v u hok hx f q (by omega) h2 w2 hv2 hu2)
theorem rv_neAn {N : Nat} {w0 : World} {l : List HP} {env : List (Nat × Value)} {o : Oper} {x y : Operand} {a b : Int} (ho : o.op = .binOp .neq 141 x y 141) (hx : ev env x = some (.agg #[.int .i64 a, .int .i64 b])) (hy : ev env y = some (.agg #[.int .i64 a, .int .i64 b])) :
    RunV Try.prog N w0 l env o (.bool false) := fun a1 w st => by
  have hg : (eqGuard .neq 141 x y (.agg #[.int .i64 a, .int .i64 b]) (.agg #[.int .i64 a, .int .i64 b])).run Try.prog w = .ok () w := run_eqGuard_agg _ _ _ _ _ _ _ (by kernel_rfl)
  have h2 : (binOp .neq 141 (.agg #[.int .i64 a, .int .i64 b]) (.agg #[.int .i64 a, .int .i64 b])).run Try.prog w = .ok (.bool false) w := by
    rw [run_neq_struct, run_equalIn_struct _ _ _ _ _ (by kernel_rfl) (by kernel_rfl)]
    have e0 : (Try.prog.fieldsOf 141).toList = [(Try.prog.fieldsOf 141)[0]!, (Try.prog.fieldsOf 141)[1]!] := by kernel_rfl
    have n0 : ((Try.prog.fieldsOf 141)[0]!).name = "A" := by kernel_rfl
    have n1 : ((Try.prog.fieldsOf 141)[1]!).name = "B" := by kernel_rfl
    have t0 : ((Try.prog.fieldsOf 141)[0]!).type = 3 := by kernel_rfl
    have t1 : ((Try.prog.fieldsOf 141)[1]!).type = 3 := by kernel_rfl
    have o0 : ((Try.prog.fieldsOf 141)[0]!).offset = 0 := by kernel_rfl
    have o1 : ((Try.prog.fieldsOf 141)[1]!).offset = 1 := by kernel_rfl
    rw [e0]
    generalize (Try.prog.fieldsOf 141)[0]! = f0 at *
    generalize (Try.prog.fieldsOf 141)[1]! = f1 at *
    have m0 : f0.name ≠ "_" := by rw [n0]; decide
    have m1 : f1.name ≠ "_" := by rw [n1]; decide
    have hk : Try.prog.plainKey 3 = true := by kernel_rfl
    have q : ∀ (u v : Int) (w : World), (Op.equalIn 9999 3 (.int .i64 u) (.int .i64 v)).run Try.prog w = .ok (u == v) w := fun u v w => run_equalIn_int w 9998 3 .i64 .i64 u v Try.underlying3
    have p0 : ∀ w : World, (part f0.type #[Value.int .i64 a, .int .i64 b] f0.offset).run Try.prog w = .ok (.int .i64 a) w := fun w => by rw [t0, o0]; exact run_part_plain w hk rfl
    have p1 : ∀ w : World, (part f1.type #[Value.int .i64 a, .int .i64 b] f1.offset).run Try.prog w = .ok (.int .i64 b) w := fun w => by rw [t1, o1]; exact run_part_plain w hk rfl
    have q0 : ∀ (u v : Int) (w : World), (Op.equalIn 9999 f0.type (.int .i64 u) (.int .i64 v)).run Try.prog w = .ok (u == v) w := by rw [t0]; exact q
    have q1 : ∀ (u v : Int) (w : World), (Op.equalIn 9999 f1.type (.int .i64 u) (.int .i64 v)).run Try.prog w = .ok (u == v) w := by rw [t1]; exact q
    simp only [Op.eqFields, m0, m1, ne_eq, not_false_eq_true, if_true, Sem.run_bind, p0, p1, q0, q1, Result.andThen_ok, Sem.run_ite, Sem.run_pure]
    simp
  simp [execOp, ho, st.eval hx, st.eval hy, hg, h2]
theorem sameAnds_eq (xa : List An) (u v : Value) (w : World) (hu : RdsW w u 2 xa.length (xa.flatMap anC)) (hv : RdsW w v 2 xa.length (xa.flatMap anC)) :
   Calls Try.prog 37 #[u, v] w (Ans w (.bool true)) := by
 have hu9 := sml hu
 have hv9 := sml hv
 refine zbq (N := 26) (args := [u, v]) Try.func37 rfl rfl (zbn 1 rfl (zac (zac (reQ 1 rfl (hvQ rfl (lnQ rfl rfl rfl (zap hu)) (zag 1 rfl (hvQ rfl (lnQ rfl rfl rfl (zap hv)) ?_)))))))
 refine hl_neq rfl rfl rfl rfl rfl rfl (fun h1 => ?_) (fun h1 => ?_)
 ·
  refine ntQ (zaj rfl (zbn 1 rfl ?_))
  refine zak (zad ?_)
  exfalso; omega
 refine ntQ (zal rfl (zdb (zac (zbn 1 rfl (zbf ?_)))))
 refine lkQ1 (α := Nat) [0, 1, 4, 10] rfl (fun j => []) (fun j => [(5, .int .i64 (j : Int))]) (fun j => j ≤ xa.length) (fun j => xa.length - j) 0 (Nat.zero_le _) (saQ rfl) (.slnil) ?_
 intro j hi2
 have hj := hi2
 refine zac (zac (reQ 2 rfl (hvQ rfl (lnQ rfl rfl rfl (zap hu)) ?_)))
 refine zcb rfl rfl rfl rfl rfl rfl (fun h3 => ?_) (fun h3 => ?_)
 ·
  refine ntQ (zaj rfl (zdb (sbQ (zac ?_))))
  refine zdp 9 [[], [], [0, 1], [2], [], [], [4, 5], [6], [3, 7]] [17, 18, 19, 20, 21, 22, 23, 24, 25] [u, .int .i64 (j : Int), elP u (((j : Int)).toNat * 2), .agg #[.int .i64 ((xa.getD j an0).a), .int .i64 ((xa.getD j an0).b)], v, .int .i64 (j : Int), elP v (((j : Int)).toNat * 2), .agg #[.int .i64 ((xa.getD j an0).a), .int .i64 ((xa.getD j an0).b)], .bool false] (by kernel_rfl) rfl ?_ ?_
  ·
   exact ⟨iaQ rfl (zax rfl) rfl, iaQ rfl (zax rfl) rfl, iaQ rfl (riQ 2 rfl rfl rfl rfl (zap hu)) rfl, iaQ rfl (zda (us := [.int .i64 ((xa.getD j an0).a), .int .i64 ((xa.getD j an0).b)]) rfl rfl rfl rfl (zap hu) (by omega) rfl (zdt anC 2 (fun _ => rfl) xa an0 (show j < _ by omega) rfl)) rfl, iaQ rfl (zax rfl) rfl, iaQ rfl (zax rfl) rfl, iaQ rfl (riQ 2 rfl rfl rfl rfl (zap hv)) rfl, iaQ rfl (zda (us := [.int .i64 ((xa.getD j an0).a), .int .i64 ((xa.getD j an0).b)]) rfl rfl rfl rfl (zap hv) (by omega) rfl (zdt anC 2 (fun _ => rfl) xa an0 (show j < _ by omega) rfl)) rfl, iaQ rfl (rv_neAn rfl rfl rfl) rfl, trivial⟩
  simp only [List.drop_succ_cons, List.drop_zero]
  refine ntQ (fsQ rfl (zdn (reQ 1 rfl (hvQ rfl (vaQ rfl rfl rfl) (enQ 1 rfl ?_)))))
  exact zcm (j + 1) (by omega) (by omega) (saQ rfl) (.slnil)
 refine ntQ (zal rfl ?_)
 refine zby (zes ?_)
 refine zat (zaw (zbn 1 rfl ?_))
 exact zak (zbl rfl rfl rfl)
theorem ExprValueX_ret (os : List Oq) (vs : List Int) (W : Int) (v u : Value) (w : World) (hv : RdsW w v 3 os.length (os.flatMap oqC)) (hu : RdsW w u 1 vs.length (vs.map (Value.int .i64))) (hok : OpsP vs.length os) (hnp : ¬ HpP os) (hW : 1 ≤ W ∧ W ≤ 4) (hvl : vs.length ≤ 30) (hvr : ∀ x ∈ vs, 0 ≤ x ∧ x ≤ 15) :
   Calls Try.prog 43 #[v, u, .int .i64 W] w (Ans w (.int .i64 (evE os vs W os.length 0).1)) := by
 have hv9 := sml hv
 have hl15 := hok.len
 refine zbq (N := 48) (args := [v, u, .int .i64 W]) Try.func43 rfl rfl (zbn 1 rfl (zac (zac (reQ 2 rfl (hvQ rfl (lnQ rfl rfl rfl (zap hu)) ?_)))))
 refine zdu rfl (zam rfl rfl (fun w hm => zbb (show Calls _ _ _ w (Ans w (.bool true)) by have h9 := implOpsOk_ans os (vs.length : Int) v w (hv.below hm.bel); rw [zft hok] at h9; exact h9))) (zag 3 rfl (hvQ rfl (lnQ rfl rfl rfl (zap hu)) ?_))
 refine zeq rfl rfl rfl rfl rfl rfl (fun h1 => ?_) (fun h1 => ?_)
 ·
  refine zbc 10 rfl (zaj rfl (srQ (enQ 1 rfl ?_)))
  refine zaw (zak ?_)
  refine zad ?_
  exfalso
  omega
 refine zag 3 rfl (zdu rfl (zam rfl rfl (fun w hm => zbb (zer (zcq _ _ _ w)))) ?_)
 refine zbz (fun h2 => ?_) (fun h2 => ?_)
 ·
  obtain ⟨h2a, h2b⟩ := (zcp _ _ _).1 h2
  refine zag 4 rfl (zdu rfl (zam rfl rfl (fun w hm => zbb (show Calls _ _ _ w (Ans w (.bool false)) by have h9 := hasParam_ans os v w (hv.below hm.bel); rw [zdr hnp] at h9; exact h9))) ?_)
  refine zbc 1 rfl (zal rfl (zdb (zac (zac (reQ 1 rfl (hvQ rfl (lnQ rfl rfl rfl (zap hu)) (zag 1 rfl (?_))))))))
  refine ntQ (zbf ?_)
  refine lkQ1 (α := Nat) [0, 1, 2, 6, 29, 30, 31] rfl (fun i => []) (fun i => [(32, .int .i64 (i : Int))]) (fun i => i ≤ vs.length) (fun i => vs.length - i) 0 (Nat.zero_le _) (saQ rfl) (.slnil) ?_
  intro i hi3
  have hi := hi3
  refine srQ ?_
  refine zcb rfl rfl rfl rfl rfl rfl (fun h4 => ?_) (fun h4 => ?_)
  ·
   refine ntQ (tcQ rfl (zdb (sbQ (srQ (hvQ rfl (riQ 1 rfl rfl rfl rfl (zap hu)) (hvQ rfl (liQ rfl rfl rfl (zap hu)) (zag 1 rfl ?_)))))))
   refine ntQ (srQ ?_)
   have hvi := hvr _ (zbd (d := (0 : Int)) (show i < vs.length by omega))
   refine zag 1 rfl (zdu rfl (zam rfl rfl (fun w hm => zbb (zer (zcq _ _ _ w)))) ?_)
   refine zbz (fun h5 => ?_) (fun h5 => ?_)
   ·
    obtain ⟨h5a, h5b⟩ := (zcp _ _ _).1 h5
    refine zbc 1 rfl (fsQ rfl (zdn (zav (hvQ rfl (vaQ rfl rfl rfl) (enQ 1 rfl ?_)))))
    exact zcm (i + 1) (by omega) (by omega) (saQ rfl) (.slnil)
   have h5a := zdy h5
   refine zbc 1 rfl (zaj rfl (zbn 1 rfl ?_))
   refine zak (zaf ?_)
   refine zfv ?_
   refine zaf (zad ?_)
   exfalso
   omega
  refine ntQ (fcQ rfl ?_)
  refine zby (zes ?_)
  refine zat (zaw (zac (reQ 3 rfl ?_)))
  refine zfg rfl rfl rfl (zam rfl rfl (fun w hm => exprAt_ret os vs W v u hok ⟨by omega, by omega⟩ os.length 0 (by omega) hok.pos w (hv.below hm.bel) (hu.below hm.bel))) ?_
  intro v6 p7 hR8
  obtain ⟨rfl, rfl⟩ := hR8
  refine zbc 5 rfl (zbn 2 rfl ?_)
  exact zak (zbl rfl rfl rfl)
 have h2a := zdy h2
 refine zbc 6 rfl (zaj rfl (zbn 1 rfl ?_))
 refine zak (zad ?_)
 exfalso
 omega
theorem nt_back {n m : Nt} (c : CpS n m) (h : NtOk m) : NtOk (withG n m.gs) := by
  have k : CopyOf m (withG n m.gs) := ⟨c.ins.symm, rfl, c.os.symm, c.ss.symm⟩
  exact k.ok h
theorem walk_FnExprBits (a0 : Option Addr) (len0 cap0 : Nat) (z0 : List Int) (w : World) (hbr : BRow .u8 w a0 len0 cap0 z0) :
   Calls Try.prog 8 #[.slice a0 len0 cap0] w (Ans w (.bool true)) := by
 refine zbq (N := 130) (args := [.slice a0 len0 cap0]) Try.func8 rfl rfl (zbn 1 rfl (zac (zac (reQ 1 rfl ?_))))
 refine zdu rfl (zam rfl rfl (fun w hm => zbb (zer (big_any a0 len0 cap0 w (hbr.len_le))))) (zbz (fun h1 => ?_) (fun h1 => ?_))
 ·
  have h1q := of_decide_eq_true h1
  refine ntQ (zaj rfl (zbn 1 rfl ?_))
  refine zak (zad ?_)
  exact zbl rfl rfl rfl
 have h1q := of_decide_eq_false h1
 refine ntQ (zal rfl (zdb (zac (reQ 1 rfl ?_))))
 refine zfg rfl rfl rfl (zam rfl rfl (fun w hm => DrawAddExpr_ret a0 len0 cap0 z0 w (hbr.below hm.bel) (by omega))) ?_
 intro v2 p3 hR4
 obtain ⟨pd, n, rs, os, sv, vO, W, rfl, rfl, hpd, ⟨o1n, o2n, o3n⟩, hsv1, hvO1, hsm, hmx, hr3⟩ := hR4
 refine zag 5 rfl (zed rfl (zcc (z := .agg #[.int .i64 0, .slice none 0 0, .slice none 0 0, .slice none 0 0]) rfl rfl) ?_)
 intro b5
 refine zbm (cs' := #[.int .i64 n.ins, n.sv, n.av, n.ov]) (i := 0) (off := 0) (us := [.int .i64 n.ins, n.sv, n.av, n.ov]) rfl rfl rfl rfl rfl rfl rfl (zaa rfl (zaa o1n (zaa o2n (zaa o3n zbe)))) rfl rfl rfl (zbc 3 rfl (srQ (hvQ rfl (zar (cs := [.int .i64 n.ins, n.sv, n.av, n.ov]) rfl rfl rfl rfl rfl (zah 0 rfl 0 rfl)) (zag 3 rfl ?_))))
 refine zfg rfl rfl rfl (zam rfl rfl (fun w hm => specAddExpr_ret n rs os sv vO W w (hpd w (hm.holds _ (zbr (i := 1) rfl))).1 hsm (hpd w (hm.holds _ (zbr (i := 1) rfl))).2.1 (hpd w (hm.holds _ (zbr (i := 1) rfl))).2.2.1 (hpd w (hm.holds _ (zbr (i := 1) rfl))).2.2.2 hmx)) ?_
 intro v6 p7 hR8
 obtain ⟨pw, m1, vzs, zs, rfl, rfl, hpw, ⟨o1m1, o2m1, o3m1⟩, hzs⟩ := hR8
 refine zag 3 rfl (zed rfl (zcc (z := .agg #[.int .i64 0, .slice none 0 0, .slice none 0 0, .slice none 0 0]) rfl rfl) ?_)
 intro b9
 refine zbm (cs' := #[.int .i64 m1.ins, m1.sv, m1.av, m1.ov]) (i := 0) (off := 0) (us := [.int .i64 m1.ins, m1.sv, m1.av, m1.ov]) rfl rfl rfl rfl rfl rfl rfl (zaa rfl (zaa o1m1 (zaa o2m1 (zaa o3m1 zbe)))) rfl rfl rfl (zbc 1 rfl (srQ (hvQ rfl (zar (cs := [.int .i64 n.ins, n.sv, n.av, n.ov]) rfl rfl rfl rfl rfl (zah 2 rfl 0 rfl)) (zag 3 rfl ?_))))
 refine zfg rfl rfl rfl (zam rfl rfl (fun w hm => implAddExpr_ret n rs os sv vO W w (hpd w (hm.holds _ (zbr (i := 3) rfl))).1 hsm (hpd w (hm.holds _ (zbr (i := 3) rfl))).2.1 (hpd w (hm.holds _ (zbr (i := 3) rfl))).2.2.1 (hpd w (hm.holds _ (zbr (i := 3) rfl))).2.2.2)) ?_
 intro v10 p11 hR12
 obtain ⟨pi, m, vys, ys, rfl, rfl, hpi, ⟨o1m, o2m, o3m⟩, hys⟩ := hR12
 refine zag 3 rfl (zed rfl (zcc (z := .agg #[.int .i64 0, .slice none 0 0, .slice none 0 0, .slice none 0 0]) rfl rfl) ?_)
 intro b13
 refine zbm (cs' := #[.int .i64 m.ins, m.sv, m.av, m.ov]) (i := 0) (off := 0) (us := [.int .i64 m.ins, m.sv, m.av, m.ov]) rfl rfl rfl rfl rfl rfl rfl (zaa rfl (zaa o1m (zaa o2m (zaa o3m zbe)))) rfl rfl rfl (zbc 1 rfl (zgk ?_))
 obtain ⟨hlw1, hlw2, hlw3⟩ := law_len hzs hys
 refine zag 1 rfl (hvQ rfl (lnQ rfl rfl rfl (fun w hm => (hpi w (hm.holds _ (zbr (i := 1) rfl))).2)) ?_)
 refine zag 1 rfl (hvQ rfl (lnQ rfl rfl rfl (fun w hm => (hpw w (hm.holds _ (zbr (i := 3) rfl))))) ?_)
 refine hl_neq rfl rfl rfl rfl rfl rfl (fun h14 => ?_) (fun h14 => ?_)
 ·
  refine ntQ (zaj rfl (zbn 1 rfl ?_))
  refine zak (zad ?_)
  exfalso; omega
 refine ntQ (zal rfl (zdb (zac (zac (reQ 1 rfl ?_)))))
 refine hvQ rfl (lnQ rfl rfl rfl (fun w hm => (hpw w (hm.holds _ (zbr (i := 3) rfl))))) (zbj rfl rfl rfl rfl rfl rfl (fun h15 => ?_) (fun h15 => ?_))
 ·
  refine ntQ (zaj rfl (srQ ?_))
  have hgs0 := hlw2 (by omega)
  refine hvQ rfl (fdQ 2 rfl rfl rfl) (hvQ rfl (zan rfl rfl rfl (zai 0 rfl rfl)) (hvQ rfl (fdQ 2 rfl rfl rfl) (hvQ rfl (zan rfl rfl rfl (zai 4 rfl rfl)) ?_)))
  refine zdu rfl (zam rfl rfl (fun w hm => zbb (sameAnds_eq n.gs _ _ w (by have h9 := (hpi w (hm.holds _ (zbr (i := 1) rfl))).1.an; rw [hgs0] at h9; exact h9) (hpd w (hm.holds _ (zbr (i := 5) rfl))).1.an))) (zbc 1 rfl ?_)
  refine zak (zad ?_)
  exact zbl rfl rfl rfl
 refine ntQ (zal rfl (zdb (srQ ?_)))
 obtain ⟨hAx, hex, hcp, hyl⟩ := hlw3 (by omega)
 obtain ⟨hmok, hlo, hnum⟩ := law_bits hAx hex hcp
 have hw9 := hAx.w
 have hcd0 := cod_le hbr 0
 obtain ⟨inp, hinp⟩ : ∃ inp : Int, inp = (cod z0 len0 0 : Int) := ⟨_, rfl⟩
 have hinr : 0 ≤ inp ∧ inp ≤ 255 := by omega
 have hy01 : Z01 (bvL n (stL n) inp m.gs ys) := bv_01 (by have h9 := hmok; exact (show NtOk (withG n m.gs) from nt_back hcp h9)) hlo (str_len n (Nat.le_refl _)) inp
 have hstm : StOk m (stL n) := by have h9 := start_ok hmok; rw [stL_cp hcp] at h9; exact h9
 refine hvQ rfl (zar (cs := [.int .i64 n.ins, n.sv, n.av, n.ov]) rfl rfl rfl rfl rfl (zah 4 rfl 0 rfl)) (zfg rfl rfl rfl (zam rfl rfl (fun w hm => NetStart_ret n w (hpd w (hm.holds _ (zbr (i := 5) rfl))).1 hAx.nt)) ?_)
 intro v16 p17 hR18
 subst hR18
 refine zbc 1 rfl (zac (reQ 1 rfl ?_))
 refine zdu rfl (zam rfl rfl (fun w hm => zbb (by have h9 := at_ans hbr 0 (by omega) w hm; rw [← hinp] at h9; exact h9))) (zbc 1 rfl (srQ (hvQ rfl (zar (cs := [.int .i64 n.ins, n.sv, n.av, n.ov]) rfl rfl rfl rfl rfl (zah 5 rfl 0 rfl)) (zag 2 rfl ?_))))
 refine zfg rfl rfl rfl (zam rfl rfl (fun w hm => specNodeValues_ret n (stL n) _ inp w (hpd w (hm.holds _ (zbr (i := 6) rfl))).1 hAx.nt ((zao 0 rfl) w hm) (start_ok hAx.nt) (by omega))) ?_
 intro v19 p20 hR21
 subst hR21
 refine zbc 1 rfl (srQ ?_)
 refine zey rfl (zds (s := 1) rfl Try.underlying48 rfl) ?_
 intro g22
 refine zbc 1 rfl (zac (zbn 1 rfl (zbf ?_)))
 refine zeo [rowE 3 1 (.slice (some ⟨g22, 0, none⟩) 0 0) (([] : List Int).length) (([] : List Int).map (Value.int .i64)), rowE 3 1 v19 ((valsL n (stL n) inp).length) ((valsL n (stL n) inp).map (Value.int .i64)), rowE 3 1 v16 ((stL n).length) ((stL n).map (Value.int .i64)), nB9 b13 m, bigE pi, nB9 b9 m1, bigE pw, nB9 b5 n, bigE pd] (fun w hm => hm) ?_
 refine lkQ3 (α := Nat) (β := List Int) (γ := Value) [0, 2, 3, 4, 5, 6, 8, 9, 10, 11, 12, 13, 22, 50, 53] rfl (fun i ws wv => [rI9 3 wv ws, rowE 3 1 v19 ((valsL n (stL n) inp).length) ((valsL n (stL n) inp).map (Value.int .i64)), rowE 3 1 v16 ((stL n).length) ((stL n).map (Value.int .i64)), nB9 b13 m, bigE pi, nB9 b9 m1, bigE pw, nB9 b5 n, bigE pd]) (fun i ws wv => [(14, wv), (15, .int .i64 (i : Int))]) (fun i ws wv => i ≤ rs.length ∧ ws = ((rs.map CRow.xs).map (fun s => numB (bvL n (stL n) inp n.gs s))).take i) (fun i ws wv => rs.length - i) 0 [] _ ⟨Nat.zero_le _, rfl⟩ (saQ rfl) (pfQ rfl) ?_
 intro i ws wv hi23
 obtain ⟨hi, hws⟩ := hi23
 have hwl : ws.length = i := by rw [hws, List.length_take]; simp; omega
 refine zac (zac (reQ 2 rfl ?_))
 refine hvQ rfl (lnQ rfl rfl rfl (fun w hm => (hpd w (hm.holds _ (zbr (i := 8) rfl))).2.1)) (zcb rfl rfl rfl rfl rfl rfl (fun h24 => ?_) (fun h24 => ?_))
 ·
  refine ntQ (zaj rfl (zdb (sbQ (zbn 1 rfl ?_))))
  refine zac (zbn 1 rfl (zbf ?_))
  refine lkQ2 (α := Nat) (β := Int) [0, 2, 3, 4, 5, 6, 8, 9, 10, 11, 12, 13, 14, 15, 22, 50, 53, 71] rfl (fun k x => [rI9 3 wv ws, rowE 3 1 v19 ((valsL n (stL n) inp).length) ((valsL n (stL n) inp).map (Value.int .i64)), rowE 3 1 v16 ((stL n).length) ((stL n).map (Value.int .i64)), nB9 b13 m, bigE pi, nB9 b9 m1, bigE pw, nB9 b5 n, bigE pd]) (fun k x => [(16, .int .i64 x), (17, .int .i64 (k : Int))]) (fun k x => k ≤ ((rs.getD i crow0).xs).length ∧ x = numB ((bvL n (stL n) inp n.gs (rs.getD i crow0).xs).take k)) (fun k x => ((rs.getD i crow0).xs).length - k) 0 0 ⟨Nat.zero_le _, rfl⟩ (saQ rfl) (pfQ rfl) ?_
  intro k x hi25
  obtain ⟨hk, hx⟩ := hi25
  have hsi := zfr hAx.sg (i := i) (by omega)
  obtain ⟨hs4, hsl⟩ := hsi
  have hz01 : Z01 (bvL n (stL n) inp n.gs (rs.getD i crow0).xs) := bv_01 hAx.nt (fun y hy => by obtain ⟨q, hq, rfl⟩ := List.mem_iff_getElem.1 hy; have h9 := hsl q hq; rw [List.getD_eq_getElem?_getD, List.getElem?_eq_getElem hq] at h9; exact h9) (str_len n (Nat.le_refl _)) inp
  have hx15 := num_15 (z01_take hz01 k) (by rw [List.length_take, zej]; omega)
  rw [← hx] at hx15
  refine zac (zac (reQ 3 rfl ?_))
  refine hvQ rfl (riQ 1 rfl rfl rfl rfl (fun w hm => (hpd w (hm.holds _ (zbr (i := 8) rfl))).2.1)) (hvQ rfl (zba (u := (rs.getD i crow0).v) rfl rfl rfl (fun w hm => (hpd w (hm.holds _ (zbr (i := 8) rfl))).2.1) (zcv crowC (fun r => r.v) (fun _ => rfl) rs crow0 (show i < _ by omega))) ?_)
  refine hvQ rfl (lnQ rfl rfl rfl (fun w hm => (hpd w (hm.holds _ (zbr (i := 8) rfl))).2.2.1.at (k := i) (by omega))) (zcb rfl rfl rfl rfl rfl rfl (fun h26 => ?_) (fun h26 => ?_))
  ·
   refine ntQ (zaj rfl (zdb (sbQ (zav ?_))))
   have hlk : LtOk (((rs.getD i crow0).xs).getD k 0) n.cnt := hsl k (by omega)
   have hvl9 := vals_len9 hAx.nt inp
   have hcr := zdw hAx.nt
   have hb01 : bitL (valsL n (stL n) inp) (((rs.getD i crow0).xs).getD k 0) = 0 ∨ bitL (valsL n (stL n) inp) (((rs.getD i crow0).xs).getD k 0) = 1 := by have h9 := z01_at hz01 (k := k) (by rw [zej]; omega); rw [zfk _ _ _ _ (by omega)] at h9; exact h9
   have hsh := shl_rng hb01 (k := k) (by omega)
   refine zag 4 rfl (hvQ rfl (riQ 1 rfl rfl rfl rfl (fun w hm => (hpd w (hm.holds _ (zbr (i := 8) rfl))).2.1)) ?_)
   refine hvQ rfl (zba (u := (rs.getD i crow0).v) rfl rfl rfl (fun w hm => (hpd w (hm.holds _ (zbr (i := 8) rfl))).2.1) (zcv crowC (fun r => r.v) (fun _ => rfl) rs crow0 (show i < _ by omega))) (zag 1 rfl ?_)
   refine hvQ rfl (riQ 1 rfl rfl rfl rfl (fun w hm => (hpd w (hm.holds _ (zbr (i := 8) rfl))).2.2.1.at (k := i) (by omega))) (hvQ rfl (zba (u := .int .i64 (((rs.getD i crow0).xs).getD k 0)) rfl rfl rfl (fun w hm => (hpd w (hm.holds _ (zbr (i := 8) rfl))).2.2.1.at (k := i) (by omega)) (zcg (show _ < ((rs.getD i crow0).xs).length by omega))) ?_)
   refine zdu rfl (zam rfl rfl (fun w hm => zbb (specLitValue_ans (valsL n (stL n) inp) (((rs.getD i crow0).xs).getD k 0) _ w ((zao 1 rfl) w hm) (by obtain ⟨h9a, h9b⟩ := id hlk; omega) (vals_01 hAx.nt inp hlk) (by omega)))) (zag 1 rfl (hvQ rfl (rv_shl (kk' := .i64) rfl rfl rfl (by omega) ⟨by omega, by omega⟩) (hvQ rfl (vaQ rfl rfl rfl) (enQ 1 rfl (zdn (reQ 1 rfl (hvQ rfl (vaQ rfl rfl rfl) (enQ 1 rfl ?_))))))))
   exact zci (k + 1) (x + ((bitL (valsL n (stL n) inp) (((rs.getD i crow0).xs).getD k 0)) * 2 ^ ((k : Int)).toNat)) ⟨by omega, by rw [num_take (by rw [zej]; omega), ← hx, zfk _ _ _ _ (by omega), Int.toNat_natCast]; rfl⟩ (by omega) (saQ rfl) (pfQ rfl)
  refine ntQ (zal rfl ?_)
  refine zby (zes ?_)
  refine zat (zaw (reQ 2 rfl ?_))
  refine zey rfl (zas (z := .int .i64 0) (s := 1) (cs := ([x].map (Value.int .i64))) rfl Try.underlying48 rfl (by decide) rfl (by kernel_rfl) rfl) ?_
  intro g27
  refine zdc (i := 1) (z := .int .i64 0) (bytes := 8) rfl rfl rfl rfl Try.underlying48 (by kernel_rfl) rfl rfl rfl rfl (zao 0 rfl) (zcj _) (by first | omega | (simp; done) | (simp; omega)) (zco ws ([x])) (zcx ws ([x])) (fun _ => rfl) ?_
  intro v28
  refine enQ 1 rfl (zdn (reQ 1 rfl (hvQ rfl (vaQ rfl rfl rfl) (enQ 1 rfl ?_))))
  rw [show k = ((rs.getD i crow0).xs).length by omega] at hx
  rw [List.take_of_length_le (by rw [zej]; omega)] at hx
  exact zdz (i + 1) (ws ++ ([x])) v28 ⟨by omega, by rw [hws, hx]; exact sg_take (by omega)⟩ (by omega) (saQ rfl) (slQ [1, 0, 0, 0, 0, 0, 0, 0, 0] rfl)
 refine ntQ (zal rfl ?_)
 refine zby (zes ?_)
 refine zat (zaw (srQ ?_))
 have hwsA : ws = ((rs.map CRow.xs).map (fun s => numB (bvL n (stL n) inp n.gs s))) := by rw [hws, show i = rs.length by omega, List.take_of_length_le (by simp)]
 subst hwsA
 refine hvQ rfl (zar (cs := [.int .i64 m.ins, m.sv, m.av, m.ov]) rfl rfl rfl rfl rfl (zah 3 rfl 0 rfl)) (zag 2 rfl ?_)
 refine zfg rfl rfl rfl (zam rfl rfl (fun w hm => implNodeValues_ret m (stL n) _ inp w (hpi w (hm.holds _ (zbr (i := 4) rfl))).1 hmok ((zao 2 rfl) w hm) hstm (by omega))) ?_
 intro v29 p30 hR31
 subst hR31
 refine zbc 1 rfl (zbn 1 rfl (zac (zac (reQ 1 rfl ?_))))
 refine ntQ (zbf ?_)
 refine lkQ2 (α := Nat) (β := Int) [0, 2, 3, 4, 5, 6, 8, 9, 10, 11, 12, 13, 14, 15, 18, 22, 50, 53, 71] rfl (fun j y => [rowE 3 1 v29 ((valsL m (stL n) inp).length) ((valsL m (stL n) inp).map (Value.int .i64)), rowE 3 1 wv (((rs.map CRow.xs).map (fun s => numB (bvL n (stL n) inp n.gs s))).length) (((rs.map CRow.xs).map (fun s => numB (bvL n (stL n) inp n.gs s))).map (Value.int .i64)), rowE 3 1 v19 ((valsL n (stL n) inp).length) ((valsL n (stL n) inp).map (Value.int .i64)), rowE 3 1 v16 ((stL n).length) ((stL n).map (Value.int .i64)), nB9 b13 m, bigE pi, nB9 b9 m1, bigE pw, nB9 b5 n, bigE pd]) (fun j y => [(19, .int .i64 y), (20, .int .i64 (j : Int))]) (fun j y => j ≤ ys.length ∧ y = numB ((bvL n (stL n) inp m.gs ys).take j)) (fun j y => ys.length - j) 0 0 ⟨Nat.zero_le _, rfl⟩ (saQ rfl) (pfQ rfl) ?_
 intro j y hi32
 obtain ⟨hj, hy⟩ := hi32
 have hy15 := num_15 (z01_take hy01 j) (by rw [List.length_take, zej]; omega)
 rw [← hy] at hy15
 refine zac (zac (reQ 2 rfl ?_))
 refine hvQ rfl (lnQ rfl rfl rfl (fun w hm => (hpi w (hm.holds _ (zbr (i := 5) rfl))).2)) (zcb rfl rfl rfl rfl rfl rfl (fun h33 => ?_) (fun h33 => ?_))
 ·
  refine ntQ (zaj rfl (zdb (sbQ (zav ?_))))
  have hlk : LtOk (ys.getD j 0) m.cnt := by have h9 := hlo.at (k := j) (by omega); rw [cnt_fst, hcp.fst]; exact h9
  have hvl9 : ((valsL m (stL n) inp).length : Int) = m.cnt := by have h9 := vals_len9 hmok inp; rw [stL_cp hcp] at h9; exact h9
  have hcr := zdw hmok
  have hb01 : bitL (valsL m (stL n) inp) (ys.getD j 0) = 0 ∨ bitL (valsL m (stL n) inp) (ys.getD j 0) = 1 := by have h9 := z01_at hy01 (k := j) (by rw [zej]; omega); rw [zfk _ _ _ _ (by omega), ← vals_cp hcp] at h9; exact h9
  have hsh := shl_rng hb01 (k := j) (by omega)
  refine zag 4 rfl (hvQ rfl (riQ 1 rfl rfl rfl rfl (fun w hm => (hpi w (hm.holds _ (zbr (i := 5) rfl))).2)) ?_)
  refine hvQ rfl (liQ rfl rfl rfl (fun w hm => (hpi w (hm.holds _ (zbr (i := 5) rfl))).2)) (zdu rfl (zam rfl rfl (fun w hm => zbb (impLitValue_ans (valsL m (stL n) inp) (ys.getD j 0) _ w ((zao 0 rfl) w hm) (by obtain ⟨h9a, h9b⟩ := id hlk; omega) ((by have h9 := vals_01 hmok inp hlk; rw [stL_cp hcp] at h9; exact h9)) (by omega)))) ?_)
  refine zag 1 rfl (hvQ rfl (rv_shl (kk' := .i64) rfl rfl rfl (by omega) ⟨by omega, by omega⟩) (hvQ rfl (vaQ rfl rfl rfl) (enQ 1 rfl (zdn (reQ 1 rfl (hvQ rfl (vaQ rfl rfl rfl) (enQ 1 rfl ?_)))))))
  exact zci (j + 1) (y + ((bitL (valsL m (stL n) inp) (ys.getD j 0)) * 2 ^ ((j : Int)).toNat)) ⟨by omega, by rw [num_take (by rw [zej]; omega), ← hy, zfk _ _ _ _ (by omega), Int.toNat_natCast, ← vals_cp hcp]⟩ (by omega) (saQ rfl) (pfQ rfl)
 refine ntQ (zal rfl ?_)
 refine zby (zes ?_)
 refine zat (zaw (srQ ?_))
 have hok9 : OpsP (((rs.map CRow.xs).map (fun s => numB (bvL n (stL n) inp n.gs s))).length : Int) os := by have h9 := hAx.op; rw [show (((rs.map CRow.xs).map (fun s => numB (bvL n (stL n) inp n.gs s)))).length = (rs.map CRow.xs).length by simp]; exact h9
 have hnp9 : ¬ HpP os := fun ⟨q, hq, hk⟩ => hAx.nk q hq hk
 have hsr : ∀ x ∈ ((rs.map CRow.xs).map (fun s => numB (bvL n (stL n) inp n.gs s))), 0 ≤ x ∧ x ≤ 15 := fun x hx => by obtain ⟨s9, hs9, rfl⟩ := List.mem_map.1 hx; have h9 := hAx.sg.lt s9 hs9; exact num_15 (bv_01 hAx.nt h9.1 (str_len n (Nat.le_refl _)) inp) (by rw [zej]; exact h9.2)
 have hnu := hnum inp
 have hyA : y = numB (bvL n (stL n) inp m.gs ys) := by rw [hy, List.take_of_length_le (by rw [zej]; omega)]
 rw [← hyA] at hnu
 refine zag 4 rfl (zdu rfl (zam rfl rfl (fun w hm => zbb (ExprValueX_ret os ((rs.map CRow.xs).map (fun s => numB (bvL n (stL n) inp n.gs s))) W _ _ w (hpd w (hm.holds _ (zbr (i := 9) rfl))).2.2.2 ((zao 1 rfl) w hm) hok9 hnp9 hAx.w (by simp; omega) hsr))) ?_)
 refine zbj rfl rfl rfl rfl rfl rfl (fun h34 => ?_) (fun h34 => ?_)
 ·
  refine zag 2 rfl (zfw rfl rfl rfl rfl rfl rfl (fun h35 => ?_) (fun h35 => ?_))
  ·
   refine zbc 2 rfl ?_
   exact zak (zbl rfl rfl rfl)
  refine zbc 2 rfl ?_
  refine zak ?_
  exfalso; omega
 refine zbc 5 rfl ?_
 refine zak ?_
 exfalso; omega
end Go.Proofs.Ytodiifjigjnalaa
