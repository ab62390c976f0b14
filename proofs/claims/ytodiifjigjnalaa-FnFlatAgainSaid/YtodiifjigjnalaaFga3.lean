/- Texts of the law FnFlatAgain, part 3: what it uses. -/
import Derived.Test.YtodiifjigjnalaaFga2
set_option linter.unusedVariables false
set_option linter.unusedSimpArgs false
set_option maxHeartbeats 4000000
set_option maxRecDepth 100000
namespace Go.Proofs.Ytodiifjigjnalaa
open Go.RowKit Go.ChangeShapes
open Go.RowKit
theorem l04Expr_step (g : Nat) (a : Option Addr) (len cap : Nat) (z : List Int) (n : Int) (u : Value) (A : List Int) (M : Int) (w0 : World) (l : List HP) (w : World) (hm0 : Mem w0 (curE g a len cap :: l) w) (hb : BRow .u8 w0 a len cap z) (hu : Rd w0 l u 1 A.length (A.map (Value.int .i64))) (hA : ∀ x ∈ A, 0 ≤ x ∧ x < n) (hAl : A.length ≤ 100) (hM : 1 ≤ M ∧ M ≤ 15) (IH : ∀ (q : Int), 1 ≤ q → q < M → ∀ (l2 : List HP) (w2 : World), Mem w0 (curE g a len cap :: l2) w2 → Rd w0 l2 u 1 A.length (A.map (Value.int .i64)) → Calls Try.prog 86 #[.pointer (some ⟨g, 0, none⟩), u, .int .i64 (q)] w2 (fun e_ w_ => ∃ v_ p_, e_ = .returned v_ ∧ (fun u_ p_ => ∃ os : List Oq, p_ = bigE [curE g a len cap, rowE 97 3 u_ os.length (os.flatMap oqC)] ∧ ExP n q os) v_ p_ ∧ Mem w0 (p_ :: l2) w_)) :
   Calls Try.prog 86 #[.pointer (some ⟨g, 0, none⟩), u, .int .i64 M] w (fun e_ w_ => ∃ v_ p_, e_ = .returned v_ ∧ (fun u_ p_ => ∃ os : List Oq, p_ = bigE [curE g a len cap, rowE 97 3 u_ os.length (os.flatMap oqC)] ∧ ExP n M os) v_ p_ ∧ Mem w0 (p_ :: l) w_) := by
 refine zfa (N := 85) (args := [.pointer (some ⟨g, 0, none⟩), u, .int .i64 M]) Try.func86 rfl rfl hm0 (zbg 1 rfl (zag (zag (reQ 1 rfl ?_))))
 refine zbq rfl rfl rfl rfl rfl rfl (fun h1 => ?_) (fun h1 => ?_)
 ·
  refine zay 4 rfl (zah rfl (zag (zag (reQ 1 rfl ?_))))
  refine zcg (R := (fun u_ p_ => (∃ x_ : Int, u_ = .int .i64 x_ ∧ 0 ≤ x_ ∧ x_ < 8) ∧ p_ = curE g a len cap)) 0 rfl rfl rfl rfl rfl (fun l' w hm => zby g a len cap z 8 _ _ _ hm hb (by constructor <;> omega)) ?_
  intro v2 p3 hR4
  obtain ⟨⟨xhR4, rfl, xhR40, xhR41⟩, rfl⟩ := hR4
  refine zcl (l' := (curE g a len cap :: l)) rfl ?_
  refine ntQ (zaz (srQ ?_))
  refine zbu rfl rfl rfl rfl rfl rfl (fun h5 => ?_) (fun h5 => ?_)
  ·
   refine zay 1 rfl (zah rfl (zag (reQ 1 rfl ?_)))
   refine zcg (R := (fun u_ p_ => (∃ x_ : Int, u_ = .int .i64 x_ ∧ 0 ≤ x_ ∧ x_ < 16) ∧ p_ = curE g a len cap)) 0 rfl rfl rfl rfl rfl (fun l' w hm => zby g a len cap z 16 _ _ _ hm hb (by constructor <;> omega)) ?_
   intro v6 p7 hR8
   obtain ⟨⟨xhR8, rfl, xhR80, xhR81⟩, rfl⟩ := hR8
   refine zcl (l' := (curE g a len cap :: l)) rfl ?_
   refine hvQ rfl (zbk (cs := #[.int .i64 0, .int .i64 xhR8, .int .i64 0]) rfl rfl rfl) (zea rfl (zak (z := .agg #[.int .i64 0, .int .i64 0, .int .i64 0]) (s := 3) (cs := ([0, xhR8, 0].map (Value.int .i64))) rfl Try.underlying71 rfl (by decide) rfl (by kernel_rfl) rfl) ?_)
   intro g9
   refine zay 1 rfl ?_
   refine zao (zad ?_)
   refine zdv ?_
   refine zbn 2 [0, 1] rfl rfl (by decide) ?_
   refine zcd 2 rfl ?_
   exact zcx (rs := [.tmp 6]) (vs := [.slice (some ⟨g9, 0, none⟩) 1 1]) rfl ⟨rfl, trivial⟩ rfl (fun w hm => ⟨_, bigE [curE g a len cap, rowE 97 3 (.slice (some ⟨g9, 0, none⟩) 1 1) 1 ([0, xhR8, 0].map (Value.int .i64))], rfl, ⟨[Oq.mk 0 xhR8 0], rfl, zdg (by first | exact .inl ⟨rfl, ⟨by dsimp only; omega, by dsimp only; omega⟩, rfl⟩ | exact .inr (.inl ⟨rfl, ⟨by dsimp only; omega, by dsimp only; omega⟩, rfl⟩) | exact .inr (.inr (.inl ⟨rfl, ⟨by dsimp only; omega, by dsimp only; omega⟩, by dsimp only; omega, by dsimp only; omega⟩)) | exact .inr (.inr (.inr ⟨by decide, by decide, by decide, by decide, rfl, rfl⟩))) rfl (by omega)⟩, hm.sub (.refl _)⟩)
  refine zay 1 rfl (zap rfl (srQ ?_))
  refine zbu rfl rfl rfl rfl rfl rfl (fun h10 => ?_) (fun h10 => ?_)
  ·
   refine zay 1 rfl (zah rfl (zag (reQ 1 rfl ?_)))
   refine zcg (R := (fun u_ p_ => (∃ b : Bool, u_ = .bool b) ∧ p_ = curE g a len cap)) 0 rfl rfl rfl rfl rfl (fun l' w hm => once_mut hm hb (3) (by omega) (by omega)) ?_
   intro v11 p12 hR13
   obtain ⟨⟨xhR13, rfl⟩, rfl⟩ := hR13
   refine zcl (l' := (curE g a len cap :: l)) rfl ?_
   refine zbm (fun h14 => ?_) (fun h14 => ?_)
   ·
    refine ntQ (zah rfl (srQ (hvQ rfl (zbk (cs := #[.int .i64 1, .int .i64 0, .int .i64 0]) rfl rfl rfl) ?_)))
    refine zea rfl (zak (z := .agg #[.int .i64 0, .int .i64 0, .int .i64 0]) (s := 3) (cs := ([1, 0, 0].map (Value.int .i64))) rfl Try.underlying71 rfl (by decide) rfl (by kernel_rfl) rfl) ?_
    intro g15
    refine zay 1 rfl ?_
    refine zao (zad ?_)
    refine zdv ?_
    refine zbn 2 [0, 1] rfl rfl (by decide) ?_
    refine zcd 2 rfl ?_
    exact zcx (rs := [.tmp 6]) (vs := [.slice (some ⟨g15, 0, none⟩) 1 1]) rfl ⟨rfl, trivial⟩ rfl (fun w hm => ⟨_, bigE [curE g a len cap, rowE 97 3 (.slice (some ⟨g15, 0, none⟩) 1 1) 1 ([1, 0, 0].map (Value.int .i64))], rfl, ⟨[Oq.mk 1 0 0], rfl, zdg (by first | exact .inl ⟨rfl, ⟨by dsimp only; omega, by dsimp only; omega⟩, rfl⟩ | exact .inr (.inl ⟨rfl, ⟨by dsimp only; omega, by dsimp only; omega⟩, rfl⟩) | exact .inr (.inr (.inl ⟨rfl, ⟨by dsimp only; omega, by dsimp only; omega⟩, by dsimp only; omega, by dsimp only; omega⟩)) | exact .inr (.inr (.inr ⟨by decide, by decide, by decide, by decide, rfl, rfl⟩))) rfl (by omega)⟩, hm.sub (.refl _)⟩)
   refine ntQ (fsQ rfl (zdh (zag (zag (reQ 1 rfl ?_)))))
   refine hvQ rfl (lnQ rfl rfl rfl (fun w hm => hu w (hm.sub (.cons _ (.refl _))))) (zbu rfl rfl rfl rfl rfl rfl (fun h16 => ?_) (fun h16 => ?_))
   ·
    refine ntQ (zah rfl (srQ (hvQ rfl (zbk (cs := #[.int .i64 0, .int .i64 1, .int .i64 0]) rfl rfl rfl) ?_)))
    refine zea rfl (zak (z := .agg #[.int .i64 0, .int .i64 0, .int .i64 0]) (s := 3) (cs := ([0, 1, 0].map (Value.int .i64))) rfl Try.underlying71 rfl (by decide) rfl (by kernel_rfl) rfl) ?_
    intro g17
    refine zay 1 rfl ?_
    refine zao (zdv ?_)
    refine zbn 2 [0, 1] rfl rfl (by decide) ?_
    refine zcd 2 rfl ?_
    exact zcx (rs := [.tmp 6]) (vs := [.slice (some ⟨g17, 0, none⟩) 1 1]) rfl ⟨rfl, trivial⟩ rfl (fun w hm => ⟨_, bigE [curE g a len cap, rowE 97 3 (.slice (some ⟨g17, 0, none⟩) 1 1) 1 ([0, 1, 0].map (Value.int .i64))], rfl, ⟨[Oq.mk 0 1 0], rfl, zdg (by first | exact .inl ⟨rfl, ⟨by dsimp only; omega, by dsimp only; omega⟩, rfl⟩ | exact .inr (.inl ⟨rfl, ⟨by dsimp only; omega, by dsimp only; omega⟩, rfl⟩) | exact .inr (.inr (.inl ⟨rfl, ⟨by dsimp only; omega, by dsimp only; omega⟩, by dsimp only; omega, by dsimp only; omega⟩)) | exact .inr (.inr (.inr ⟨by decide, by decide, by decide, by decide, rfl, rfl⟩))) rfl (by omega)⟩, hm.sub (.refl _)⟩)
   refine ntQ (zap rfl (zcv (zag (reQ 3 rfl ?_))))
   refine hvQ rfl (lnQ rfl rfl rfl (fun w hm => hu w (hm.sub (.cons _ (.refl _))))) (zcg (R := (fun u_ p_ => (∃ x_ : Int, u_ = .int .i64 x_ ∧ 0 ≤ x_ ∧ x_ < (A.length : Int)) ∧ p_ = curE g a len cap)) 0 rfl rfl rfl rfl rfl (fun l' w hm => zby g a len cap z (A.length : Int) _ _ _ hm hb (by constructor <;> omega)) ?_)
   intro v18 p19 hR20
   obtain ⟨⟨xhR20, rfl, xhR200, xhR201⟩, rfl⟩ := hR20
   refine zcl (l' := (curE g a len cap :: l)) rfl ?_
   refine hvQ rfl (riQ 1 rfl rfl rfl rfl (fun w hm => hu w (hm.sub (.cons _ (.refl _))))) (hvQ rfl (lzQ rfl rfl rfl (fun w hm => hu w (hm.sub (.cons _ (.refl _))))) ?_)
   refine hvQ rfl (zbk (cs := #[.int .i64 2, .int .i64 (A.getD ((xhR20).toNat) 0), .int .i64 0]) rfl rfl rfl) (zea rfl (zak (z := .agg #[.int .i64 0, .int .i64 0, .int .i64 0]) (s := 3) (cs := ([2, A.getD ((xhR20).toNat) 0, 0].map (Value.int .i64))) rfl Try.underlying71 rfl (by decide) rfl (by kernel_rfl) rfl) ?_)
   intro g21
   refine zay 1 rfl ?_
   refine zao (zae ?_)
   have hA8 := hA _ (zbw (d := (0 : Int)) (show xhR20.toNat < A.length by omega))
   refine zbn 2 [0, 1] rfl rfl (by decide) ?_
   refine zcd 2 rfl ?_
   exact zcx (rs := [.tmp 6]) (vs := [.slice (some ⟨g21, 0, none⟩) 1 1]) rfl ⟨rfl, trivial⟩ rfl (fun w hm => ⟨_, bigE [curE g a len cap, rowE 97 3 (.slice (some ⟨g21, 0, none⟩) 1 1) 1 ([2, A.getD ((xhR20).toNat) 0, 0].map (Value.int .i64))], rfl, ⟨[Oq.mk 2 (A.getD ((xhR20).toNat) 0) 0], rfl, zdg (by first | exact .inl ⟨rfl, ⟨by dsimp only; omega, by dsimp only; omega⟩, rfl⟩ | exact .inr (.inl ⟨rfl, ⟨by dsimp only; omega, by dsimp only; omega⟩, rfl⟩) | exact .inr (.inr (.inl ⟨rfl, ⟨by dsimp only; omega, by dsimp only; omega⟩, by dsimp only; omega, by dsimp only; omega⟩)) | exact .inr (.inr (.inr ⟨by decide, by decide, by decide, by decide, rfl, rfl⟩))) rfl (by omega)⟩, hm.sub (.refl _)⟩)
  refine zay 1 rfl (zap rfl (zfi ?_))
  refine zbu rfl rfl rfl rfl rfl rfl (fun h22 => ?_) (fun h22 => ?_)
  ·
   refine zay 1 rfl (zah rfl (zcv (zah rfl (zag (reQ 1 rfl ?_)))))
   refine hvQ rfl (lnQ rfl rfl rfl (fun w hm => hu w (hm.sub (.cons _ (.refl _))))) (zdr rfl rfl rfl rfl rfl rfl (fun h23 => ?_) (fun h23 => ?_))
   ·
    refine ntQ (zah rfl (zag ?_))
    refine zez (l := (l)) rfl 11 [0, 1, 2, 3, 4, 5, 6, 7, 8, 9, 10] (List.take 11 _) (List.drop 11 _) [[], [], [], [2], [1, 3], [0, 4], [4, 5], [], [4, 7], [4, 6, 8], [4, 8, 9]] [37, 38, 39, 40, 41, 42, 43, 44, 45, 46, 47] (fun i_ vs_ v_ p_ => match i_ with | 0 => v_ = u ∧ p_ = [] | 1 => v_ = .pointer (some ⟨g, 0, none⟩) ∧ p_ = [] | 2 => v_ = u ∧ p_ = [] | 3 => v_ = .int .i64 (A.length : Int) ∧ p_ = [] | 4 => (∃ pm_, p_ = [pm_] ∧ (fun u_ p_ => (∃ x_ : Int, u_ = .int .i64 x_ ∧ 0 ≤ x_ ∧ x_ < (A.length : Int)) ∧ p_ = curE g a len cap) v_ pm_) | 5 => v_ = elP u (((intOf_o (List.getD vs_ 1 undef))).toNat * 1) ∧ p_ = [] | 6 => v_ = .int .i64 (A.getD (((intOf_o (List.getD vs_ 0 undef))).toNat) 0) ∧ p_ = [] | 7 => v_ = .pointer (some ⟨g, 0, none⟩) ∧ p_ = [] | 8 => (∃ pm_, p_ = [pm_] ∧ (fun u_ p_ => (∃ x_ : Int, u_ = .int .i64 x_ ∧ 0 ≤ x_ ∧ x_ < 2) ∧ p_ = curE g a len cap) v_ pm_) | 9 => v_ = .agg #[.int .i64 3, .int .i64 (A.getD (((intOf_o (List.getD vs_ 0 undef))).toNat) 0), .int .i64 (intOf_o (List.getD vs_ 2 undef))] ∧ p_ = [] | 10 => IsRow 97 3 1 ([3, A.getD (((intOf_o (List.getD vs_ 0 undef))).toNat) 0, (intOf_o (List.getD vs_ 1 undef))].map (Value.int .i64)) v_ p_ | _ => True) [[], [], [], [2], [1, 3], [0], [5], [], [7], [6, 8], [8, 9]] [none, none, none, none, some 12, none, none, none, some 4, none, none] [curE g a len cap] [0, 1, 2, 3, 5, 6, 7, 8, 9, 10] 12 (List.take_append_drop 11 _).symm (by kernel_rfl) (by kernel_rfl) (by kernel_rfl) rfl rfl ?_ ?_
    ·
     refine ⟨?_, ?_, ?_, ?_, ?_, ?_, ?_, ?_, ?_, ?_, ?_, trivial⟩
     ·
      intro vf pf hmu hR
      refine dqQ [] [] rfl (zbo (zar [1] rfl) ?_)
      exact zbt (zau rfl)
     ·
      intro vf pf hmu hR
      refine dqQ [] [] rfl (zbo (zar [0] rfl) ?_)
      exact zbt (zau rfl)
     ·
      intro vf pf hmu hR
      refine dqQ [] [] rfl (zbo (zar [1] rfl) ?_)
      exact zbt (zau rfl)
     ·
      intro vf pf hmu hR
      have e2 := hR 2 (by decide)
      refine dqQ [2] [2] rfl (zbe (sk 39 (congrArg some e2.1) (zai _)) (List.sublist_append_right _ _) ?_)
      exact zbt (lnQ rfl rfl rfl (fun w hm => hu w (hm.sub (.refl _))))
     ·
      intro vf pf hmu hR
      have e1 := hR 1 (by decide)
      have e3 := hR 3 (by decide)
      refine Or.inl ⟨rfl, ?_⟩
      show RunM _ _ _ (pf 12) (([1, 3] : List Nat).flatMap pf ++ _) (envOf _ vf [1, 3] ++ _) _ _
      rw [hmu]
      exact zda (sk 38 (congrArg some e1.1) (sk 40 (congrArg some e3.1) (zai _))) (by simp only [e1.2, e3.2, fS] <;> rfl) (zdp (R := (fun u_ p_ => (∃ x_ : Int, u_ = .int .i64 x_ ∧ 0 ≤ x_ ∧ x_ < (A.length : Int)) ∧ p_ = curE g a len cap)) rfl rfl (fun L w hX hm => zby g a len cap z (A.length : Int) _ _ _ hm hb (by constructor <;> omega)))
     ·
      intro vf pf hmu hR
      have e0 := hR 0 (by decide)
      have e4 : (∃ pm_, (pf 4) = [pm_] ∧ (fun u_ p_ => (∃ x_ : Int, u_ = .int .i64 x_ ∧ 0 ≤ x_ ∧ x_ < (A.length : Int)) ∧ p_ = curE g a len cap) (vf 4) pm_) := hR 4 (by decide)
      obtain ⟨p25, pE4, hR26⟩ := e4
      obtain ⟨v24, vE4⟩ : ∃ x, vf 4 = x := ⟨_, rfl⟩
      rw [vE4] at hR26
      obtain ⟨⟨xhR26, rfl, xhR260, xhR261⟩, rfl⟩ := hR26
      refine dqQ [0] [0, 4] rfl (zbe (sk 37 (congrArg some e0.1) (sk 41 (congrArg some vE4) (zai _))) (List.sublist_append_right _ _) ?_)
      exact zck (zbt (riQ 1 rfl rfl rfl rfl (fun w hm => hu w (hm.sub (.refl _))))) (fun _ _ h => ⟨h.1.trans (by show _ = (elP u (((intOf_o (vf 4))).toNat * 1) : Value); first | (rw [vE4]; done) | (rw [vE4]; rfl)), h.2⟩)
     ·
      intro vf pf hmu hR
      have e4 : (∃ pm_, (pf 4) = [pm_] ∧ (fun u_ p_ => (∃ x_ : Int, u_ = .int .i64 x_ ∧ 0 ≤ x_ ∧ x_ < (A.length : Int)) ∧ p_ = curE g a len cap) (vf 4) pm_) := hR 4 (by decide)
      obtain ⟨p25, pE4, hR26⟩ := e4
      obtain ⟨v24, vE4⟩ : ∃ x, vf 4 = x := ⟨_, rfl⟩
      rw [vE4] at hR26
      obtain ⟨⟨xhR26, rfl, xhR260, xhR261⟩, rfl⟩ := hR26
      have e5 : (vf 5) = elP u (((intOf_o (vf 4))).toNat * 1) ∧ (pf 5) = [] := hR 5 (by decide)
      rw [vE4] at e5; try simp only [intOf_o] at e5
      refine dqQ [5] [4, 5] rfl (zbe (sk 42 (congrArg some e5.1) (zai _)) (List.sublist_append_right _ _) ?_)
      exact zck (zbt (lzQ rfl rfl rfl (fun w hm => hu w (hm.sub (.refl _))))) (fun _ _ h => ⟨h.1.trans (by show _ = (.int .i64 (A.getD (((intOf_o (vf 4))).toNat) 0) : Value); first | (rw [vE4]; done) | (rw [vE4]; rfl)), h.2⟩)
     ·
      intro vf pf hmu hR
      refine dqQ [] [] rfl (zbo (zar [0] rfl) ?_)
      exact zbt (zau rfl)
     ·
      intro vf pf hmu hR
      have e4 : (∃ pm_, (pf 4) = [pm_] ∧ (fun u_ p_ => (∃ x_ : Int, u_ = .int .i64 x_ ∧ 0 ≤ x_ ∧ x_ < (A.length : Int)) ∧ p_ = curE g a len cap) (vf 4) pm_) := hR 4 (by decide)
      obtain ⟨p25, pE4, hR26⟩ := e4
      obtain ⟨v24, vE4⟩ : ∃ x, vf 4 = x := ⟨_, rfl⟩
      rw [vE4] at hR26
      obtain ⟨⟨xhR26, rfl, xhR260, xhR261⟩, rfl⟩ := hR26
      have e7 := hR 7 (by decide)
      refine Or.inl ⟨rfl, ?_⟩
      show RunM _ _ _ (pf 4) (([7] : List Nat).flatMap pf ++ _) (envOf _ vf [4, 7] ++ _) _ _
      rw [pE4]
      exact zda (sk 44 (congrArg some e7.1) (zai _)) (by simp only [e7.2, fS] <;> rfl) (zdp (R := (fun u_ p_ => (∃ x_ : Int, u_ = .int .i64 x_ ∧ 0 ≤ x_ ∧ x_ < 2) ∧ p_ = curE g a len cap)) rfl rfl (fun L w hX hm => zby g a len cap z 2 _ _ _ hm hb (by constructor <;> omega)))
     ·
      intro vf pf hmu hR
      have e4 : (∃ pm_, (pf 4) = [pm_] ∧ (fun u_ p_ => (∃ x_ : Int, u_ = .int .i64 x_ ∧ 0 ≤ x_ ∧ x_ < (A.length : Int)) ∧ p_ = curE g a len cap) (vf 4) pm_) := hR 4 (by decide)
      obtain ⟨p25, pE4, hR26⟩ := e4
      obtain ⟨v24, vE4⟩ : ∃ x, vf 4 = x := ⟨_, rfl⟩
      rw [vE4] at hR26
      obtain ⟨⟨xhR26, rfl, xhR260, xhR261⟩, rfl⟩ := hR26
      have e6 : (vf 6) = .int .i64 (A.getD (((intOf_o (vf 4))).toNat) 0) ∧ (pf 6) = [] := hR 6 (by decide)
      rw [vE4] at e6; try simp only [intOf_o] at e6
      have e8 : (∃ pm_, (pf 8) = [pm_] ∧ (fun u_ p_ => (∃ x_ : Int, u_ = .int .i64 x_ ∧ 0 ≤ x_ ∧ x_ < 2) ∧ p_ = curE g a len cap) (vf 8) pm_) := hR 8 (by decide)
      obtain ⟨p28, pE8, hR29⟩ := e8
      obtain ⟨v27, vE8⟩ : ∃ x, vf 8 = x := ⟨_, rfl⟩
      rw [vE8] at hR29
      obtain ⟨⟨xhR29, rfl, xhR290, xhR291⟩, rfl⟩ := hR29
      refine dqQ [6, 8] [4, 6, 8] rfl (zcm (sk 43 (congrArg some e6.1) (sk 45 (congrArg some vE8) (zai _))) (by simp only [pE8, vE8, e6.2, fS] <;> rfl) ?_)
      exact zck (zbt (zbk (cs := #[.int .i64 3, .int .i64 (A.getD ((xhR26).toNat) 0), .int .i64 xhR29]) rfl rfl rfl)) (fun _ _ h => ⟨h.1.trans (by show _ = (.agg #[.int .i64 3, .int .i64 (A.getD (((intOf_o (vf 4))).toNat) 0), .int .i64 (intOf_o (vf 8))] : Value); first | (rw [vE4, vE8]; done) | (rw [vE4, vE8]; rfl)), h.2⟩)
     intro vf pf hmu hR
     have e4 : (∃ pm_, (pf 4) = [pm_] ∧ (fun u_ p_ => (∃ x_ : Int, u_ = .int .i64 x_ ∧ 0 ≤ x_ ∧ x_ < (A.length : Int)) ∧ p_ = curE g a len cap) (vf 4) pm_) := hR 4 (by decide)
     obtain ⟨p25, pE4, hR26⟩ := e4
     obtain ⟨v24, vE4⟩ : ∃ x, vf 4 = x := ⟨_, rfl⟩
     rw [vE4] at hR26
     obtain ⟨⟨xhR26, rfl, xhR260, xhR261⟩, rfl⟩ := hR26
     have e8 : (∃ pm_, (pf 8) = [pm_] ∧ (fun u_ p_ => (∃ x_ : Int, u_ = .int .i64 x_ ∧ 0 ≤ x_ ∧ x_ < 2) ∧ p_ = curE g a len cap) (vf 8) pm_) := hR 8 (by decide)
     obtain ⟨p28, pE8, hR29⟩ := e8
     obtain ⟨v27, vE8⟩ : ∃ x, vf 8 = x := ⟨_, rfl⟩
     rw [vE8] at hR29
     obtain ⟨⟨xhR29, rfl, xhR290, xhR291⟩, rfl⟩ := hR29
     have e9 : (vf 9) = .agg #[.int .i64 3, .int .i64 (A.getD (((intOf_o (vf 4))).toNat) 0), .int .i64 (intOf_o (vf 8))] ∧ (pf 9) = [] := hR 9 (by decide)
     rw [vE4, vE8] at e9; try simp only [intOf_o] at e9
     refine dqQ [8, 9] [4, 8, 9] rfl (zcm (sk 46 (congrArg some e9.1) (zai _)) (by simp only [pE8, vE8, e9.2, fS] <;> rfl) ?_)
     exact zck (zak (z := .agg #[.int .i64 0, .int .i64 0, .int .i64 0]) (s := 3) (cs := ([3, A.getD ((xhR26).toNat) 0, xhR29].map (Value.int .i64))) rfl Try.underlying71 rfl (by decide) rfl (by kernel_rfl) rfl) (fun v_ p_ h => by show IsRow 97 3 1 ([3, A.getD (((intOf_o (vf 4))).toNat) 0, (intOf_o (vf 8))].map (Value.int .i64)) v_ p_; rw [vE4, vE8]; exact h)
    intro vf pf hmu hR
    have e4 : (∃ pm_, (pf 4) = [pm_] ∧ (fun u_ p_ => (∃ x_ : Int, u_ = .int .i64 x_ ∧ 0 ≤ x_ ∧ x_ < (A.length : Int)) ∧ p_ = curE g a len cap) (vf 4) pm_) := hR 4 (by decide)
    obtain ⟨p25, pE4, hR26⟩ := e4
    obtain ⟨v24, vE4⟩ : ∃ x, vf 4 = x := ⟨_, rfl⟩
    rw [vE4] at hR26
    obtain ⟨⟨xhR26, rfl, xhR260, xhR261⟩, rfl⟩ := hR26
    have e8 : (∃ pm_, (pf 8) = [pm_] ∧ (fun u_ p_ => (∃ x_ : Int, u_ = .int .i64 x_ ∧ 0 ≤ x_ ∧ x_ < 2) ∧ p_ = curE g a len cap) (vf 8) pm_) := hR 8 (by decide)
    obtain ⟨p28, pE8, hR29⟩ := e8
    obtain ⟨v27, vE8⟩ : ∃ x, vf 8 = x := ⟨_, rfl⟩
    rw [vE8] at hR29
    obtain ⟨⟨xhR29, rfl, xhR290, xhR291⟩, rfl⟩ := hR29
    have e10 : IsRow 97 3 1 ([3, A.getD (((intOf_o (vf 4))).toNat) 0, (intOf_o (vf 8))].map (Value.int .i64)) (vf 10) (pf 10) := hR 10 (by decide)
    rw [vE4, vE8] at e10; try simp only [intOf_o] at e10
    obtain ⟨g30, vE10, pE10⟩ := e10
    have q0 := hR 0 (by decide)
    have q1 := hR 1 (by decide)
    have q2 := hR 2 (by decide)
    have q3 := hR 3 (by decide)
    have q5 := hR 5 (by decide)
    have q6 := hR 6 (by decide)
    have q7 := hR 7 (by decide)
    have q9 := hR 9 (by decide)
    refine zdf (zci [36, 31, 25, 19, 18, 16, 6, 2, 1, 0] _ (sk 47 (congrArg some vE10) (zai _)) rfl) (by simp only [pE8, vE8, pE10, vE10, q0.2, q1.2, q2.2, q3.2, q5.2, q6.2, q7.2, q9.2, fS] <;> rfl) ?_
    simp only [List.drop_succ_cons, List.drop_zero]
    refine zay 1 rfl ?_
    refine zao (zad ?_)
    refine zdv ?_
    have hA8 := hA _ (zbw (d := (0 : Int)) (show xhR26.toNat < A.length by omega))
    refine zbn 2 [1, 0] rfl rfl (by decide) ?_
    refine zcd 2 rfl ?_
    exact zcx (rs := [.tmp 6]) (vs := [.slice (some ⟨g30, 0, none⟩) 1 1]) rfl ⟨rfl, trivial⟩ rfl (fun w hm => ⟨_, bigE [curE g a len cap, rowE 97 3 (.slice (some ⟨g30, 0, none⟩) 1 1) 1 ([3, A.getD ((xhR26).toNat) 0, xhR29].map (Value.int .i64))], rfl, ⟨[Oq.mk 3 (A.getD ((xhR26).toNat) 0) xhR29], rfl, zdg (by first | exact .inl ⟨rfl, ⟨by dsimp only; omega, by dsimp only; omega⟩, rfl⟩ | exact .inr (.inl ⟨rfl, ⟨by dsimp only; omega, by dsimp only; omega⟩, rfl⟩) | exact .inr (.inr (.inl ⟨rfl, ⟨by dsimp only; omega, by dsimp only; omega⟩, by dsimp only; omega, by dsimp only; omega⟩)) | exact .inr (.inr (.inr ⟨by decide, by decide, by decide, by decide, rfl, rfl⟩))) rfl (by omega)⟩, hm.sub (.refl _)⟩)
   refine ntQ (fsQ rfl (zdh (zag (zag (reQ 1 rfl ?_)))))
   refine hvQ rfl (lnQ rfl rfl rfl (fun w hm => hu w (hm.sub (.cons _ (.refl _))))) (zbu rfl rfl rfl rfl rfl rfl (fun h31 => ?_) (fun h31 => ?_))
   ·
    refine ntQ (zah rfl (srQ (hvQ rfl (zbk (cs := #[.int .i64 0, .int .i64 1, .int .i64 0]) rfl rfl rfl) ?_)))
    refine zea rfl (zak (z := .agg #[.int .i64 0, .int .i64 0, .int .i64 0]) (s := 3) (cs := ([0, 1, 0].map (Value.int .i64))) rfl Try.underlying71 rfl (by decide) rfl (by kernel_rfl) rfl) ?_
    intro g32
    refine zay 1 rfl ?_
    refine zao (zdv ?_)
    refine zbn 2 [0, 1] rfl rfl (by decide) ?_
    refine zcd 2 rfl ?_
    exact zcx (rs := [.tmp 6]) (vs := [.slice (some ⟨g32, 0, none⟩) 1 1]) rfl ⟨rfl, trivial⟩ rfl (fun w hm => ⟨_, bigE [curE g a len cap, rowE 97 3 (.slice (some ⟨g32, 0, none⟩) 1 1) 1 ([0, 1, 0].map (Value.int .i64))], rfl, ⟨[Oq.mk 0 1 0], rfl, zdg (by first | exact .inl ⟨rfl, ⟨by dsimp only; omega, by dsimp only; omega⟩, rfl⟩ | exact .inr (.inl ⟨rfl, ⟨by dsimp only; omega, by dsimp only; omega⟩, rfl⟩) | exact .inr (.inr (.inl ⟨rfl, ⟨by dsimp only; omega, by dsimp only; omega⟩, by dsimp only; omega, by dsimp only; omega⟩)) | exact .inr (.inr (.inr ⟨by decide, by decide, by decide, by decide, rfl, rfl⟩))) rfl (by omega)⟩, hm.sub (.refl _)⟩)
   refine ntQ (zap rfl (zcv (zag (reQ 3 rfl ?_))))
   refine hvQ rfl (lnQ rfl rfl rfl (fun w hm => hu w (hm.sub (.cons _ (.refl _))))) (zcg (R := (fun u_ p_ => (∃ x_ : Int, u_ = .int .i64 x_ ∧ 0 ≤ x_ ∧ x_ < (A.length : Int)) ∧ p_ = curE g a len cap)) 0 rfl rfl rfl rfl rfl (fun l' w hm => zby g a len cap z (A.length : Int) _ _ _ hm hb (by constructor <;> omega)) ?_)
   intro v33 p34 hR35
   obtain ⟨⟨xhR35, rfl, xhR350, xhR351⟩, rfl⟩ := hR35
   refine zcl (l' := (curE g a len cap :: l)) rfl ?_
   refine hvQ rfl (riQ 1 rfl rfl rfl rfl (fun w hm => hu w (hm.sub (.cons _ (.refl _))))) (hvQ rfl (lzQ rfl rfl rfl (fun w hm => hu w (hm.sub (.cons _ (.refl _))))) ?_)
   refine hvQ rfl (zbk (cs := #[.int .i64 2, .int .i64 (A.getD ((xhR35).toNat) 0), .int .i64 0]) rfl rfl rfl) (zea rfl (zak (z := .agg #[.int .i64 0, .int .i64 0, .int .i64 0]) (s := 3) (cs := ([2, A.getD ((xhR35).toNat) 0, 0].map (Value.int .i64))) rfl Try.underlying71 rfl (by decide) rfl (by kernel_rfl) rfl) ?_)
   intro g36
   refine zay 1 rfl ?_
   refine zao (zae ?_)
   have hA8 := hA _ (zbw (d := (0 : Int)) (show xhR35.toNat < A.length by omega))
   refine zbn 2 [0, 1] rfl rfl (by decide) ?_
   refine zcd 2 rfl ?_
   exact zcx (rs := [.tmp 6]) (vs := [.slice (some ⟨g36, 0, none⟩) 1 1]) rfl ⟨rfl, trivial⟩ rfl (fun w hm => ⟨_, bigE [curE g a len cap, rowE 97 3 (.slice (some ⟨g36, 0, none⟩) 1 1) 1 ([2, A.getD ((xhR35).toNat) 0, 0].map (Value.int .i64))], rfl, ⟨[Oq.mk 2 (A.getD ((xhR35).toNat) 0) 0], rfl, zdg (by first | exact .inl ⟨rfl, ⟨by dsimp only; omega, by dsimp only; omega⟩, rfl⟩ | exact .inr (.inl ⟨rfl, ⟨by dsimp only; omega, by dsimp only; omega⟩, rfl⟩) | exact .inr (.inr (.inl ⟨rfl, ⟨by dsimp only; omega, by dsimp only; omega⟩, by dsimp only; omega, by dsimp only; omega⟩)) | exact .inr (.inr (.inr ⟨by decide, by decide, by decide, by decide, rfl, rfl⟩))) rfl (by omega)⟩, hm.sub (.refl _)⟩)
  refine zay 1 rfl (zap rfl (zas ?_))
  refine zbu rfl rfl rfl rfl rfl rfl (fun h37 => ?_) (fun h37 => ?_)
  ·
   refine zay 1 rfl (zah rfl (zag (reQ 1 rfl ?_)))
   refine hvQ rfl (lnQ rfl rfl rfl (fun w hm => hu w (hm.sub (.cons _ (.refl _))))) (zdr rfl rfl rfl rfl rfl rfl (fun h38 => ?_) (fun h38 => ?_))
   ·
    refine ntQ (zah rfl (zag ?_))
    refine zez (l := (l)) rfl 11 [0, 1, 2, 3, 4, 5, 6, 7, 8, 9, 10] (List.take 11 _) (List.drop 11 _) [[], [], [], [2], [1, 3], [0, 4], [4, 5], [], [4, 7], [4, 6, 8], [4, 8, 9]] [37, 38, 39, 40, 41, 42, 43, 44, 45, 46, 47] (fun i_ vs_ v_ p_ => match i_ with | 0 => v_ = u ∧ p_ = [] | 1 => v_ = .pointer (some ⟨g, 0, none⟩) ∧ p_ = [] | 2 => v_ = u ∧ p_ = [] | 3 => v_ = .int .i64 (A.length : Int) ∧ p_ = [] | 4 => (∃ pm_, p_ = [pm_] ∧ (fun u_ p_ => (∃ x_ : Int, u_ = .int .i64 x_ ∧ 0 ≤ x_ ∧ x_ < (A.length : Int)) ∧ p_ = curE g a len cap) v_ pm_) | 5 => v_ = elP u (((intOf_o (List.getD vs_ 1 undef))).toNat * 1) ∧ p_ = [] | 6 => v_ = .int .i64 (A.getD (((intOf_o (List.getD vs_ 0 undef))).toNat) 0) ∧ p_ = [] | 7 => v_ = .pointer (some ⟨g, 0, none⟩) ∧ p_ = [] | 8 => (∃ pm_, p_ = [pm_] ∧ (fun u_ p_ => (∃ x_ : Int, u_ = .int .i64 x_ ∧ 0 ≤ x_ ∧ x_ < 2) ∧ p_ = curE g a len cap) v_ pm_) | 9 => v_ = .agg #[.int .i64 3, .int .i64 (A.getD (((intOf_o (List.getD vs_ 0 undef))).toNat) 0), .int .i64 (intOf_o (List.getD vs_ 2 undef))] ∧ p_ = [] | 10 => IsRow 97 3 1 ([3, A.getD (((intOf_o (List.getD vs_ 0 undef))).toNat) 0, (intOf_o (List.getD vs_ 1 undef))].map (Value.int .i64)) v_ p_ | _ => True) [[], [], [], [2], [1, 3], [0], [5], [], [7], [6, 8], [8, 9]] [none, none, none, none, some 12, none, none, none, some 4, none, none] [curE g a len cap] [0, 1, 2, 3, 5, 6, 7, 8, 9, 10] 12 (List.take_append_drop 11 _).symm (by kernel_rfl) (by kernel_rfl) (by kernel_rfl) rfl rfl ?_ ?_
    ·
     refine ⟨?_, ?_, ?_, ?_, ?_, ?_, ?_, ?_, ?_, ?_, ?_, trivial⟩
     ·
      intro vf pf hmu hR
      refine dqQ [] [] rfl (zbo (zar [1] rfl) ?_)
      exact zbt (zau rfl)
     ·
      intro vf pf hmu hR
      refine dqQ [] [] rfl (zbo (zar [0] rfl) ?_)
      exact zbt (zau rfl)
     ·
      intro vf pf hmu hR
      refine dqQ [] [] rfl (zbo (zar [1] rfl) ?_)
      exact zbt (zau rfl)
     ·
      intro vf pf hmu hR
      have e2 := hR 2 (by decide)
      refine dqQ [2] [2] rfl (zbe (sk 39 (congrArg some e2.1) (zai _)) (List.sublist_append_right _ _) ?_)
      exact zbt (lnQ rfl rfl rfl (fun w hm => hu w (hm.sub (.refl _))))
     ·
      intro vf pf hmu hR
      have e1 := hR 1 (by decide)
      have e3 := hR 3 (by decide)
      refine Or.inl ⟨rfl, ?_⟩
      show RunM _ _ _ (pf 12) (([1, 3] : List Nat).flatMap pf ++ _) (envOf _ vf [1, 3] ++ _) _ _
      rw [hmu]
      exact zda (sk 38 (congrArg some e1.1) (sk 40 (congrArg some e3.1) (zai _))) (by simp only [e1.2, e3.2, fS] <;> rfl) (zdp (R := (fun u_ p_ => (∃ x_ : Int, u_ = .int .i64 x_ ∧ 0 ≤ x_ ∧ x_ < (A.length : Int)) ∧ p_ = curE g a len cap)) rfl rfl (fun L w hX hm => zby g a len cap z (A.length : Int) _ _ _ hm hb (by constructor <;> omega)))
     ·
      intro vf pf hmu hR
      have e0 := hR 0 (by decide)
      have e4 : (∃ pm_, (pf 4) = [pm_] ∧ (fun u_ p_ => (∃ x_ : Int, u_ = .int .i64 x_ ∧ 0 ≤ x_ ∧ x_ < (A.length : Int)) ∧ p_ = curE g a len cap) (vf 4) pm_) := hR 4 (by decide)
      obtain ⟨p40, pE4, hR41⟩ := e4
      obtain ⟨v39, vE4⟩ : ∃ x, vf 4 = x := ⟨_, rfl⟩
      rw [vE4] at hR41
      obtain ⟨⟨xhR41, rfl, xhR410, xhR411⟩, rfl⟩ := hR41
      refine dqQ [0] [0, 4] rfl (zbe (sk 37 (congrArg some e0.1) (sk 41 (congrArg some vE4) (zai _))) (List.sublist_append_right _ _) ?_)
      exact zck (zbt (riQ 1 rfl rfl rfl rfl (fun w hm => hu w (hm.sub (.refl _))))) (fun _ _ h => ⟨h.1.trans (by show _ = (elP u (((intOf_o (vf 4))).toNat * 1) : Value); first | (rw [vE4]; done) | (rw [vE4]; rfl)), h.2⟩)
     ·
      intro vf pf hmu hR
      have e4 : (∃ pm_, (pf 4) = [pm_] ∧ (fun u_ p_ => (∃ x_ : Int, u_ = .int .i64 x_ ∧ 0 ≤ x_ ∧ x_ < (A.length : Int)) ∧ p_ = curE g a len cap) (vf 4) pm_) := hR 4 (by decide)
      obtain ⟨p40, pE4, hR41⟩ := e4
      obtain ⟨v39, vE4⟩ : ∃ x, vf 4 = x := ⟨_, rfl⟩
      rw [vE4] at hR41
      obtain ⟨⟨xhR41, rfl, xhR410, xhR411⟩, rfl⟩ := hR41
      have e5 : (vf 5) = elP u (((intOf_o (vf 4))).toNat * 1) ∧ (pf 5) = [] := hR 5 (by decide)
      rw [vE4] at e5; try simp only [intOf_o] at e5
      refine dqQ [5] [4, 5] rfl (zbe (sk 42 (congrArg some e5.1) (zai _)) (List.sublist_append_right _ _) ?_)
      exact zck (zbt (lzQ rfl rfl rfl (fun w hm => hu w (hm.sub (.refl _))))) (fun _ _ h => ⟨h.1.trans (by show _ = (.int .i64 (A.getD (((intOf_o (vf 4))).toNat) 0) : Value); first | (rw [vE4]; done) | (rw [vE4]; rfl)), h.2⟩)
     ·
      intro vf pf hmu hR
      refine dqQ [] [] rfl (zbo (zar [0] rfl) ?_)
      exact zbt (zau rfl)
     ·
      intro vf pf hmu hR
      have e4 : (∃ pm_, (pf 4) = [pm_] ∧ (fun u_ p_ => (∃ x_ : Int, u_ = .int .i64 x_ ∧ 0 ≤ x_ ∧ x_ < (A.length : Int)) ∧ p_ = curE g a len cap) (vf 4) pm_) := hR 4 (by decide)
      obtain ⟨p40, pE4, hR41⟩ := e4
      obtain ⟨v39, vE4⟩ : ∃ x, vf 4 = x := ⟨_, rfl⟩
      rw [vE4] at hR41
      obtain ⟨⟨xhR41, rfl, xhR410, xhR411⟩, rfl⟩ := hR41
      have e7 := hR 7 (by decide)
      refine Or.inl ⟨rfl, ?_⟩
      show RunM _ _ _ (pf 4) (([7] : List Nat).flatMap pf ++ _) (envOf _ vf [4, 7] ++ _) _ _
      rw [pE4]
      exact zda (sk 44 (congrArg some e7.1) (zai _)) (by simp only [e7.2, fS] <;> rfl) (zdp (R := (fun u_ p_ => (∃ x_ : Int, u_ = .int .i64 x_ ∧ 0 ≤ x_ ∧ x_ < 2) ∧ p_ = curE g a len cap)) rfl rfl (fun L w hX hm => zby g a len cap z 2 _ _ _ hm hb (by constructor <;> omega)))
     ·
      intro vf pf hmu hR
      have e4 : (∃ pm_, (pf 4) = [pm_] ∧ (fun u_ p_ => (∃ x_ : Int, u_ = .int .i64 x_ ∧ 0 ≤ x_ ∧ x_ < (A.length : Int)) ∧ p_ = curE g a len cap) (vf 4) pm_) := hR 4 (by decide)
      obtain ⟨p40, pE4, hR41⟩ := e4
      obtain ⟨v39, vE4⟩ : ∃ x, vf 4 = x := ⟨_, rfl⟩
      rw [vE4] at hR41
      obtain ⟨⟨xhR41, rfl, xhR410, xhR411⟩, rfl⟩ := hR41
      have e6 : (vf 6) = .int .i64 (A.getD (((intOf_o (vf 4))).toNat) 0) ∧ (pf 6) = [] := hR 6 (by decide)
      rw [vE4] at e6; try simp only [intOf_o] at e6
      have e8 : (∃ pm_, (pf 8) = [pm_] ∧ (fun u_ p_ => (∃ x_ : Int, u_ = .int .i64 x_ ∧ 0 ≤ x_ ∧ x_ < 2) ∧ p_ = curE g a len cap) (vf 8) pm_) := hR 8 (by decide)
      obtain ⟨p43, pE8, hR44⟩ := e8
      obtain ⟨v42, vE8⟩ : ∃ x, vf 8 = x := ⟨_, rfl⟩
      rw [vE8] at hR44
      obtain ⟨⟨xhR44, rfl, xhR440, xhR441⟩, rfl⟩ := hR44
      refine dqQ [6, 8] [4, 6, 8] rfl (zcm (sk 43 (congrArg some e6.1) (sk 45 (congrArg some vE8) (zai _))) (by simp only [pE8, vE8, e6.2, fS] <;> rfl) ?_)
      exact zck (zbt (zbk (cs := #[.int .i64 3, .int .i64 (A.getD ((xhR41).toNat) 0), .int .i64 xhR44]) rfl rfl rfl)) (fun _ _ h => ⟨h.1.trans (by show _ = (.agg #[.int .i64 3, .int .i64 (A.getD (((intOf_o (vf 4))).toNat) 0), .int .i64 (intOf_o (vf 8))] : Value); first | (rw [vE4, vE8]; done) | (rw [vE4, vE8]; rfl)), h.2⟩)
     intro vf pf hmu hR
     have e4 : (∃ pm_, (pf 4) = [pm_] ∧ (fun u_ p_ => (∃ x_ : Int, u_ = .int .i64 x_ ∧ 0 ≤ x_ ∧ x_ < (A.length : Int)) ∧ p_ = curE g a len cap) (vf 4) pm_) := hR 4 (by decide)
     obtain ⟨p40, pE4, hR41⟩ := e4
     obtain ⟨v39, vE4⟩ : ∃ x, vf 4 = x := ⟨_, rfl⟩
     rw [vE4] at hR41
     obtain ⟨⟨xhR41, rfl, xhR410, xhR411⟩, rfl⟩ := hR41
     have e8 : (∃ pm_, (pf 8) = [pm_] ∧ (fun u_ p_ => (∃ x_ : Int, u_ = .int .i64 x_ ∧ 0 ≤ x_ ∧ x_ < 2) ∧ p_ = curE g a len cap) (vf 8) pm_) := hR 8 (by decide)
     obtain ⟨p43, pE8, hR44⟩ := e8
     obtain ⟨v42, vE8⟩ : ∃ x, vf 8 = x := ⟨_, rfl⟩
     rw [vE8] at hR44
     obtain ⟨⟨xhR44, rfl, xhR440, xhR441⟩, rfl⟩ := hR44
     have e9 : (vf 9) = .agg #[.int .i64 3, .int .i64 (A.getD (((intOf_o (vf 4))).toNat) 0), .int .i64 (intOf_o (vf 8))] ∧ (pf 9) = [] := hR 9 (by decide)
     rw [vE4, vE8] at e9; try simp only [intOf_o] at e9
     refine dqQ [8, 9] [4, 8, 9] rfl (zcm (sk 46 (congrArg some e9.1) (zai _)) (by simp only [pE8, vE8, e9.2, fS] <;> rfl) ?_)
     exact zck (zak (z := .agg #[.int .i64 0, .int .i64 0, .int .i64 0]) (s := 3) (cs := ([3, A.getD ((xhR41).toNat) 0, xhR44].map (Value.int .i64))) rfl Try.underlying71 rfl (by decide) rfl (by kernel_rfl) rfl) (fun v_ p_ h => by show IsRow 97 3 1 ([3, A.getD (((intOf_o (vf 4))).toNat) 0, (intOf_o (vf 8))].map (Value.int .i64)) v_ p_; rw [vE4, vE8]; exact h)
    intro vf pf hmu hR
    have e4 : (∃ pm_, (pf 4) = [pm_] ∧ (fun u_ p_ => (∃ x_ : Int, u_ = .int .i64 x_ ∧ 0 ≤ x_ ∧ x_ < (A.length : Int)) ∧ p_ = curE g a len cap) (vf 4) pm_) := hR 4 (by decide)
    obtain ⟨p40, pE4, hR41⟩ := e4
    obtain ⟨v39, vE4⟩ : ∃ x, vf 4 = x := ⟨_, rfl⟩
    rw [vE4] at hR41
    obtain ⟨⟨xhR41, rfl, xhR410, xhR411⟩, rfl⟩ := hR41
    have e8 : (∃ pm_, (pf 8) = [pm_] ∧ (fun u_ p_ => (∃ x_ : Int, u_ = .int .i64 x_ ∧ 0 ≤ x_ ∧ x_ < 2) ∧ p_ = curE g a len cap) (vf 8) pm_) := hR 8 (by decide)
    obtain ⟨p43, pE8, hR44⟩ := e8
    obtain ⟨v42, vE8⟩ : ∃ x, vf 8 = x := ⟨_, rfl⟩
    rw [vE8] at hR44
    obtain ⟨⟨xhR44, rfl, xhR440, xhR441⟩, rfl⟩ := hR44
    have e10 : IsRow 97 3 1 ([3, A.getD (((intOf_o (vf 4))).toNat) 0, (intOf_o (vf 8))].map (Value.int .i64)) (vf 10) (pf 10) := hR 10 (by decide)
    rw [vE4, vE8] at e10; try simp only [intOf_o] at e10
    obtain ⟨g45, vE10, pE10⟩ := e10
    have q0 := hR 0 (by decide)
    have q1 := hR 1 (by decide)
    have q2 := hR 2 (by decide)
    have q3 := hR 3 (by decide)
    have q5 := hR 5 (by decide)
    have q6 := hR 6 (by decide)
    have q7 := hR 7 (by decide)
    have q9 := hR 9 (by decide)
    refine zdf (zci [36, 31, 25, 19, 18, 16, 6, 2, 1, 0] _ (sk 47 (congrArg some vE10) (zai _)) rfl) (by simp only [pE8, vE8, pE10, vE10, q0.2, q1.2, q2.2, q3.2, q5.2, q6.2, q7.2, q9.2, fS] <;> rfl) ?_
    simp only [List.drop_succ_cons, List.drop_zero]
    refine zay 1 rfl ?_
    refine zao (zad ?_)
    refine zdv ?_
    have hA8 := hA _ (zbw (d := (0 : Int)) (show xhR41.toNat < A.length by omega))
    refine zbn 2 [1, 0] rfl rfl (by decide) ?_
    refine zcd 2 rfl ?_
    exact zcx (rs := [.tmp 6]) (vs := [.slice (some ⟨g45, 0, none⟩) 1 1]) rfl ⟨rfl, trivial⟩ rfl (fun w hm => ⟨_, bigE [curE g a len cap, rowE 97 3 (.slice (some ⟨g45, 0, none⟩) 1 1) 1 ([3, A.getD ((xhR41).toNat) 0, xhR44].map (Value.int .i64))], rfl, ⟨[Oq.mk 3 (A.getD ((xhR41).toNat) 0) xhR44], rfl, zdg (by first | exact .inl ⟨rfl, ⟨by dsimp only; omega, by dsimp only; omega⟩, rfl⟩ | exact .inr (.inl ⟨rfl, ⟨by dsimp only; omega, by dsimp only; omega⟩, rfl⟩) | exact .inr (.inr (.inl ⟨rfl, ⟨by dsimp only; omega, by dsimp only; omega⟩, by dsimp only; omega, by dsimp only; omega⟩)) | exact .inr (.inr (.inr ⟨by decide, by decide, by decide, by decide, rfl, rfl⟩))) rfl (by omega)⟩, hm.sub (.refl _)⟩)
   refine ntQ (fsQ rfl (zdh (zag (zag (reQ 1 rfl ?_)))))
   refine hvQ rfl (lnQ rfl rfl rfl (fun w hm => hu w (hm.sub (.cons _ (.refl _))))) (zbu rfl rfl rfl rfl rfl rfl (fun h46 => ?_) (fun h46 => ?_))
   ·
    refine ntQ (zah rfl (srQ (hvQ rfl (zbk (cs := #[.int .i64 0, .int .i64 1, .int .i64 0]) rfl rfl rfl) ?_)))
    refine zea rfl (zak (z := .agg #[.int .i64 0, .int .i64 0, .int .i64 0]) (s := 3) (cs := ([0, 1, 0].map (Value.int .i64))) rfl Try.underlying71 rfl (by decide) rfl (by kernel_rfl) rfl) ?_
    intro g47
    refine zay 1 rfl ?_
    refine zao (zdv ?_)
    refine zbn 2 [0, 1] rfl rfl (by decide) ?_
    refine zcd 2 rfl ?_
    exact zcx (rs := [.tmp 6]) (vs := [.slice (some ⟨g47, 0, none⟩) 1 1]) rfl ⟨rfl, trivial⟩ rfl (fun w hm => ⟨_, bigE [curE g a len cap, rowE 97 3 (.slice (some ⟨g47, 0, none⟩) 1 1) 1 ([0, 1, 0].map (Value.int .i64))], rfl, ⟨[Oq.mk 0 1 0], rfl, zdg (by first | exact .inl ⟨rfl, ⟨by dsimp only; omega, by dsimp only; omega⟩, rfl⟩ | exact .inr (.inl ⟨rfl, ⟨by dsimp only; omega, by dsimp only; omega⟩, rfl⟩) | exact .inr (.inr (.inl ⟨rfl, ⟨by dsimp only; omega, by dsimp only; omega⟩, by dsimp only; omega, by dsimp only; omega⟩)) | exact .inr (.inr (.inr ⟨by decide, by decide, by decide, by decide, rfl, rfl⟩))) rfl (by omega)⟩, hm.sub (.refl _)⟩)
   refine ntQ (zap rfl (zcv (zag (reQ 3 rfl ?_))))
   refine hvQ rfl (lnQ rfl rfl rfl (fun w hm => hu w (hm.sub (.cons _ (.refl _))))) (zcg (R := (fun u_ p_ => (∃ x_ : Int, u_ = .int .i64 x_ ∧ 0 ≤ x_ ∧ x_ < (A.length : Int)) ∧ p_ = curE g a len cap)) 0 rfl rfl rfl rfl rfl (fun l' w hm => zby g a len cap z (A.length : Int) _ _ _ hm hb (by constructor <;> omega)) ?_)
   intro v48 p49 hR50
   obtain ⟨⟨xhR50, rfl, xhR500, xhR501⟩, rfl⟩ := hR50
   refine zcl (l' := (curE g a len cap :: l)) rfl ?_
   refine hvQ rfl (riQ 1 rfl rfl rfl rfl (fun w hm => hu w (hm.sub (.cons _ (.refl _))))) (hvQ rfl (lzQ rfl rfl rfl (fun w hm => hu w (hm.sub (.cons _ (.refl _))))) ?_)
   refine hvQ rfl (zbk (cs := #[.int .i64 2, .int .i64 (A.getD ((xhR50).toNat) 0), .int .i64 0]) rfl rfl rfl) (zea rfl (zak (z := .agg #[.int .i64 0, .int .i64 0, .int .i64 0]) (s := 3) (cs := ([2, A.getD ((xhR50).toNat) 0, 0].map (Value.int .i64))) rfl Try.underlying71 rfl (by decide) rfl (by kernel_rfl) rfl) ?_)
   intro g51
   refine zay 1 rfl ?_
   refine zao (zae ?_)
   have hA8 := hA _ (zbw (d := (0 : Int)) (show xhR50.toNat < A.length by omega))
   refine zbn 2 [0, 1] rfl rfl (by decide) ?_
   refine zcd 2 rfl ?_
   exact zcx (rs := [.tmp 6]) (vs := [.slice (some ⟨g51, 0, none⟩) 1 1]) rfl ⟨rfl, trivial⟩ rfl (fun w hm => ⟨_, bigE [curE g a len cap, rowE 97 3 (.slice (some ⟨g51, 0, none⟩) 1 1) 1 ([2, A.getD ((xhR50).toNat) 0, 0].map (Value.int .i64))], rfl, ⟨[Oq.mk 2 (A.getD ((xhR50).toNat) 0) 0], rfl, zdg (by first | exact .inl ⟨rfl, ⟨by dsimp only; omega, by dsimp only; omega⟩, rfl⟩ | exact .inr (.inl ⟨rfl, ⟨by dsimp only; omega, by dsimp only; omega⟩, rfl⟩) | exact .inr (.inr (.inl ⟨rfl, ⟨by dsimp only; omega, by dsimp only; omega⟩, by dsimp only; omega, by dsimp only; omega⟩)) | exact .inr (.inr (.inr ⟨by decide, by decide, by decide, by decide, rfl, rfl⟩))) rfl (by omega)⟩, hm.sub (.refl _)⟩)
  refine zay 1 rfl (fsQ rfl (zdh (zag (zag (reQ 1 rfl ?_)))))
  refine hvQ rfl (lnQ rfl rfl rfl (fun w hm => hu w (hm.sub (.cons _ (.refl _))))) (zbu rfl rfl rfl rfl rfl rfl (fun h52 => ?_) (fun h52 => ?_))
  ·
   refine ntQ (zah rfl (srQ (hvQ rfl (zbk (cs := #[.int .i64 0, .int .i64 1, .int .i64 0]) rfl rfl rfl) ?_)))
   refine zea rfl (zak (z := .agg #[.int .i64 0, .int .i64 0, .int .i64 0]) (s := 3) (cs := ([0, 1, 0].map (Value.int .i64))) rfl Try.underlying71 rfl (by decide) rfl (by kernel_rfl) rfl) ?_
   intro g53
   refine zay 1 rfl ?_
   refine zao (zdv ?_)
   refine zbn 2 [0, 1] rfl rfl (by decide) ?_
   refine zcd 2 rfl ?_
   exact zcx (rs := [.tmp 6]) (vs := [.slice (some ⟨g53, 0, none⟩) 1 1]) rfl ⟨rfl, trivial⟩ rfl (fun w hm => ⟨_, bigE [curE g a len cap, rowE 97 3 (.slice (some ⟨g53, 0, none⟩) 1 1) 1 ([0, 1, 0].map (Value.int .i64))], rfl, ⟨[Oq.mk 0 1 0], rfl, zdg (by first | exact .inl ⟨rfl, ⟨by dsimp only; omega, by dsimp only; omega⟩, rfl⟩ | exact .inr (.inl ⟨rfl, ⟨by dsimp only; omega, by dsimp only; omega⟩, rfl⟩) | exact .inr (.inr (.inl ⟨rfl, ⟨by dsimp only; omega, by dsimp only; omega⟩, by dsimp only; omega, by dsimp only; omega⟩)) | exact .inr (.inr (.inr ⟨by decide, by decide, by decide, by decide, rfl, rfl⟩))) rfl (by omega)⟩, hm.sub (.refl _)⟩)
  refine ntQ (zap rfl (zcv (zag (reQ 3 rfl ?_))))
  refine hvQ rfl (lnQ rfl rfl rfl (fun w hm => hu w (hm.sub (.cons _ (.refl _))))) (zcg (R := (fun u_ p_ => (∃ x_ : Int, u_ = .int .i64 x_ ∧ 0 ≤ x_ ∧ x_ < (A.length : Int)) ∧ p_ = curE g a len cap)) 0 rfl rfl rfl rfl rfl (fun l' w hm => zby g a len cap z (A.length : Int) _ _ _ hm hb (by constructor <;> omega)) ?_)
  intro v54 p55 hR56
  obtain ⟨⟨xhR56, rfl, xhR560, xhR561⟩, rfl⟩ := hR56
  refine zcl (l' := (curE g a len cap :: l)) rfl ?_
  refine hvQ rfl (riQ 1 rfl rfl rfl rfl (fun w hm => hu w (hm.sub (.cons _ (.refl _))))) (hvQ rfl (lzQ rfl rfl rfl (fun w hm => hu w (hm.sub (.cons _ (.refl _))))) ?_)
  refine hvQ rfl (zbk (cs := #[.int .i64 2, .int .i64 (A.getD ((xhR56).toNat) 0), .int .i64 0]) rfl rfl rfl) (zea rfl (zak (z := .agg #[.int .i64 0, .int .i64 0, .int .i64 0]) (s := 3) (cs := ([2, A.getD ((xhR56).toNat) 0, 0].map (Value.int .i64))) rfl Try.underlying71 rfl (by decide) rfl (by kernel_rfl) rfl) ?_)
  intro g57
  refine zay 1 rfl ?_
  refine zao (zae ?_)
  have hA8 := hA _ (zbw (d := (0 : Int)) (show xhR56.toNat < A.length by omega))
  refine zbn 2 [0, 1] rfl rfl (by decide) ?_
  refine zcd 2 rfl ?_
  exact zcx (rs := [.tmp 6]) (vs := [.slice (some ⟨g57, 0, none⟩) 1 1]) rfl ⟨rfl, trivial⟩ rfl (fun w hm => ⟨_, bigE [curE g a len cap, rowE 97 3 (.slice (some ⟨g57, 0, none⟩) 1 1) 1 ([2, A.getD ((xhR56).toNat) 0, 0].map (Value.int .i64))], rfl, ⟨[Oq.mk 2 (A.getD ((xhR56).toNat) 0) 0], rfl, zdg (by first | exact .inl ⟨rfl, ⟨by dsimp only; omega, by dsimp only; omega⟩, rfl⟩ | exact .inr (.inl ⟨rfl, ⟨by dsimp only; omega, by dsimp only; omega⟩, rfl⟩) | exact .inr (.inr (.inl ⟨rfl, ⟨by dsimp only; omega, by dsimp only; omega⟩, by dsimp only; omega, by dsimp only; omega⟩)) | exact .inr (.inr (.inr ⟨by decide, by decide, by decide, by decide, rfl, rfl⟩))) rfl (by omega)⟩, hm.sub (.refl _)⟩)
 refine zam 2 rfl (zcg (R := (fun u_ p_ => (∃ b : Bool, u_ = .bool b) ∧ p_ = curE g a len cap)) 0 rfl rfl rfl rfl rfl (fun l' w hm => once_mut hm hb (3) (by omega) (by omega)) ?_)
 intro v58 p59 hR60
 obtain ⟨⟨xhR60, rfl⟩, rfl⟩ := hR60
 refine zcl (l' := (curE g a len cap :: l)) rfl ?_
 refine zbm (fun h61 => ?_) (fun h61 => ?_)
 ·
  refine zay 1 rfl (zah rfl (zag (zag (reQ 1 rfl ?_))))
  refine zcg (R := (fun u_ p_ => (∃ x_ : Int, u_ = .int .i64 x_ ∧ 0 ≤ x_ ∧ x_ < 8) ∧ p_ = curE g a len cap)) 0 rfl rfl rfl rfl rfl (fun l' w hm => zby g a len cap z 8 _ _ _ hm hb (by constructor <;> omega)) ?_
  intro v62 p63 hR64
  obtain ⟨⟨xhR64, rfl, xhR640, xhR641⟩, rfl⟩ := hR64
  refine zcl (l' := (curE g a len cap :: l)) rfl ?_
  refine ntQ (zaz (srQ ?_))
  refine zbu rfl rfl rfl rfl rfl rfl (fun h65 => ?_) (fun h65 => ?_)
  ·
   refine zay 1 rfl (zah rfl (zag (reQ 1 rfl ?_)))
   refine zcg (R := (fun u_ p_ => (∃ x_ : Int, u_ = .int .i64 x_ ∧ 0 ≤ x_ ∧ x_ < 16) ∧ p_ = curE g a len cap)) 0 rfl rfl rfl rfl rfl (fun l' w hm => zby g a len cap z 16 _ _ _ hm hb (by constructor <;> omega)) ?_
   intro v66 p67 hR68
   obtain ⟨⟨xhR68, rfl, xhR680, xhR681⟩, rfl⟩ := hR68
   refine zcl (l' := (curE g a len cap :: l)) rfl ?_
   refine hvQ rfl (zbk (cs := #[.int .i64 0, .int .i64 xhR68, .int .i64 0]) rfl rfl rfl) (zea rfl (zak (z := .agg #[.int .i64 0, .int .i64 0, .int .i64 0]) (s := 3) (cs := ([0, xhR68, 0].map (Value.int .i64))) rfl Try.underlying71 rfl (by decide) rfl (by kernel_rfl) rfl) ?_)
   intro g69
   refine zay 1 rfl ?_
   refine zao (zad ?_)
   refine zdv ?_
   refine zbn 2 [0, 1] rfl rfl (by decide) ?_
   refine zcd 2 rfl ?_
   exact zcx (rs := [.tmp 6]) (vs := [.slice (some ⟨g69, 0, none⟩) 1 1]) rfl ⟨rfl, trivial⟩ rfl (fun w hm => ⟨_, bigE [curE g a len cap, rowE 97 3 (.slice (some ⟨g69, 0, none⟩) 1 1) 1 ([0, xhR68, 0].map (Value.int .i64))], rfl, ⟨[Oq.mk 0 xhR68 0], rfl, zdg (by first | exact .inl ⟨rfl, ⟨by dsimp only; omega, by dsimp only; omega⟩, rfl⟩ | exact .inr (.inl ⟨rfl, ⟨by dsimp only; omega, by dsimp only; omega⟩, rfl⟩) | exact .inr (.inr (.inl ⟨rfl, ⟨by dsimp only; omega, by dsimp only; omega⟩, by dsimp only; omega, by dsimp only; omega⟩)) | exact .inr (.inr (.inr ⟨by decide, by decide, by decide, by decide, rfl, rfl⟩))) rfl (by omega)⟩, hm.sub (.refl _)⟩)
  refine zay 1 rfl (zap rfl (srQ ?_))
  refine zbu rfl rfl rfl rfl rfl rfl (fun h70 => ?_) (fun h70 => ?_)
  ·
   refine zay 1 rfl (zah rfl (zag (reQ 1 rfl ?_)))
   refine zcg (R := (fun u_ p_ => (∃ b : Bool, u_ = .bool b) ∧ p_ = curE g a len cap)) 0 rfl rfl rfl rfl rfl (fun l' w hm => once_mut hm hb (3) (by omega) (by omega)) ?_
   intro v71 p72 hR73
   obtain ⟨⟨xhR73, rfl⟩, rfl⟩ := hR73
   refine zcl (l' := (curE g a len cap :: l)) rfl ?_
   refine zbm (fun h74 => ?_) (fun h74 => ?_)
   ·
    refine ntQ (zah rfl (srQ (hvQ rfl (zbk (cs := #[.int .i64 1, .int .i64 0, .int .i64 0]) rfl rfl rfl) ?_)))
    refine zea rfl (zak (z := .agg #[.int .i64 0, .int .i64 0, .int .i64 0]) (s := 3) (cs := ([1, 0, 0].map (Value.int .i64))) rfl Try.underlying71 rfl (by decide) rfl (by kernel_rfl) rfl) ?_
    intro g75
    refine zay 1 rfl ?_
    refine zao (zad ?_)
    refine zdv ?_
    refine zbn 2 [0, 1] rfl rfl (by decide) ?_
    refine zcd 2 rfl ?_
    exact zcx (rs := [.tmp 6]) (vs := [.slice (some ⟨g75, 0, none⟩) 1 1]) rfl ⟨rfl, trivial⟩ rfl (fun w hm => ⟨_, bigE [curE g a len cap, rowE 97 3 (.slice (some ⟨g75, 0, none⟩) 1 1) 1 ([1, 0, 0].map (Value.int .i64))], rfl, ⟨[Oq.mk 1 0 0], rfl, zdg (by first | exact .inl ⟨rfl, ⟨by dsimp only; omega, by dsimp only; omega⟩, rfl⟩ | exact .inr (.inl ⟨rfl, ⟨by dsimp only; omega, by dsimp only; omega⟩, rfl⟩) | exact .inr (.inr (.inl ⟨rfl, ⟨by dsimp only; omega, by dsimp only; omega⟩, by dsimp only; omega, by dsimp only; omega⟩)) | exact .inr (.inr (.inr ⟨by decide, by decide, by decide, by decide, rfl, rfl⟩))) rfl (by omega)⟩, hm.sub (.refl _)⟩)
   refine ntQ (fsQ rfl (zdh (zag (zag (reQ 1 rfl ?_)))))
   refine hvQ rfl (lnQ rfl rfl rfl (fun w hm => hu w (hm.sub (.cons _ (.refl _))))) (zbu rfl rfl rfl rfl rfl rfl (fun h76 => ?_) (fun h76 => ?_))
   ·
    refine ntQ (zah rfl (srQ (hvQ rfl (zbk (cs := #[.int .i64 0, .int .i64 1, .int .i64 0]) rfl rfl rfl) ?_)))
    refine zea rfl (zak (z := .agg #[.int .i64 0, .int .i64 0, .int .i64 0]) (s := 3) (cs := ([0, 1, 0].map (Value.int .i64))) rfl Try.underlying71 rfl (by decide) rfl (by kernel_rfl) rfl) ?_
    intro g77
    refine zay 1 rfl ?_
    refine zao (zdv ?_)
    refine zbn 2 [0, 1] rfl rfl (by decide) ?_
    refine zcd 2 rfl ?_
    exact zcx (rs := [.tmp 6]) (vs := [.slice (some ⟨g77, 0, none⟩) 1 1]) rfl ⟨rfl, trivial⟩ rfl (fun w hm => ⟨_, bigE [curE g a len cap, rowE 97 3 (.slice (some ⟨g77, 0, none⟩) 1 1) 1 ([0, 1, 0].map (Value.int .i64))], rfl, ⟨[Oq.mk 0 1 0], rfl, zdg (by first | exact .inl ⟨rfl, ⟨by dsimp only; omega, by dsimp only; omega⟩, rfl⟩ | exact .inr (.inl ⟨rfl, ⟨by dsimp only; omega, by dsimp only; omega⟩, rfl⟩) | exact .inr (.inr (.inl ⟨rfl, ⟨by dsimp only; omega, by dsimp only; omega⟩, by dsimp only; omega, by dsimp only; omega⟩)) | exact .inr (.inr (.inr ⟨by decide, by decide, by decide, by decide, rfl, rfl⟩))) rfl (by omega)⟩, hm.sub (.refl _)⟩)
   refine ntQ (zap rfl (zcv (zag (reQ 3 rfl ?_))))
   refine hvQ rfl (lnQ rfl rfl rfl (fun w hm => hu w (hm.sub (.cons _ (.refl _))))) (zcg (R := (fun u_ p_ => (∃ x_ : Int, u_ = .int .i64 x_ ∧ 0 ≤ x_ ∧ x_ < (A.length : Int)) ∧ p_ = curE g a len cap)) 0 rfl rfl rfl rfl rfl (fun l' w hm => zby g a len cap z (A.length : Int) _ _ _ hm hb (by constructor <;> omega)) ?_)
   intro v78 p79 hR80
   obtain ⟨⟨xhR80, rfl, xhR800, xhR801⟩, rfl⟩ := hR80
   refine zcl (l' := (curE g a len cap :: l)) rfl ?_
   refine hvQ rfl (riQ 1 rfl rfl rfl rfl (fun w hm => hu w (hm.sub (.cons _ (.refl _))))) (hvQ rfl (lzQ rfl rfl rfl (fun w hm => hu w (hm.sub (.cons _ (.refl _))))) ?_)
   refine hvQ rfl (zbk (cs := #[.int .i64 2, .int .i64 (A.getD ((xhR80).toNat) 0), .int .i64 0]) rfl rfl rfl) (zea rfl (zak (z := .agg #[.int .i64 0, .int .i64 0, .int .i64 0]) (s := 3) (cs := ([2, A.getD ((xhR80).toNat) 0, 0].map (Value.int .i64))) rfl Try.underlying71 rfl (by decide) rfl (by kernel_rfl) rfl) ?_)
   intro g81
   refine zay 1 rfl ?_
   refine zao (zae ?_)
   have hA8 := hA _ (zbw (d := (0 : Int)) (show xhR80.toNat < A.length by omega))
   refine zbn 2 [0, 1] rfl rfl (by decide) ?_
   refine zcd 2 rfl ?_
   exact zcx (rs := [.tmp 6]) (vs := [.slice (some ⟨g81, 0, none⟩) 1 1]) rfl ⟨rfl, trivial⟩ rfl (fun w hm => ⟨_, bigE [curE g a len cap, rowE 97 3 (.slice (some ⟨g81, 0, none⟩) 1 1) 1 ([2, A.getD ((xhR80).toNat) 0, 0].map (Value.int .i64))], rfl, ⟨[Oq.mk 2 (A.getD ((xhR80).toNat) 0) 0], rfl, zdg (by first | exact .inl ⟨rfl, ⟨by dsimp only; omega, by dsimp only; omega⟩, rfl⟩ | exact .inr (.inl ⟨rfl, ⟨by dsimp only; omega, by dsimp only; omega⟩, rfl⟩) | exact .inr (.inr (.inl ⟨rfl, ⟨by dsimp only; omega, by dsimp only; omega⟩, by dsimp only; omega, by dsimp only; omega⟩)) | exact .inr (.inr (.inr ⟨by decide, by decide, by decide, by decide, rfl, rfl⟩))) rfl (by omega)⟩, hm.sub (.refl _)⟩)
  refine zay 1 rfl (zap rfl (zfi ?_))
  refine zbu rfl rfl rfl rfl rfl rfl (fun h82 => ?_) (fun h82 => ?_)
  ·
   refine zay 1 rfl (zah rfl (zcv (zah rfl (zag (reQ 1 rfl ?_)))))
   refine hvQ rfl (lnQ rfl rfl rfl (fun w hm => hu w (hm.sub (.cons _ (.refl _))))) (zdr rfl rfl rfl rfl rfl rfl (fun h83 => ?_) (fun h83 => ?_))
   ·
    refine ntQ (zah rfl (zag ?_))
    refine zez (l := (l)) rfl 11 [0, 1, 2, 3, 4, 5, 6, 7, 8, 9, 10] (List.take 11 _) (List.drop 11 _) [[], [], [], [2], [1, 3], [0, 4], [4, 5], [], [4, 7], [4, 6, 8], [4, 8, 9]] [37, 38, 39, 40, 41, 42, 43, 44, 45, 46, 47] (fun i_ vs_ v_ p_ => match i_ with | 0 => v_ = u ∧ p_ = [] | 1 => v_ = .pointer (some ⟨g, 0, none⟩) ∧ p_ = [] | 2 => v_ = u ∧ p_ = [] | 3 => v_ = .int .i64 (A.length : Int) ∧ p_ = [] | 4 => (∃ pm_, p_ = [pm_] ∧ (fun u_ p_ => (∃ x_ : Int, u_ = .int .i64 x_ ∧ 0 ≤ x_ ∧ x_ < (A.length : Int)) ∧ p_ = curE g a len cap) v_ pm_) | 5 => v_ = elP u (((intOf_o (List.getD vs_ 1 undef))).toNat * 1) ∧ p_ = [] | 6 => v_ = .int .i64 (A.getD (((intOf_o (List.getD vs_ 0 undef))).toNat) 0) ∧ p_ = [] | 7 => v_ = .pointer (some ⟨g, 0, none⟩) ∧ p_ = [] | 8 => (∃ pm_, p_ = [pm_] ∧ (fun u_ p_ => (∃ x_ : Int, u_ = .int .i64 x_ ∧ 0 ≤ x_ ∧ x_ < 2) ∧ p_ = curE g a len cap) v_ pm_) | 9 => v_ = .agg #[.int .i64 3, .int .i64 (A.getD (((intOf_o (List.getD vs_ 0 undef))).toNat) 0), .int .i64 (intOf_o (List.getD vs_ 2 undef))] ∧ p_ = [] | 10 => IsRow 97 3 1 ([3, A.getD (((intOf_o (List.getD vs_ 0 undef))).toNat) 0, (intOf_o (List.getD vs_ 1 undef))].map (Value.int .i64)) v_ p_ | _ => True) [[], [], [], [2], [1, 3], [0], [5], [], [7], [6, 8], [8, 9]] [none, none, none, none, some 12, none, none, none, some 4, none, none] [curE g a len cap] [0, 1, 2, 3, 5, 6, 7, 8, 9, 10] 12 (List.take_append_drop 11 _).symm (by kernel_rfl) (by kernel_rfl) (by kernel_rfl) rfl rfl ?_ ?_
    ·
     refine ⟨?_, ?_, ?_, ?_, ?_, ?_, ?_, ?_, ?_, ?_, ?_, trivial⟩
     ·
      intro vf pf hmu hR
      refine dqQ [] [] rfl (zbo (zar [1] rfl) ?_)
      exact zbt (zau rfl)
     ·
      intro vf pf hmu hR
      refine dqQ [] [] rfl (zbo (zar [0] rfl) ?_)
      exact zbt (zau rfl)
     ·
      intro vf pf hmu hR
      refine dqQ [] [] rfl (zbo (zar [1] rfl) ?_)
      exact zbt (zau rfl)
     ·
      intro vf pf hmu hR
      have e2 := hR 2 (by decide)
      refine dqQ [2] [2] rfl (zbe (sk 39 (congrArg some e2.1) (zai _)) (List.sublist_append_right _ _) ?_)
      exact zbt (lnQ rfl rfl rfl (fun w hm => hu w (hm.sub (.refl _))))
     ·
      intro vf pf hmu hR
      have e1 := hR 1 (by decide)
      have e3 := hR 3 (by decide)
      refine Or.inl ⟨rfl, ?_⟩
      show RunM _ _ _ (pf 12) (([1, 3] : List Nat).flatMap pf ++ _) (envOf _ vf [1, 3] ++ _) _ _
      rw [hmu]
      exact zda (sk 38 (congrArg some e1.1) (sk 40 (congrArg some e3.1) (zai _))) (by simp only [e1.2, e3.2, fS] <;> rfl) (zdp (R := (fun u_ p_ => (∃ x_ : Int, u_ = .int .i64 x_ ∧ 0 ≤ x_ ∧ x_ < (A.length : Int)) ∧ p_ = curE g a len cap)) rfl rfl (fun L w hX hm => zby g a len cap z (A.length : Int) _ _ _ hm hb (by constructor <;> omega)))
     ·
      intro vf pf hmu hR
      have e0 := hR 0 (by decide)
      have e4 : (∃ pm_, (pf 4) = [pm_] ∧ (fun u_ p_ => (∃ x_ : Int, u_ = .int .i64 x_ ∧ 0 ≤ x_ ∧ x_ < (A.length : Int)) ∧ p_ = curE g a len cap) (vf 4) pm_) := hR 4 (by decide)
      obtain ⟨p85, pE4, hR86⟩ := e4
      obtain ⟨v84, vE4⟩ : ∃ x, vf 4 = x := ⟨_, rfl⟩
      rw [vE4] at hR86
      obtain ⟨⟨xhR86, rfl, xhR860, xhR861⟩, rfl⟩ := hR86
      refine dqQ [0] [0, 4] rfl (zbe (sk 37 (congrArg some e0.1) (sk 41 (congrArg some vE4) (zai _))) (List.sublist_append_right _ _) ?_)
      exact zck (zbt (riQ 1 rfl rfl rfl rfl (fun w hm => hu w (hm.sub (.refl _))))) (fun _ _ h => ⟨h.1.trans (by show _ = (elP u (((intOf_o (vf 4))).toNat * 1) : Value); first | (rw [vE4]; done) | (rw [vE4]; rfl)), h.2⟩)
     ·
      intro vf pf hmu hR
      have e4 : (∃ pm_, (pf 4) = [pm_] ∧ (fun u_ p_ => (∃ x_ : Int, u_ = .int .i64 x_ ∧ 0 ≤ x_ ∧ x_ < (A.length : Int)) ∧ p_ = curE g a len cap) (vf 4) pm_) := hR 4 (by decide)
      obtain ⟨p85, pE4, hR86⟩ := e4
      obtain ⟨v84, vE4⟩ : ∃ x, vf 4 = x := ⟨_, rfl⟩
      rw [vE4] at hR86
      obtain ⟨⟨xhR86, rfl, xhR860, xhR861⟩, rfl⟩ := hR86
      have e5 : (vf 5) = elP u (((intOf_o (vf 4))).toNat * 1) ∧ (pf 5) = [] := hR 5 (by decide)
      rw [vE4] at e5; try simp only [intOf_o] at e5
      refine dqQ [5] [4, 5] rfl (zbe (sk 42 (congrArg some e5.1) (zai _)) (List.sublist_append_right _ _) ?_)
      exact zck (zbt (lzQ rfl rfl rfl (fun w hm => hu w (hm.sub (.refl _))))) (fun _ _ h => ⟨h.1.trans (by show _ = (.int .i64 (A.getD (((intOf_o (vf 4))).toNat) 0) : Value); first | (rw [vE4]; done) | (rw [vE4]; rfl)), h.2⟩)
     ·
      intro vf pf hmu hR
      refine dqQ [] [] rfl (zbo (zar [0] rfl) ?_)
      exact zbt (zau rfl)
     ·
      intro vf pf hmu hR
      have e4 : (∃ pm_, (pf 4) = [pm_] ∧ (fun u_ p_ => (∃ x_ : Int, u_ = .int .i64 x_ ∧ 0 ≤ x_ ∧ x_ < (A.length : Int)) ∧ p_ = curE g a len cap) (vf 4) pm_) := hR 4 (by decide)
      obtain ⟨p85, pE4, hR86⟩ := e4
      obtain ⟨v84, vE4⟩ : ∃ x, vf 4 = x := ⟨_, rfl⟩
      rw [vE4] at hR86
      obtain ⟨⟨xhR86, rfl, xhR860, xhR861⟩, rfl⟩ := hR86
      have e7 := hR 7 (by decide)
      refine Or.inl ⟨rfl, ?_⟩
      show RunM _ _ _ (pf 4) (([7] : List Nat).flatMap pf ++ _) (envOf _ vf [4, 7] ++ _) _ _
      rw [pE4]
      exact zda (sk 44 (congrArg some e7.1) (zai _)) (by simp only [e7.2, fS] <;> rfl) (zdp (R := (fun u_ p_ => (∃ x_ : Int, u_ = .int .i64 x_ ∧ 0 ≤ x_ ∧ x_ < 2) ∧ p_ = curE g a len cap)) rfl rfl (fun L w hX hm => zby g a len cap z 2 _ _ _ hm hb (by constructor <;> omega)))
     ·
      intro vf pf hmu hR
      have e4 : (∃ pm_, (pf 4) = [pm_] ∧ (fun u_ p_ => (∃ x_ : Int, u_ = .int .i64 x_ ∧ 0 ≤ x_ ∧ x_ < (A.length : Int)) ∧ p_ = curE g a len cap) (vf 4) pm_) := hR 4 (by decide)
      obtain ⟨p85, pE4, hR86⟩ := e4
      obtain ⟨v84, vE4⟩ : ∃ x, vf 4 = x := ⟨_, rfl⟩
      rw [vE4] at hR86
      obtain ⟨⟨xhR86, rfl, xhR860, xhR861⟩, rfl⟩ := hR86
      have e6 : (vf 6) = .int .i64 (A.getD (((intOf_o (vf 4))).toNat) 0) ∧ (pf 6) = [] := hR 6 (by decide)
      rw [vE4] at e6; try simp only [intOf_o] at e6
      have e8 : (∃ pm_, (pf 8) = [pm_] ∧ (fun u_ p_ => (∃ x_ : Int, u_ = .int .i64 x_ ∧ 0 ≤ x_ ∧ x_ < 2) ∧ p_ = curE g a len cap) (vf 8) pm_) := hR 8 (by decide)
      obtain ⟨p88, pE8, hR89⟩ := e8
      obtain ⟨v87, vE8⟩ : ∃ x, vf 8 = x := ⟨_, rfl⟩
      rw [vE8] at hR89
      obtain ⟨⟨xhR89, rfl, xhR890, xhR891⟩, rfl⟩ := hR89
      refine dqQ [6, 8] [4, 6, 8] rfl (zcm (sk 43 (congrArg some e6.1) (sk 45 (congrArg some vE8) (zai _))) (by simp only [pE8, vE8, e6.2, fS] <;> rfl) ?_)
      exact zck (zbt (zbk (cs := #[.int .i64 3, .int .i64 (A.getD ((xhR86).toNat) 0), .int .i64 xhR89]) rfl rfl rfl)) (fun _ _ h => ⟨h.1.trans (by show _ = (.agg #[.int .i64 3, .int .i64 (A.getD (((intOf_o (vf 4))).toNat) 0), .int .i64 (intOf_o (vf 8))] : Value); first | (rw [vE4, vE8]; done) | (rw [vE4, vE8]; rfl)), h.2⟩)
     intro vf pf hmu hR
     have e4 : (∃ pm_, (pf 4) = [pm_] ∧ (fun u_ p_ => (∃ x_ : Int, u_ = .int .i64 x_ ∧ 0 ≤ x_ ∧ x_ < (A.length : Int)) ∧ p_ = curE g a len cap) (vf 4) pm_) := hR 4 (by decide)
     obtain ⟨p85, pE4, hR86⟩ := e4
     obtain ⟨v84, vE4⟩ : ∃ x, vf 4 = x := ⟨_, rfl⟩
     rw [vE4] at hR86
     obtain ⟨⟨xhR86, rfl, xhR860, xhR861⟩, rfl⟩ := hR86
     have e8 : (∃ pm_, (pf 8) = [pm_] ∧ (fun u_ p_ => (∃ x_ : Int, u_ = .int .i64 x_ ∧ 0 ≤ x_ ∧ x_ < 2) ∧ p_ = curE g a len cap) (vf 8) pm_) := hR 8 (by decide)
     obtain ⟨p88, pE8, hR89⟩ := e8
     obtain ⟨v87, vE8⟩ : ∃ x, vf 8 = x := ⟨_, rfl⟩
     rw [vE8] at hR89
     obtain ⟨⟨xhR89, rfl, xhR890, xhR891⟩, rfl⟩ := hR89
     have e9 : (vf 9) = .agg #[.int .i64 3, .int .i64 (A.getD (((intOf_o (vf 4))).toNat) 0), .int .i64 (intOf_o (vf 8))] ∧ (pf 9) = [] := hR 9 (by decide)
     rw [vE4, vE8] at e9; try simp only [intOf_o] at e9
     refine dqQ [8, 9] [4, 8, 9] rfl (zcm (sk 46 (congrArg some e9.1) (zai _)) (by simp only [pE8, vE8, e9.2, fS] <;> rfl) ?_)
     exact zck (zak (z := .agg #[.int .i64 0, .int .i64 0, .int .i64 0]) (s := 3) (cs := ([3, A.getD ((xhR86).toNat) 0, xhR89].map (Value.int .i64))) rfl Try.underlying71 rfl (by decide) rfl (by kernel_rfl) rfl) (fun v_ p_ h => by show IsRow 97 3 1 ([3, A.getD (((intOf_o (vf 4))).toNat) 0, (intOf_o (vf 8))].map (Value.int .i64)) v_ p_; rw [vE4, vE8]; exact h)
    intro vf pf hmu hR
    have e4 : (∃ pm_, (pf 4) = [pm_] ∧ (fun u_ p_ => (∃ x_ : Int, u_ = .int .i64 x_ ∧ 0 ≤ x_ ∧ x_ < (A.length : Int)) ∧ p_ = curE g a len cap) (vf 4) pm_) := hR 4 (by decide)
    obtain ⟨p85, pE4, hR86⟩ := e4
    obtain ⟨v84, vE4⟩ : ∃ x, vf 4 = x := ⟨_, rfl⟩
    rw [vE4] at hR86
    obtain ⟨⟨xhR86, rfl, xhR860, xhR861⟩, rfl⟩ := hR86
    have e8 : (∃ pm_, (pf 8) = [pm_] ∧ (fun u_ p_ => (∃ x_ : Int, u_ = .int .i64 x_ ∧ 0 ≤ x_ ∧ x_ < 2) ∧ p_ = curE g a len cap) (vf 8) pm_) := hR 8 (by decide)
    obtain ⟨p88, pE8, hR89⟩ := e8
    obtain ⟨v87, vE8⟩ : ∃ x, vf 8 = x := ⟨_, rfl⟩
    rw [vE8] at hR89
    obtain ⟨⟨xhR89, rfl, xhR890, xhR891⟩, rfl⟩ := hR89
    have e10 : IsRow 97 3 1 ([3, A.getD (((intOf_o (vf 4))).toNat) 0, (intOf_o (vf 8))].map (Value.int .i64)) (vf 10) (pf 10) := hR 10 (by decide)
    rw [vE4, vE8] at e10; try simp only [intOf_o] at e10
    obtain ⟨g90, vE10, pE10⟩ := e10
    have q0 := hR 0 (by decide)
    have q1 := hR 1 (by decide)
    have q2 := hR 2 (by decide)
    have q3 := hR 3 (by decide)
    have q5 := hR 5 (by decide)
    have q6 := hR 6 (by decide)
    have q7 := hR 7 (by decide)
    have q9 := hR 9 (by decide)
    refine zdf (zci [36, 31, 25, 19, 18, 16, 6, 2, 1, 0] _ (sk 47 (congrArg some vE10) (zai _)) rfl) (by simp only [pE8, vE8, pE10, vE10, q0.2, q1.2, q2.2, q3.2, q5.2, q6.2, q7.2, q9.2, fS] <;> rfl) ?_
    simp only [List.drop_succ_cons, List.drop_zero]
    refine zay 1 rfl ?_
    refine zao (zad ?_)
    refine zdv ?_
    have hA8 := hA _ (zbw (d := (0 : Int)) (show xhR86.toNat < A.length by omega))
    refine zbn 2 [1, 0] rfl rfl (by decide) ?_
    refine zcd 2 rfl ?_
    exact zcx (rs := [.tmp 6]) (vs := [.slice (some ⟨g90, 0, none⟩) 1 1]) rfl ⟨rfl, trivial⟩ rfl (fun w hm => ⟨_, bigE [curE g a len cap, rowE 97 3 (.slice (some ⟨g90, 0, none⟩) 1 1) 1 ([3, A.getD ((xhR86).toNat) 0, xhR89].map (Value.int .i64))], rfl, ⟨[Oq.mk 3 (A.getD ((xhR86).toNat) 0) xhR89], rfl, zdg (by first | exact .inl ⟨rfl, ⟨by dsimp only; omega, by dsimp only; omega⟩, rfl⟩ | exact .inr (.inl ⟨rfl, ⟨by dsimp only; omega, by dsimp only; omega⟩, rfl⟩) | exact .inr (.inr (.inl ⟨rfl, ⟨by dsimp only; omega, by dsimp only; omega⟩, by dsimp only; omega, by dsimp only; omega⟩)) | exact .inr (.inr (.inr ⟨by decide, by decide, by decide, by decide, rfl, rfl⟩))) rfl (by omega)⟩, hm.sub (.refl _)⟩)
   refine ntQ (fsQ rfl (zdh (zag (zag (reQ 1 rfl ?_)))))
   refine hvQ rfl (lnQ rfl rfl rfl (fun w hm => hu w (hm.sub (.cons _ (.refl _))))) (zbu rfl rfl rfl rfl rfl rfl (fun h91 => ?_) (fun h91 => ?_))
   ·
    refine ntQ (zah rfl (srQ (hvQ rfl (zbk (cs := #[.int .i64 0, .int .i64 1, .int .i64 0]) rfl rfl rfl) ?_)))
    refine zea rfl (zak (z := .agg #[.int .i64 0, .int .i64 0, .int .i64 0]) (s := 3) (cs := ([0, 1, 0].map (Value.int .i64))) rfl Try.underlying71 rfl (by decide) rfl (by kernel_rfl) rfl) ?_
    intro g92
    refine zay 1 rfl ?_
    refine zao (zdv ?_)
    refine zbn 2 [0, 1] rfl rfl (by decide) ?_
    refine zcd 2 rfl ?_
    exact zcx (rs := [.tmp 6]) (vs := [.slice (some ⟨g92, 0, none⟩) 1 1]) rfl ⟨rfl, trivial⟩ rfl (fun w hm => ⟨_, bigE [curE g a len cap, rowE 97 3 (.slice (some ⟨g92, 0, none⟩) 1 1) 1 ([0, 1, 0].map (Value.int .i64))], rfl, ⟨[Oq.mk 0 1 0], rfl, zdg (by first | exact .inl ⟨rfl, ⟨by dsimp only; omega, by dsimp only; omega⟩, rfl⟩ | exact .inr (.inl ⟨rfl, ⟨by dsimp only; omega, by dsimp only; omega⟩, rfl⟩) | exact .inr (.inr (.inl ⟨rfl, ⟨by dsimp only; omega, by dsimp only; omega⟩, by dsimp only; omega, by dsimp only; omega⟩)) | exact .inr (.inr (.inr ⟨by decide, by decide, by decide, by decide, rfl, rfl⟩))) rfl (by omega)⟩, hm.sub (.refl _)⟩)
   refine ntQ (zap rfl (zcv (zag (reQ 3 rfl ?_))))
   refine hvQ rfl (lnQ rfl rfl rfl (fun w hm => hu w (hm.sub (.cons _ (.refl _))))) (zcg (R := (fun u_ p_ => (∃ x_ : Int, u_ = .int .i64 x_ ∧ 0 ≤ x_ ∧ x_ < (A.length : Int)) ∧ p_ = curE g a len cap)) 0 rfl rfl rfl rfl rfl (fun l' w hm => zby g a len cap z (A.length : Int) _ _ _ hm hb (by constructor <;> omega)) ?_)
   intro v93 p94 hR95
   obtain ⟨⟨xhR95, rfl, xhR950, xhR951⟩, rfl⟩ := hR95
   refine zcl (l' := (curE g a len cap :: l)) rfl ?_
   refine hvQ rfl (riQ 1 rfl rfl rfl rfl (fun w hm => hu w (hm.sub (.cons _ (.refl _))))) (hvQ rfl (lzQ rfl rfl rfl (fun w hm => hu w (hm.sub (.cons _ (.refl _))))) ?_)
   refine hvQ rfl (zbk (cs := #[.int .i64 2, .int .i64 (A.getD ((xhR95).toNat) 0), .int .i64 0]) rfl rfl rfl) (zea rfl (zak (z := .agg #[.int .i64 0, .int .i64 0, .int .i64 0]) (s := 3) (cs := ([2, A.getD ((xhR95).toNat) 0, 0].map (Value.int .i64))) rfl Try.underlying71 rfl (by decide) rfl (by kernel_rfl) rfl) ?_)
   intro g96
   refine zay 1 rfl ?_
   refine zao (zae ?_)
   have hA8 := hA _ (zbw (d := (0 : Int)) (show xhR95.toNat < A.length by omega))
   refine zbn 2 [0, 1] rfl rfl (by decide) ?_
   refine zcd 2 rfl ?_
   exact zcx (rs := [.tmp 6]) (vs := [.slice (some ⟨g96, 0, none⟩) 1 1]) rfl ⟨rfl, trivial⟩ rfl (fun w hm => ⟨_, bigE [curE g a len cap, rowE 97 3 (.slice (some ⟨g96, 0, none⟩) 1 1) 1 ([2, A.getD ((xhR95).toNat) 0, 0].map (Value.int .i64))], rfl, ⟨[Oq.mk 2 (A.getD ((xhR95).toNat) 0) 0], rfl, zdg (by first | exact .inl ⟨rfl, ⟨by dsimp only; omega, by dsimp only; omega⟩, rfl⟩ | exact .inr (.inl ⟨rfl, ⟨by dsimp only; omega, by dsimp only; omega⟩, rfl⟩) | exact .inr (.inr (.inl ⟨rfl, ⟨by dsimp only; omega, by dsimp only; omega⟩, by dsimp only; omega, by dsimp only; omega⟩)) | exact .inr (.inr (.inr ⟨by decide, by decide, by decide, by decide, rfl, rfl⟩))) rfl (by omega)⟩, hm.sub (.refl _)⟩)
  refine zay 1 rfl (zap rfl (zas ?_))
  refine zbu rfl rfl rfl rfl rfl rfl (fun h97 => ?_) (fun h97 => ?_)
  ·
   refine zay 1 rfl (zah rfl (zag (reQ 1 rfl ?_)))
   refine hvQ rfl (lnQ rfl rfl rfl (fun w hm => hu w (hm.sub (.cons _ (.refl _))))) (zdr rfl rfl rfl rfl rfl rfl (fun h98 => ?_) (fun h98 => ?_))
   ·
    refine ntQ (zah rfl (zag ?_))
    refine zez (l := (l)) rfl 11 [0, 1, 2, 3, 4, 5, 6, 7, 8, 9, 10] (List.take 11 _) (List.drop 11 _) [[], [], [], [2], [1, 3], [0, 4], [4, 5], [], [4, 7], [4, 6, 8], [4, 8, 9]] [37, 38, 39, 40, 41, 42, 43, 44, 45, 46, 47] (fun i_ vs_ v_ p_ => match i_ with | 0 => v_ = u ∧ p_ = [] | 1 => v_ = .pointer (some ⟨g, 0, none⟩) ∧ p_ = [] | 2 => v_ = u ∧ p_ = [] | 3 => v_ = .int .i64 (A.length : Int) ∧ p_ = [] | 4 => (∃ pm_, p_ = [pm_] ∧ (fun u_ p_ => (∃ x_ : Int, u_ = .int .i64 x_ ∧ 0 ≤ x_ ∧ x_ < (A.length : Int)) ∧ p_ = curE g a len cap) v_ pm_) | 5 => v_ = elP u (((intOf_o (List.getD vs_ 1 undef))).toNat * 1) ∧ p_ = [] | 6 => v_ = .int .i64 (A.getD (((intOf_o (List.getD vs_ 0 undef))).toNat) 0) ∧ p_ = [] | 7 => v_ = .pointer (some ⟨g, 0, none⟩) ∧ p_ = [] | 8 => (∃ pm_, p_ = [pm_] ∧ (fun u_ p_ => (∃ x_ : Int, u_ = .int .i64 x_ ∧ 0 ≤ x_ ∧ x_ < 2) ∧ p_ = curE g a len cap) v_ pm_) | 9 => v_ = .agg #[.int .i64 3, .int .i64 (A.getD (((intOf_o (List.getD vs_ 0 undef))).toNat) 0), .int .i64 (intOf_o (List.getD vs_ 2 undef))] ∧ p_ = [] | 10 => IsRow 97 3 1 ([3, A.getD (((intOf_o (List.getD vs_ 0 undef))).toNat) 0, (intOf_o (List.getD vs_ 1 undef))].map (Value.int .i64)) v_ p_ | _ => True) [[], [], [], [2], [1, 3], [0], [5], [], [7], [6, 8], [8, 9]] [none, none, none, none, some 12, none, none, none, some 4, none, none] [curE g a len cap] [0, 1, 2, 3, 5, 6, 7, 8, 9, 10] 12 (List.take_append_drop 11 _).symm (by kernel_rfl) (by kernel_rfl) (by kernel_rfl) rfl rfl ?_ ?_
    ·
     refine ⟨?_, ?_, ?_, ?_, ?_, ?_, ?_, ?_, ?_, ?_, ?_, trivial⟩
     ·
      intro vf pf hmu hR
      refine dqQ [] [] rfl (zbo (zar [1] rfl) ?_)
      exact zbt (zau rfl)
     ·
      intro vf pf hmu hR
      refine dqQ [] [] rfl (zbo (zar [0] rfl) ?_)
      exact zbt (zau rfl)
     ·
      intro vf pf hmu hR
      refine dqQ [] [] rfl (zbo (zar [1] rfl) ?_)
      exact zbt (zau rfl)
     ·
      intro vf pf hmu hR
      have e2 := hR 2 (by decide)
      refine dqQ [2] [2] rfl (zbe (sk 39 (congrArg some e2.1) (zai _)) (List.sublist_append_right _ _) ?_)
      exact zbt (lnQ rfl rfl rfl (fun w hm => hu w (hm.sub (.refl _))))
     ·
      intro vf pf hmu hR
      have e1 := hR 1 (by decide)
      have e3 := hR 3 (by decide)
      refine Or.inl ⟨rfl, ?_⟩
      show RunM _ _ _ (pf 12) (([1, 3] : List Nat).flatMap pf ++ _) (envOf _ vf [1, 3] ++ _) _ _
      rw [hmu]
      exact zda (sk 38 (congrArg some e1.1) (sk 40 (congrArg some e3.1) (zai _))) (by simp only [e1.2, e3.2, fS] <;> rfl) (zdp (R := (fun u_ p_ => (∃ x_ : Int, u_ = .int .i64 x_ ∧ 0 ≤ x_ ∧ x_ < (A.length : Int)) ∧ p_ = curE g a len cap)) rfl rfl (fun L w hX hm => zby g a len cap z (A.length : Int) _ _ _ hm hb (by constructor <;> omega)))
     ·
      intro vf pf hmu hR
      have e0 := hR 0 (by decide)
      have e4 : (∃ pm_, (pf 4) = [pm_] ∧ (fun u_ p_ => (∃ x_ : Int, u_ = .int .i64 x_ ∧ 0 ≤ x_ ∧ x_ < (A.length : Int)) ∧ p_ = curE g a len cap) (vf 4) pm_) := hR 4 (by decide)
      obtain ⟨p100, pE4, hR101⟩ := e4
      obtain ⟨v99, vE4⟩ : ∃ x, vf 4 = x := ⟨_, rfl⟩
      rw [vE4] at hR101
      obtain ⟨⟨xhR101, rfl, xhR1010, xhR1011⟩, rfl⟩ := hR101
      refine dqQ [0] [0, 4] rfl (zbe (sk 37 (congrArg some e0.1) (sk 41 (congrArg some vE4) (zai _))) (List.sublist_append_right _ _) ?_)
      exact zck (zbt (riQ 1 rfl rfl rfl rfl (fun w hm => hu w (hm.sub (.refl _))))) (fun _ _ h => ⟨h.1.trans (by show _ = (elP u (((intOf_o (vf 4))).toNat * 1) : Value); first | (rw [vE4]; done) | (rw [vE4]; rfl)), h.2⟩)
     ·
      intro vf pf hmu hR
      have e4 : (∃ pm_, (pf 4) = [pm_] ∧ (fun u_ p_ => (∃ x_ : Int, u_ = .int .i64 x_ ∧ 0 ≤ x_ ∧ x_ < (A.length : Int)) ∧ p_ = curE g a len cap) (vf 4) pm_) := hR 4 (by decide)
      obtain ⟨p100, pE4, hR101⟩ := e4
      obtain ⟨v99, vE4⟩ : ∃ x, vf 4 = x := ⟨_, rfl⟩
      rw [vE4] at hR101
      obtain ⟨⟨xhR101, rfl, xhR1010, xhR1011⟩, rfl⟩ := hR101
      have e5 : (vf 5) = elP u (((intOf_o (vf 4))).toNat * 1) ∧ (pf 5) = [] := hR 5 (by decide)
      rw [vE4] at e5; try simp only [intOf_o] at e5
      refine dqQ [5] [4, 5] rfl (zbe (sk 42 (congrArg some e5.1) (zai _)) (List.sublist_append_right _ _) ?_)
      exact zck (zbt (lzQ rfl rfl rfl (fun w hm => hu w (hm.sub (.refl _))))) (fun _ _ h => ⟨h.1.trans (by show _ = (.int .i64 (A.getD (((intOf_o (vf 4))).toNat) 0) : Value); first | (rw [vE4]; done) | (rw [vE4]; rfl)), h.2⟩)
     ·
      intro vf pf hmu hR
      refine dqQ [] [] rfl (zbo (zar [0] rfl) ?_)
      exact zbt (zau rfl)
     ·
      intro vf pf hmu hR
      have e4 : (∃ pm_, (pf 4) = [pm_] ∧ (fun u_ p_ => (∃ x_ : Int, u_ = .int .i64 x_ ∧ 0 ≤ x_ ∧ x_ < (A.length : Int)) ∧ p_ = curE g a len cap) (vf 4) pm_) := hR 4 (by decide)
      obtain ⟨p100, pE4, hR101⟩ := e4
      obtain ⟨v99, vE4⟩ : ∃ x, vf 4 = x := ⟨_, rfl⟩
      rw [vE4] at hR101
      obtain ⟨⟨xhR101, rfl, xhR1010, xhR1011⟩, rfl⟩ := hR101
      have e7 := hR 7 (by decide)
      refine Or.inl ⟨rfl, ?_⟩
      show RunM _ _ _ (pf 4) (([7] : List Nat).flatMap pf ++ _) (envOf _ vf [4, 7] ++ _) _ _
      rw [pE4]
      exact zda (sk 44 (congrArg some e7.1) (zai _)) (by simp only [e7.2, fS] <;> rfl) (zdp (R := (fun u_ p_ => (∃ x_ : Int, u_ = .int .i64 x_ ∧ 0 ≤ x_ ∧ x_ < 2) ∧ p_ = curE g a len cap)) rfl rfl (fun L w hX hm => zby g a len cap z 2 _ _ _ hm hb (by constructor <;> omega)))
     ·
      intro vf pf hmu hR
      have e4 : (∃ pm_, (pf 4) = [pm_] ∧ (fun u_ p_ => (∃ x_ : Int, u_ = .int .i64 x_ ∧ 0 ≤ x_ ∧ x_ < (A.length : Int)) ∧ p_ = curE g a len cap) (vf 4) pm_) := hR 4 (by decide)
      obtain ⟨p100, pE4, hR101⟩ := e4
      obtain ⟨v99, vE4⟩ : ∃ x, vf 4 = x := ⟨_, rfl⟩
      rw [vE4] at hR101
      obtain ⟨⟨xhR101, rfl, xhR1010, xhR1011⟩, rfl⟩ := hR101
      have e6 : (vf 6) = .int .i64 (A.getD (((intOf_o (vf 4))).toNat) 0) ∧ (pf 6) = [] := hR 6 (by decide)
      rw [vE4] at e6; try simp only [intOf_o] at e6
      have e8 : (∃ pm_, (pf 8) = [pm_] ∧ (fun u_ p_ => (∃ x_ : Int, u_ = .int .i64 x_ ∧ 0 ≤ x_ ∧ x_ < 2) ∧ p_ = curE g a len cap) (vf 8) pm_) := hR 8 (by decide)
      obtain ⟨p103, pE8, hR104⟩ := e8
      obtain ⟨v102, vE8⟩ : ∃ x, vf 8 = x := ⟨_, rfl⟩
      rw [vE8] at hR104
      obtain ⟨⟨xhR104, rfl, xhR1040, xhR1041⟩, rfl⟩ := hR104
      refine dqQ [6, 8] [4, 6, 8] rfl (zcm (sk 43 (congrArg some e6.1) (sk 45 (congrArg some vE8) (zai _))) (by simp only [pE8, vE8, e6.2, fS] <;> rfl) ?_)
      exact zck (zbt (zbk (cs := #[.int .i64 3, .int .i64 (A.getD ((xhR101).toNat) 0), .int .i64 xhR104]) rfl rfl rfl)) (fun _ _ h => ⟨h.1.trans (by show _ = (.agg #[.int .i64 3, .int .i64 (A.getD (((intOf_o (vf 4))).toNat) 0), .int .i64 (intOf_o (vf 8))] : Value); first | (rw [vE4, vE8]; done) | (rw [vE4, vE8]; rfl)), h.2⟩)
     intro vf pf hmu hR
     have e4 : (∃ pm_, (pf 4) = [pm_] ∧ (fun u_ p_ => (∃ x_ : Int, u_ = .int .i64 x_ ∧ 0 ≤ x_ ∧ x_ < (A.length : Int)) ∧ p_ = curE g a len cap) (vf 4) pm_) := hR 4 (by decide)
     obtain ⟨p100, pE4, hR101⟩ := e4
     obtain ⟨v99, vE4⟩ : ∃ x, vf 4 = x := ⟨_, rfl⟩
     rw [vE4] at hR101
     obtain ⟨⟨xhR101, rfl, xhR1010, xhR1011⟩, rfl⟩ := hR101
     have e8 : (∃ pm_, (pf 8) = [pm_] ∧ (fun u_ p_ => (∃ x_ : Int, u_ = .int .i64 x_ ∧ 0 ≤ x_ ∧ x_ < 2) ∧ p_ = curE g a len cap) (vf 8) pm_) := hR 8 (by decide)
     obtain ⟨p103, pE8, hR104⟩ := e8
     obtain ⟨v102, vE8⟩ : ∃ x, vf 8 = x := ⟨_, rfl⟩
     rw [vE8] at hR104
     obtain ⟨⟨xhR104, rfl, xhR1040, xhR1041⟩, rfl⟩ := hR104
     have e9 : (vf 9) = .agg #[.int .i64 3, .int .i64 (A.getD (((intOf_o (vf 4))).toNat) 0), .int .i64 (intOf_o (vf 8))] ∧ (pf 9) = [] := hR 9 (by decide)
     rw [vE4, vE8] at e9; try simp only [intOf_o] at e9
     refine dqQ [8, 9] [4, 8, 9] rfl (zcm (sk 46 (congrArg some e9.1) (zai _)) (by simp only [pE8, vE8, e9.2, fS] <;> rfl) ?_)
     exact zck (zak (z := .agg #[.int .i64 0, .int .i64 0, .int .i64 0]) (s := 3) (cs := ([3, A.getD ((xhR101).toNat) 0, xhR104].map (Value.int .i64))) rfl Try.underlying71 rfl (by decide) rfl (by kernel_rfl) rfl) (fun v_ p_ h => by show IsRow 97 3 1 ([3, A.getD (((intOf_o (vf 4))).toNat) 0, (intOf_o (vf 8))].map (Value.int .i64)) v_ p_; rw [vE4, vE8]; exact h)
    intro vf pf hmu hR
    have e4 : (∃ pm_, (pf 4) = [pm_] ∧ (fun u_ p_ => (∃ x_ : Int, u_ = .int .i64 x_ ∧ 0 ≤ x_ ∧ x_ < (A.length : Int)) ∧ p_ = curE g a len cap) (vf 4) pm_) := hR 4 (by decide)
    obtain ⟨p100, pE4, hR101⟩ := e4
    obtain ⟨v99, vE4⟩ : ∃ x, vf 4 = x := ⟨_, rfl⟩
    rw [vE4] at hR101
    obtain ⟨⟨xhR101, rfl, xhR1010, xhR1011⟩, rfl⟩ := hR101
    have e8 : (∃ pm_, (pf 8) = [pm_] ∧ (fun u_ p_ => (∃ x_ : Int, u_ = .int .i64 x_ ∧ 0 ≤ x_ ∧ x_ < 2) ∧ p_ = curE g a len cap) (vf 8) pm_) := hR 8 (by decide)
    obtain ⟨p103, pE8, hR104⟩ := e8
    obtain ⟨v102, vE8⟩ : ∃ x, vf 8 = x := ⟨_, rfl⟩
    rw [vE8] at hR104
    obtain ⟨⟨xhR104, rfl, xhR1040, xhR1041⟩, rfl⟩ := hR104
    have e10 : IsRow 97 3 1 ([3, A.getD (((intOf_o (vf 4))).toNat) 0, (intOf_o (vf 8))].map (Value.int .i64)) (vf 10) (pf 10) := hR 10 (by decide)
    rw [vE4, vE8] at e10; try simp only [intOf_o] at e10
    obtain ⟨g105, vE10, pE10⟩ := e10
    have q0 := hR 0 (by decide)
    have q1 := hR 1 (by decide)
    have q2 := hR 2 (by decide)
    have q3 := hR 3 (by decide)
    have q5 := hR 5 (by decide)
    have q6 := hR 6 (by decide)
    have q7 := hR 7 (by decide)
    have q9 := hR 9 (by decide)
    refine zdf (zci [36, 31, 25, 19, 18, 16, 6, 2, 1, 0] _ (sk 47 (congrArg some vE10) (zai _)) rfl) (by simp only [pE8, vE8, pE10, vE10, q0.2, q1.2, q2.2, q3.2, q5.2, q6.2, q7.2, q9.2, fS] <;> rfl) ?_
    simp only [List.drop_succ_cons, List.drop_zero]
    refine zay 1 rfl ?_
    refine zao (zad ?_)
    refine zdv ?_
    have hA8 := hA _ (zbw (d := (0 : Int)) (show xhR101.toNat < A.length by omega))
    refine zbn 2 [1, 0] rfl rfl (by decide) ?_
    refine zcd 2 rfl ?_
    exact zcx (rs := [.tmp 6]) (vs := [.slice (some ⟨g105, 0, none⟩) 1 1]) rfl ⟨rfl, trivial⟩ rfl (fun w hm => ⟨_, bigE [curE g a len cap, rowE 97 3 (.slice (some ⟨g105, 0, none⟩) 1 1) 1 ([3, A.getD ((xhR101).toNat) 0, xhR104].map (Value.int .i64))], rfl, ⟨[Oq.mk 3 (A.getD ((xhR101).toNat) 0) xhR104], rfl, zdg (by first | exact .inl ⟨rfl, ⟨by dsimp only; omega, by dsimp only; omega⟩, rfl⟩ | exact .inr (.inl ⟨rfl, ⟨by dsimp only; omega, by dsimp only; omega⟩, rfl⟩) | exact .inr (.inr (.inl ⟨rfl, ⟨by dsimp only; omega, by dsimp only; omega⟩, by dsimp only; omega, by dsimp only; omega⟩)) | exact .inr (.inr (.inr ⟨by decide, by decide, by decide, by decide, rfl, rfl⟩))) rfl (by omega)⟩, hm.sub (.refl _)⟩)
   refine ntQ (fsQ rfl (zdh (zag (zag (reQ 1 rfl ?_)))))
   refine hvQ rfl (lnQ rfl rfl rfl (fun w hm => hu w (hm.sub (.cons _ (.refl _))))) (zbu rfl rfl rfl rfl rfl rfl (fun h106 => ?_) (fun h106 => ?_))
   ·
    refine ntQ (zah rfl (srQ (hvQ rfl (zbk (cs := #[.int .i64 0, .int .i64 1, .int .i64 0]) rfl rfl rfl) ?_)))
    refine zea rfl (zak (z := .agg #[.int .i64 0, .int .i64 0, .int .i64 0]) (s := 3) (cs := ([0, 1, 0].map (Value.int .i64))) rfl Try.underlying71 rfl (by decide) rfl (by kernel_rfl) rfl) ?_
    intro g107
    refine zay 1 rfl ?_
    refine zao (zdv ?_)
    refine zbn 2 [0, 1] rfl rfl (by decide) ?_
    refine zcd 2 rfl ?_
    exact zcx (rs := [.tmp 6]) (vs := [.slice (some ⟨g107, 0, none⟩) 1 1]) rfl ⟨rfl, trivial⟩ rfl (fun w hm => ⟨_, bigE [curE g a len cap, rowE 97 3 (.slice (some ⟨g107, 0, none⟩) 1 1) 1 ([0, 1, 0].map (Value.int .i64))], rfl, ⟨[Oq.mk 0 1 0], rfl, zdg (by first | exact .inl ⟨rfl, ⟨by dsimp only; omega, by dsimp only; omega⟩, rfl⟩ | exact .inr (.inl ⟨rfl, ⟨by dsimp only; omega, by dsimp only; omega⟩, rfl⟩) | exact .inr (.inr (.inl ⟨rfl, ⟨by dsimp only; omega, by dsimp only; omega⟩, by dsimp only; omega, by dsimp only; omega⟩)) | exact .inr (.inr (.inr ⟨by decide, by decide, by decide, by decide, rfl, rfl⟩))) rfl (by omega)⟩, hm.sub (.refl _)⟩)
   refine ntQ (zap rfl (zcv (zag (reQ 3 rfl ?_))))
   refine hvQ rfl (lnQ rfl rfl rfl (fun w hm => hu w (hm.sub (.cons _ (.refl _))))) (zcg (R := (fun u_ p_ => (∃ x_ : Int, u_ = .int .i64 x_ ∧ 0 ≤ x_ ∧ x_ < (A.length : Int)) ∧ p_ = curE g a len cap)) 0 rfl rfl rfl rfl rfl (fun l' w hm => zby g a len cap z (A.length : Int) _ _ _ hm hb (by constructor <;> omega)) ?_)
   intro v108 p109 hR110
   obtain ⟨⟨xhR110, rfl, xhR1100, xhR1101⟩, rfl⟩ := hR110
   refine zcl (l' := (curE g a len cap :: l)) rfl ?_
   refine hvQ rfl (riQ 1 rfl rfl rfl rfl (fun w hm => hu w (hm.sub (.cons _ (.refl _))))) (hvQ rfl (lzQ rfl rfl rfl (fun w hm => hu w (hm.sub (.cons _ (.refl _))))) ?_)
   refine hvQ rfl (zbk (cs := #[.int .i64 2, .int .i64 (A.getD ((xhR110).toNat) 0), .int .i64 0]) rfl rfl rfl) (zea rfl (zak (z := .agg #[.int .i64 0, .int .i64 0, .int .i64 0]) (s := 3) (cs := ([2, A.getD ((xhR110).toNat) 0, 0].map (Value.int .i64))) rfl Try.underlying71 rfl (by decide) rfl (by kernel_rfl) rfl) ?_)
   intro g111
   refine zay 1 rfl ?_
   refine zao (zae ?_)
   have hA8 := hA _ (zbw (d := (0 : Int)) (show xhR110.toNat < A.length by omega))
   refine zbn 2 [0, 1] rfl rfl (by decide) ?_
   refine zcd 2 rfl ?_
   exact zcx (rs := [.tmp 6]) (vs := [.slice (some ⟨g111, 0, none⟩) 1 1]) rfl ⟨rfl, trivial⟩ rfl (fun w hm => ⟨_, bigE [curE g a len cap, rowE 97 3 (.slice (some ⟨g111, 0, none⟩) 1 1) 1 ([2, A.getD ((xhR110).toNat) 0, 0].map (Value.int .i64))], rfl, ⟨[Oq.mk 2 (A.getD ((xhR110).toNat) 0) 0], rfl, zdg (by first | exact .inl ⟨rfl, ⟨by dsimp only; omega, by dsimp only; omega⟩, rfl⟩ | exact .inr (.inl ⟨rfl, ⟨by dsimp only; omega, by dsimp only; omega⟩, rfl⟩) | exact .inr (.inr (.inl ⟨rfl, ⟨by dsimp only; omega, by dsimp only; omega⟩, by dsimp only; omega, by dsimp only; omega⟩)) | exact .inr (.inr (.inr ⟨by decide, by decide, by decide, by decide, rfl, rfl⟩))) rfl (by omega)⟩, hm.sub (.refl _)⟩)
  refine zay 1 rfl (fsQ rfl (zdh (zag (zag (reQ 1 rfl ?_)))))
  refine hvQ rfl (lnQ rfl rfl rfl (fun w hm => hu w (hm.sub (.cons _ (.refl _))))) (zbu rfl rfl rfl rfl rfl rfl (fun h112 => ?_) (fun h112 => ?_))
  ·
   refine ntQ (zah rfl (srQ (hvQ rfl (zbk (cs := #[.int .i64 0, .int .i64 1, .int .i64 0]) rfl rfl rfl) ?_)))
   refine zea rfl (zak (z := .agg #[.int .i64 0, .int .i64 0, .int .i64 0]) (s := 3) (cs := ([0, 1, 0].map (Value.int .i64))) rfl Try.underlying71 rfl (by decide) rfl (by kernel_rfl) rfl) ?_
   intro g113
   refine zay 1 rfl ?_
   refine zao (zdv ?_)
   refine zbn 2 [0, 1] rfl rfl (by decide) ?_
   refine zcd 2 rfl ?_
   exact zcx (rs := [.tmp 6]) (vs := [.slice (some ⟨g113, 0, none⟩) 1 1]) rfl ⟨rfl, trivial⟩ rfl (fun w hm => ⟨_, bigE [curE g a len cap, rowE 97 3 (.slice (some ⟨g113, 0, none⟩) 1 1) 1 ([0, 1, 0].map (Value.int .i64))], rfl, ⟨[Oq.mk 0 1 0], rfl, zdg (by first | exact .inl ⟨rfl, ⟨by dsimp only; omega, by dsimp only; omega⟩, rfl⟩ | exact .inr (.inl ⟨rfl, ⟨by dsimp only; omega, by dsimp only; omega⟩, rfl⟩) | exact .inr (.inr (.inl ⟨rfl, ⟨by dsimp only; omega, by dsimp only; omega⟩, by dsimp only; omega, by dsimp only; omega⟩)) | exact .inr (.inr (.inr ⟨by decide, by decide, by decide, by decide, rfl, rfl⟩))) rfl (by omega)⟩, hm.sub (.refl _)⟩)
  refine ntQ (zap rfl (zcv (zag (reQ 3 rfl ?_))))
  refine hvQ rfl (lnQ rfl rfl rfl (fun w hm => hu w (hm.sub (.cons _ (.refl _))))) (zcg (R := (fun u_ p_ => (∃ x_ : Int, u_ = .int .i64 x_ ∧ 0 ≤ x_ ∧ x_ < (A.length : Int)) ∧ p_ = curE g a len cap)) 0 rfl rfl rfl rfl rfl (fun l' w hm => zby g a len cap z (A.length : Int) _ _ _ hm hb (by constructor <;> omega)) ?_)
  intro v114 p115 hR116
  obtain ⟨⟨xhR116, rfl, xhR1160, xhR1161⟩, rfl⟩ := hR116
  refine zcl (l' := (curE g a len cap :: l)) rfl ?_
  refine hvQ rfl (riQ 1 rfl rfl rfl rfl (fun w hm => hu w (hm.sub (.cons _ (.refl _))))) (hvQ rfl (lzQ rfl rfl rfl (fun w hm => hu w (hm.sub (.cons _ (.refl _))))) ?_)
  refine hvQ rfl (zbk (cs := #[.int .i64 2, .int .i64 (A.getD ((xhR116).toNat) 0), .int .i64 0]) rfl rfl rfl) (zea rfl (zak (z := .agg #[.int .i64 0, .int .i64 0, .int .i64 0]) (s := 3) (cs := ([2, A.getD ((xhR116).toNat) 0, 0].map (Value.int .i64))) rfl Try.underlying71 rfl (by decide) rfl (by kernel_rfl) rfl) ?_)
  intro g117
  refine zay 1 rfl ?_
  refine zao (zae ?_)
  have hA8 := hA _ (zbw (d := (0 : Int)) (show xhR116.toNat < A.length by omega))
  refine zbn 2 [0, 1] rfl rfl (by decide) ?_
  refine zcd 2 rfl ?_
  exact zcx (rs := [.tmp 6]) (vs := [.slice (some ⟨g117, 0, none⟩) 1 1]) rfl ⟨rfl, trivial⟩ rfl (fun w hm => ⟨_, bigE [curE g a len cap, rowE 97 3 (.slice (some ⟨g117, 0, none⟩) 1 1) 1 ([2, A.getD ((xhR116).toNat) 0, 0].map (Value.int .i64))], rfl, ⟨[Oq.mk 2 (A.getD ((xhR116).toNat) 0) 0], rfl, zdg (by first | exact .inl ⟨rfl, ⟨by dsimp only; omega, by dsimp only; omega⟩, rfl⟩ | exact .inr (.inl ⟨rfl, ⟨by dsimp only; omega, by dsimp only; omega⟩, rfl⟩) | exact .inr (.inr (.inl ⟨rfl, ⟨by dsimp only; omega, by dsimp only; omega⟩, by dsimp only; omega, by dsimp only; omega⟩)) | exact .inr (.inr (.inr ⟨by decide, by decide, by decide, by decide, rfl, rfl⟩))) rfl (by omega)⟩, hm.sub (.refl _)⟩)
 refine zay 1 rfl (zap rfl (zcv (zag (reQ 1 rfl ?_))))
 refine zea rfl (zak (z := .int .i64 0) (s := 1) (cs := ([4, 5, 6, 7, 8, 9, 10, 11, 12, 7, 12].map (Value.int .i64))) rfl Try.underlying48 rfl (by decide) rfl (by kernel_rfl) rfl) ?_
 intro g118
 refine zds (R := (fun u_ p_ => (∃ x : Int, u_ = .int .i64 x ∧ x ∈ ([4, 5, 6, 7, 8, 9, 10, 11, 12, 7, 12] : List Int)) ∧ p_ = curE g a len cap)) 1 rfl rfl rfl rfl rfl (fun L w hX hm => zdy g a len cap z (.slice (some ⟨g118, 0, none⟩) 11 11) [4, 5, 6, 7, 8, 9, 10, 11, 12, 7, 12] _ _ _ hm hb (fun w hm => (zaj (l := (rowE 3 1 (.slice (some ⟨g118, 0, none⟩) 11 11) 11 ([4, 5, 6, 7, 8, 9, 10, 11, 12, 7, 12].map (Value.int .i64)) :: l)) 0 rfl) w (hX w hm)) (by decide)) ?_
 intro v119 p120 hR121
 obtain ⟨⟨xhR121, rfl, xhR121m⟩, rfl⟩ := hR121
 have hx9 := arKind xhR121m
 have har9 := arI_op hx9
 refine zcl (l' := (rowE 3 1 (.slice (some ⟨g118, 0, none⟩) 11 11) 11 ([4, 5, 6, 7, 8, 9, 10, 11, 12, 7, 12].map (Value.int .i64)) :: curE g a len cap :: l)) rfl ?_
 refine zay 1 rfl (zag (reQ 1 rfl (hvQ rfl (zbk (cs := #[.int .i64 xhR121, .int .i64 0, .int .i64 0]) rfl rfl rfl) ?_)))
 refine zea rfl (zak (z := .agg #[.int .i64 0, .int .i64 0, .int .i64 0]) (s := 3) (cs := ([xhR121, 0, 0].map (Value.int .i64))) rfl Try.underlying71 rfl (by decide) rfl (by kernel_rfl) rfl) ?_
 intro g122
 refine zay 1 rfl (zag (reQ 1 rfl ?_))
 refine zem rfl (zaw rfl rfl (fun w hm => zbf (zfw xhR121 w))) (zay 1 rfl (zag (zbg 1 rfl (zaz ?_))))
 refine lkQ3 (α := Nat) (β := Value) (γ := List Oq) [0, 1, 2, 6, 7, 9, 16] rfl (fun k gv os => (rowE 97 3 gv os.length (os.flatMap oqC) :: curE g a len cap :: l)) (fun k gv os => [(8, gv), (10, .int .i64 (k : Int))]) (fun k gv os => (k : Int) ≤ arI xhR121 ∧ PartP n os (arI xhR121 - (k : Int)) ∧ 1 ≤ os.length ∧ (os.length : Int) + (arI xhR121 - (k : Int)) * ((M - 1) / arI xhR121) ≤ M) (fun k gv os => (arI xhR121).toNat - k) 0 _ [Oq.mk xhR121 0 0] ⟨by omega, exStart n hx9⟩ (saQ rfl) (.cons_cons _ (.cons _ (.refl _))) ?_
 intro k gv os hi123
 obtain ⟨hk, hP, h1, hl⟩ := hi123
 have hol9 := exLen hx9 (by omega) hk hl
 refine zag (zag (reQ 2 rfl ?_))
 refine zbq rfl rfl rfl rfl rfl rfl (fun h124 => ?_) (fun h124 => ?_)
 ·
  refine ntQ (zah rfl (zcv (sbQ (reQ 4 rfl (hvQ rfl (vsQ rfl rfl rfl) (zam 1 rfl ?_))))))
  refine hvQ rfl (rv_quo rfl rfl rfl (by refine ⟨?_, ?_, ?_⟩ <;> omega)) ?_
  have hq9 := exQuo (M := M) hx9 (by omega)
  refine zds (R := (fun u_ p_ => ∃ os : List Oq, p_ = bigE [curE g a len cap, rowE 97 3 u_ os.length (os.flatMap oqC)] ∧ ExP n ((M - 1) / (arI xhR121)) os)) 1 rfl rfl rfl rfl rfl (fun L w hX hm => IH ((M - 1) / (arI xhR121)) (by omega) (by omega) L w hm (fun w9 h9 => hu w9 ((hX w9 h9).sub (.cons _ (.refl _))))) ?_
  intro v125 p126 hR127
  obtain ⟨eshR127, rfl, heshR127⟩ := hR127
  have helhR127 := heshR127.2.2
  refine zcl (l' := (rowE 97 3 gv os.length (os.flatMap oqC) :: bigE [curE g a len cap, rowE 97 3 v125 eshR127.length (eshR127.flatMap oqC)] :: l)) rfl ?_
  refine zfo 2 [0, 1] rfl rfl (by decide) ?_
  refine zfd (curE g a len cap :: rowE 97 3 v125 eshR127.length (eshR127.flatMap oqC) :: rowE 97 3 gv os.length (os.flatMap oqC) :: l) zdb ?_
  refine zcs (i := 2) (z := .agg #[.int .i64 0, .int .i64 0, .int .i64 0]) (bytes := 24) (n' := (os ++ eshR127).length) (xs' := ((os ++ eshR127).flatMap oqC)) rfl rfl rfl rfl Try.underlying71 (by kernel_rfl) rfl rfl rfl rfl (zaj 1 rfl) (flat_onesD oqC eshR127 (fun r u hu => by simp [oqC] at hu; first | (subst hu; rfl) | (rcases hu with rfl | rfl <;> rfl) | (rcases hu with rfl | rfl | rfl <;> rfl) | (rcases hu with rfl | rfl | rfl | rfl <;> rfl))) (by first | omega | (simp only [List.length_take, List.length_drop, List.length_append]; omega)) (zcc os eshR127) (flat_app oqC os eshR127) (fun _ => rfl) ?_
  intro v128
  refine enQ 1 rfl (zdh (reQ 1 rfl (hvQ rfl (vaQ rfl rfl rfl) (enQ 1 rfl ?_))))
  refine zbn 3 [0, 2] rfl rfl (by decide) ?_
  exact zcq (k + 1) v128 (os ++ eshR127) ⟨by omega, exStep hx9 (by omega) hP h1 hl heshR127⟩ (by omega) (saQ rfl) (.refl _)
 refine ntQ (zap rfl ?_)
 refine zbj (zeb ?_)
 refine zal (zba (zbg 2 rfl ?_))
 refine zao (zbn 2 [0, 1] rfl rfl (by decide) ?_)
 refine zcd 2 rfl ?_
 exact zcx (rs := [.tmp 6]) (vs := [gv]) rfl ⟨rfl, trivial⟩ rfl (fun w hm => ⟨_, bigE [curE g a len cap, rowE 97 3 gv os.length (os.flatMap oqC)], rfl, ⟨os, rfl, exEnd (x := xhR121) (k := k) (by omega) hP h1 hl⟩, hm.sub (.refl _)⟩)
theorem l04Expr_mut (g : Nat) (a : Option Addr) (len cap : Nat) (z : List Int) (n : Int) (u : Value) (A : List Int) (hA : ∀ x ∈ A, 0 ≤ x ∧ x < n) (hAl : A.length ≤ 100) (w0 : World) (hb : BRow .u8 w0 a len cap z) : ∀ (m : Nat) (M : Int), M.toNat ≤ m → 1 ≤ M ∧ M ≤ 15 → ∀ (l : List HP) (w : World), Mem w0 (curE g a len cap :: l) w → Rd w0 l u 1 A.length (A.map (Value.int .i64)) → Calls Try.prog 86 #[.pointer (some ⟨g, 0, none⟩), u, .int .i64 (M)] w (fun e_ w_ => ∃ v_ p_, e_ = .returned v_ ∧ (fun u_ p_ => ∃ os : List Oq, p_ = bigE [curE g a len cap, rowE 97 3 u_ os.length (os.flatMap oqC)] ∧ ExP n M os) v_ p_ ∧ Mem w0 (p_ :: l) w_)
  | 0, M, h, hM, _, _, _, _ => absurd h (by omega)
  | m + 1, M, h, hM, l, w, hm, hu => l04Expr_step g a len cap z n u A M w0 l w hm hb hu hA hAl hM (fun q h1 h2 l2 w2 hm2 hu2 => l04Expr_mut g a len cap z n u A hA hAl w0 hb m q (by omega) ⟨h1, by omega⟩ l2 w2 hm2 hu2)
theorem built_as (x0 : Int) (x1 : Value) (h1 : x1.oneCell' = true) : Try.prog.built 89 [(0, .int .i64 x0), (1, x1)] = some #[.int .i64 x0, x1] := by
  (cases x1 <;> first | (exact absurd h1 Bool.false_ne_true) | kernel_rfl)
theorem flat_oneAs {gs : List As} (h : ∀ g ∈ gs, g.ov.oneCell' = true) : ∀ q ∈ gs.flatMap asC, q.oneCell' = true := fun q hq => by
  obtain ⟨r, h1, h2⟩ := List.mem_flatMap.1 hq
  simp [asC] at h2
  rcases h2 with rfl | rfl
  · rfl
  · exact h r h1
theorem zdz (g : Nat) (a : Option Addr) (len cap : Nat) (z : List Int) (n : Int) (m : Md) (s : Int) (u : Value) (A : List Int) (w0 : World) (l : List HP) (w : World) (hm0 : Mem w0 (curE g a len cap :: l) w) (hb : BRow .u8 w0 a len cap z) (hu : Rd w0 l u 1 A.length (A.map (Value.int .i64))) (hA : ∀ x ∈ A, 0 ≤ x ∧ x < n) (hAl : A.length ≤ 100) (hg : Rd w0 l m.av 2 m.gs.length (m.gs.flatMap asC)) (hgl : m.gs.length ≤ 1000) (hone : ∀ g ∈ m.gs, g.ov.oneCell' = true) (ho : m.sv.oneCell' = true ∧ m.av.oneCell' = true ∧ m.iv.oneCell' = true ∧ m.mv.oneCell' = true) :
   Calls Try.prog 149 #[.pointer (some ⟨g, 0, none⟩), .agg #[m.sv, m.av, m.iv, m.mv], .int .i64 s, u] w (fun e_ w_ => ∃ v_ p_, e_ = .returned v_ ∧ (fun u_ p_ => ∃ (v' ov : Value) (os : List Oq) (ps : List HP), u_ = .agg #[m.sv, v', m.iv, m.mv] ∧ p_ = bigE [curE g a len cap, bigE ps] ∧ (∀ w, (bigE ps).holds w → RdsW w v' 2 (m.gs ++ [As.mk s ov os]).length ((m.gs ++ [As.mk s ov os]).flatMap asC) ∧ RdsW w ov 3 os.length (os.flatMap oqC)) ∧ v'.oneCell' = true ∧ ov.oneCell' = true ∧ ExP n 9 os) v_ p_ ∧ Mem w0 (p_ :: l) w_) := by
 refine zfa (N := 22) (args := [.pointer (some ⟨g, 0, none⟩), .agg #[m.sv, m.av, m.iv, m.mv], .int .i64 s, u]) Try.func149 rfl rfl hm0 (srQ ?_)
 refine zdn rfl (zdm rfl rfl) ?_
 intro b1
 refine zdn rfl (zbl (z := .agg #[.slice none 0 0, .slice none 0 0, .slice none 0 0, .slice none 0 0]) rfl rfl) ?_
 intro b2
 refine ntQ (srQ ?_)
 refine zea rfl (zee (s := 2) rfl Try.underlying31 rfl) ?_
 intro g3
 refine hvQ rfl (fdQ 1 rfl rfl rfl) (hvQ rfl (zac rfl rfl rfl (zaa 2 rfl rfl)) ?_)
 refine zcs (i := 0) (z := .agg #[.int .i64 0, .slice none 0 0]) (bytes := 32) (n' := m.gs.length) (xs' := (m.gs.flatMap asC)) rfl rfl rfl rfl Try.underlying31 (by kernel_rfl) rfl rfl rfl rfl (fun w hm => hg w (hm.sub (.cons _ (.cons _ (.cons _ (.cons _ (.refl _))))))) (flat_oneAs hone) (by omega) (Nat.zero_add _) (List.nil_append _) (fun _ => rfl) ?_
 intro v4
 refine zam 3 rfl (zds (R := (fun u_ p_ => ∃ os : List Oq, p_ = bigE [curE g a len cap, rowE 97 3 u_ os.length (os.flatMap oqC)] ∧ ExP n 9 os)) 3 rfl rfl rfl rfl rfl (fun L w hX hm => l04Expr_mut g a len cap z n u A hA hAl _ hb 9 9 (by decide) (by decide) L w hm (fun w9 h9 => hu w9 ((hX w9 h9).sub (.cons _ (.cons _ (.cons _ (.refl _))))))) ?_)
 intro v5 p6 hR7
 obtain ⟨os, rfl, hos⟩ := hR7
 have hol9 := hos.2.2
 refine zcl (l' := (rowE 89 2 v4 m.gs.length (m.gs.flatMap asC) :: boxE b2 #[.slice none 0 0, .slice none 0 0, .slice none 0 0, .slice none 0 0] 35 :: boxE b1 #[m.sv, m.av, m.iv, m.mv] 35 :: bigE [curE g a len cap, rowE 97 3 v5 os.length (os.flatMap oqC)] :: l)) rfl ?_
 refine zfo 4 [2, 1, 0, 3] rfl rfl (by decide) ?_
 refine zfd (curE g a len cap :: rowE 97 3 v5 os.length (os.flatMap oqC) :: rowE 89 2 v4 m.gs.length (m.gs.flatMap asC) :: boxE b2 #[.slice none 0 0, .slice none 0 0, .slice none 0 0, .slice none 0 0] 35 :: boxE b1 #[m.sv, m.av, m.iv, m.mv] 35 :: l) zdb ?_
 refine hvQ rfl (rv_buildMD (cs := #[.int .i64 s, v5]) rfl rfl (fun w hm => built_as s v5 ((zaj 1 rfl w hm).one))) (zea rfl (zak (z := .agg #[.int .i64 0, .slice none 0 0]) (s := 2) (cs := [.int .i64 s, v5]) rfl Try.underlying31 rfl (by decide) rfl (by kernel_rfl) rfl) ?_)
 intro g8
 refine zct (i := 2) rfl (fun ho9 => ?_)
 refine zcs (i := 3) (z := .agg #[.int .i64 0, .slice none 0 0]) (bytes := 32) rfl rfl rfl rfl Try.underlying31 (by kernel_rfl) rfl rfl rfl rfl (zaj 0 rfl) (zab rfl (zab ho9 zbc)) (by first | omega | (simp only [List.length_append, List.length_cons, List.length_nil]; omega)) (zcc m.gs [(As.mk s v5 os)]) (zcz asC m.gs (As.mk s v5 os) _ rfl) (fun _ => rfl) ?_
 intro v10
 refine hvQ rfl (fdQ 1 rfl rfl rfl) (zct (i := 3) rfl (fun ho11 => ?_))
 refine zdo (i := 5) (cs' := #[m.sv, v10, m.iv, m.mv]) rfl rfl rfl rfl rfl rfl ho11 rfl rfl rfl rfl (ntQ (srQ (hvQ rfl (zax (cs := [m.sv, v10, m.iv, m.mv]) rfl rfl rfl rfl rfl (zat 5 rfl 0 rfl)) ?_)))
 refine zbh (cs' := #[m.sv, v10, m.iv, m.mv]) (i := 4) (off := 0) (us := [m.sv, v10, m.iv, m.mv]) rfl rfl rfl rfl rfl rfl rfl (zab ho.1 (zab ho11 (zab ho.2.2.1 (zab ho.2.2.2 zbc)))) rfl rfl rfl (ntQ ?_)
 refine zao (zft (fun w hm => (zaj 3 rfl w hm).one) (fun ho1 => ?_))
 refine zft (fun w hm => (zaj 2 rfl w hm).one) (fun ho2 => ?_)
 refine zbn 6 [5, 4, 1, 0, 2, 3] rfl rfl (by decide) ?_
 refine zcd 2 rfl ?_
 refine zbn 5 [4, 3, 1, 0, 2] rfl rfl (by decide) ?_
 refine zcd 2 rfl ?_
 exact zcx (rs := [.cell 8 35]) (vs := [.agg #[m.sv, v10, m.iv, m.mv]]) rfl ⟨⟨b2, 0, [m.sv, v10, m.iv, m.mv], rfl, rfl, by kernel_rfl, by kernel_rfl, zat 2 rfl 0 rfl⟩, trivial⟩ rfl (fun w hm => ⟨_, bigE [curE g a len cap, bigE [rowE 89 2 v10 ((m.gs ++ [(As.mk s v5 os)]).length) ((m.gs ++ [(As.mk s v5 os)]).flatMap asC), rowE 97 3 v5 os.length (os.flatMap oqC)]], rfl, ⟨v10, v5, os, [rowE 89 2 v10 ((m.gs ++ [(As.mk s v5 os)]).length) ((m.gs ++ [(As.mk s v5 os)]).flatMap asC), rowE 97 3 v5 os.length (os.flatMap oqC)], rfl, rfl, fun w hw => ⟨zdk (zbi hw List.mem_cons_self), zdk (zbi hw (List.mem_cons_of_mem _ List.mem_cons_self))⟩, ho1, ho2, hos⟩, hm.sub (.cons_cons _ (.cons _ (.cons _ (.cons _ (.refl _)))))⟩)
theorem l04Module_mut (g : Nat) (a : Option Addr) (len cap : Nat) (z : List Int) (D : List Md) (v : Value) (w0 : World) (l : List HP) (w : World) (hm0 : Mem w0 (curE g a len cap :: l) w) (hb : BRow .u8 w0 a len cap z) (hD : ∀ w, Mem w0 l w → RdsDs w v D) (hdd : DdP D) (hdl : D.length ≤ 2) (hv1 : v.oneCell' = true) (hch : ∀ m ∈ D, m.sv.oneCell' = true ∧ m.av.oneCell' = true ∧ m.iv.oneCell' = true ∧ m.mv.oneCell' = true) :
   Calls Try.prog 105 #[.pointer (some ⟨g, 0, none⟩), .agg #[v]] w (fun e_ w_ => ∃ v_ p_, e_ = .returned v_ ∧ (fun u_ p_ => ∃ (m : Md) (ps : List HP), u_ = m.agg ∧ p_ = bigE [curE g a len cap, bigE ps] ∧ (∀ w, (bigE ps).holds w → RdsMd w m) ∧ (m.sv.oneCell' = true ∧ m.av.oneCell' = true ∧ m.iv.oneCell' = true ∧ m.mv.oneCell' = true) ∧ DmP D m) v_ p_ ∧ Mem w0 (p_ :: l) w_) := by
 refine zfa (N := 282) (args := [.pointer (some ⟨g, 0, none⟩), .agg #[v]]) Try.func105 rfl rfl hm0 (srQ ?_)
 refine zdn rfl (zdm rfl rfl) ?_
 intro b1
 refine zdn rfl (zbl (z := .agg #[.slice none 0 0, .slice none 0 0, .slice none 0 0, .slice none 0 0]) rfl rfl) ?_
 intro b2
 refine ntQ (srQ (hvQ rfl (zbk (cs := #[.slice none 0 0, .slice none 0 0, .slice none 0 0, .slice none 0 0]) rfl rfl rfl) ?_))
 refine zdn rfl (zbl (z := .agg #[.slice none 0 0, .slice none 0 0, .slice none 0 0, .slice none 0 0]) rfl rfl) ?_
 intro b3
 refine zbh (cs' := #[.slice none 0 0, .slice none 0 0, .slice none 0 0, .slice none 0 0]) (i := 0) (off := 0) (us := [.slice none 0 0, .slice none 0 0, .slice none 0 0, .slice none 0 0]) rfl rfl rfl rfl rfl rfl rfl (zab rfl (zab rfl (zab rfl (zab rfl zbc)))) rfl rfl rfl (ntQ (srQ ?_))
 refine zea rfl (zee (s := 1) rfl Try.underlying48 rfl) ?_
 intro g4
 refine zay 1 rfl (srQ ?_)
 refine zea rfl (zee (s := 1) rfl Try.underlying48 rfl) ?_
 intro g5
 refine zay 1 rfl (zag (reQ 1 rfl ?_))
 refine zcg (R := (fun u_ p_ => (∃ x_ : Int, u_ = .int .i64 x_ ∧ 0 ≤ x_ ∧ x_ < 2) ∧ p_ = curE g a len cap)) 5 rfl rfl rfl rfl rfl (fun l' w hm => zby g a len cap z 2 _ _ _ hm hb (by constructor <;> omega)) ?_
 intro v6 p7 hR8
 obtain ⟨⟨xhR8, rfl, xhR80, xhR81⟩, rfl⟩ := hR8
 refine zcl (l' := (rowE 3 1 (.slice (some ⟨g5, 0, none⟩) 0 0) 0 ([]) :: rowE 3 1 (.slice (some ⟨g4, 0, none⟩) 0 0) 0 ([]) :: boxE b3 #[.slice none 0 0, .slice none 0 0, .slice none 0 0, .slice none 0 0] 35 :: boxE b2 #[.slice none 0 0, .slice none 0 0, .slice none 0 0, .slice none 0 0] 35 :: boxE b1 #[v] 26 :: curE g a len cap :: l)) rfl ?_
 refine hvQ rfl (vaQ rfl rfl rfl) (zay 1 rfl (zag (zbg 1 rfl (zaz ?_))))
 refine zfe (bigE [] :: rowE 38 3 (.slice none 0 0) (([] : List Sg).length) (([] : List Sg).flatMap sgC) :: rowE 63 3 (.slice none 0 0) (([] : List Ix).length) (([] : List Ix).flatMap ixC) :: rowE 94 4 (.slice none 0 0) (([] : List Mm).length) (([] : List Mm).flatMap mmC) :: rowE 3 1 (.slice (some ⟨g5, 0, none⟩) 0 0) 0 ([]) :: rowE 3 1 (.slice (some ⟨g4, 0, none⟩) 0 0) 0 ([]) :: boxE b3 #[.slice none 0 0, .slice none 0 0, .slice none 0 0, .slice none 0 0] 35 :: boxE b2 #[.slice none 0 0, .slice none 0 0, .slice none 0 0, .slice none 0 0] 35 :: boxE b1 #[v] 26 :: curE g a len cap :: l) (fun w hm => Mem.big (ps := []) (((hm.nilRow 94 4).nilRow 63 3).nilRow 38 3)) ?_
 refine lkQ4 (α := Nat) (β := Md) (γ := Value × List Int) (δ := List HP) [0, 1, 3, 4, 5, 7, 8] rfl (fun k m U ps => (bigE ps :: rowE 38 3 m.sv m.ss.length (m.ss.flatMap sgC) :: rowE 63 3 m.iv m.xs.length (m.xs.flatMap ixC) :: rowE 94 4 m.mv m.ms.length (m.ms.flatMap mmC) :: rowE 3 1 (.slice (some ⟨g5, 0, none⟩) 0 0) 0 ([]) :: rowE 3 1 U.1 U.2.length (U.2.map (Value.int .i64)) :: boxE b3 #[m.sv, m.av, m.iv, m.mv] 35 :: boxE b2 #[.slice none 0 0, .slice none 0 0, .slice none 0 0, .slice none 0 0] 35 :: boxE b1 #[v] 26 :: curE g a len cap :: l)) (fun k m U ps => [(6, U.1), (9, .int .i64 (k : Int))]) (fun k m U ps => (k : Int) ≤ 1 + xhR8 ∧ MI D m U.2 [] k 0 0 0 k k ∧ ∀ w, (bigE ps).holds w → RdP w m) (fun k m U ps => (1 + xhR8).toNat - k) 0 md0 (_, []) [] ⟨by omega, MI.start D, fun w _ => RdP.nil w⟩ (saQ rfl) (.refl _) ?_
 intro k m U ps hi9
 obtain ⟨hk, h1, hp1⟩ := hi9
 have hns := h1.ns
 have hna := h1.na
 refine zag (zag (reQ 2 rfl ?_))
 refine zbq rfl rfl rfl rfl rfl rfl (fun h10 => ?_) (fun h10 => ?_)
 ·
  refine ntQ (zah rfl (zcv (sbQ (zag (reQ 1 rfl (hvQ rfl (fdQ 0 rfl rfl rfl) (hvQ rfl (zac rfl rfl rfl (zaa 6 rfl rfl)) (hvQ rfl (lnQ rfl rfl rfl (zaj 1 rfl)) ?_))))))))
  refine zea rfl (zak (z := .int .i64 0) (s := 1) (cs := ([(m.ss.length : Int)].map (Value.int .i64))) rfl Try.underlying48 rfl (by decide) rfl (by kernel_rfl) rfl) ?_
  intro g11
  refine zcs (i := 6) (z := .int .i64 0) (bytes := 8) rfl rfl rfl rfl Try.underlying48 (by kernel_rfl) rfl rfl rfl rfl (zaj 0 rfl) (zbx _) (by first | omega | (simp; done) | (simp; omega)) (zcc U.2 ([(m.ss.length : Int)])) (zcw U.2 ([(m.ss.length : Int)])) (fun _ => rfl) ?_
  intro v12
  refine zay 1 rfl ?_
  refine zey 11 [9, 8, 7, 6, 5, 4, 3, 2, 1, 0, 10] rfl rfl (by decide) ?_
  refine zez (l := (rowE 3 1 (.slice (some ⟨g11, 0, none⟩) 1 1) 1 ([(m.ss.length : Int)].map (Value.int .i64)) :: bigE ps :: rowE 38 3 m.sv m.ss.length (m.ss.flatMap sgC) :: rowE 63 3 m.iv m.xs.length (m.xs.flatMap ixC) :: rowE 94 4 m.mv m.ms.length (m.ms.flatMap mmC) :: rowE 3 1 (.slice (some ⟨g5, 0, none⟩) 0 0) 0 ([]) :: rowE 3 1 v12 ((U.2 ++ ([(m.ss.length : Int)])).length) ((U.2 ++ ([(m.ss.length : Int)])).map (Value.int .i64)) :: boxE b3 #[m.sv, m.av, m.iv, m.mv] 35 :: boxE b2 #[.slice none 0 0, .slice none 0 0, .slice none 0 0, .slice none 0 0] 35 :: boxE b1 #[v] 26 :: l)) rfl 7 [0, 1, 2, 3, 4, 5, 6] (List.take 7 _) (List.drop 7 _) [[], [0], [], [], [2, 3], [4], [4, 5]] [42, 43, 44, 45, 46, 47, 48] (fun i_ vs_ v_ p_ => match i_ with | 0 => v_ = .pointer (some ⟨b3, 0 + 0, none⟩) ∧ p_ = [] | 1 => v_ = m.sv ∧ p_ = [] | 2 => v_ = .pointer (some ⟨g, 0, none⟩) ∧ p_ = [] | 3 => IsRow 3 1 4 ([1, 1, 2, 0].map (Value.int .i64)) v_ p_ | 4 => (∃ pm_, p_ = [pm_] ∧ (fun u_ p_ => (∃ x : Int, u_ = .int .i64 x ∧ x ∈ ([1, 1, 2, 0] : List Int)) ∧ p_ = curE g a len cap) v_ pm_) | 5 => v_ = .agg #[.int .i64 0, .int .i64 (intOf_o (List.getD vs_ 0 undef)), .int .i64 0] ∧ p_ = [] | 6 => IsRow 38 3 1 ([0, (intOf_o (List.getD vs_ 0 undef)), 0].map (Value.int .i64)) v_ p_ | _ => True) [[], [0], [], [], [2, 3], [4], [4, 5]] [none, none, none, none, some 10, none, none] [curE g a len cap] [0, 1, 2, 3, 4, 5, 6] 10 (List.take_append_drop 7 _).symm (by kernel_rfl) (by kernel_rfl) (by kernel_rfl) rfl rfl ?_ ?_
  ·
   refine ⟨?_, ?_, ?_, ?_, ?_, ?_, ?_, trivial⟩
   ·
    intro vf pf hmu hR
    refine dqQ [] [] rfl (zbo (zar [5] rfl) ?_)
    exact zbt (fdQ 0 rfl rfl rfl)
   ·
    intro vf pf hmu hR
    have e0 := hR 0 (by decide)
    refine dqQ [0] [0] rfl (zbe (sk 42 (congrArg some e0.1) (zai _)) (List.sublist_append_right _ _) ?_)
    exact zbt (zac rfl rfl rfl (zaa 7 rfl rfl))
   ·
    intro vf pf hmu hR
    refine dqQ [] [] rfl (zbo (zar [0] rfl) ?_)
    exact zbt (zau rfl)
   ·
    intro vf pf hmu hR
    refine dqQ [] [] rfl (zbe (zai _) (List.sublist_append_right _ _) ?_)
    exact zak (z := .int .i64 0) (s := 1) (cs := ([1, 1, 2, 0].map (Value.int .i64))) rfl Try.underlying48 rfl (by decide) rfl (by kernel_rfl) rfl
   ·
    intro vf pf hmu hR
    have e2 := hR 2 (by decide)
    have e3 : IsRow 3 1 4 ([1, 1, 2, 0].map (Value.int .i64)) (vf 3) (pf 3) := hR 3 (by decide)
    obtain ⟨g13, vE3, pE3⟩ := e3
    refine Or.inl ⟨rfl, ?_⟩
    show RunM _ _ _ (pf 10) (([2, 3] : List Nat).flatMap pf ++ _) (envOf _ vf [2, 3] ++ _) _ _
    rw [hmu]
    exact zda (sk 44 (congrArg some e2.1) (sk 45 (congrArg some vE3) (zai _))) (by simp only [pE3, vE3, e2.2, fS] <;> rfl) (zdp (R := (fun u_ p_ => (∃ x : Int, u_ = .int .i64 x ∧ x ∈ ([1, 1, 2, 0] : List Int)) ∧ p_ = curE g a len cap)) rfl rfl (fun L w hX hm => zdy g a len cap z (.slice (some ⟨g13, 0, none⟩) 4 4) [1, 1, 2, 0] _ _ _ hm hb (fun w hm => (zaj (l := (rowE 3 1 (.slice (some ⟨g13, 0, none⟩) 4 4) 4 ([1, 1, 2, 0].map (Value.int .i64)) :: rowE 3 1 (.slice (some ⟨g11, 0, none⟩) 1 1) 1 ([(m.ss.length : Int)].map (Value.int .i64)) :: bigE ps :: rowE 38 3 m.sv m.ss.length (m.ss.flatMap sgC) :: rowE 63 3 m.iv m.xs.length (m.xs.flatMap ixC) :: rowE 94 4 m.mv m.ms.length (m.ms.flatMap mmC) :: rowE 3 1 (.slice (some ⟨g5, 0, none⟩) 0 0) 0 ([]) :: rowE 3 1 v12 ((U.2 ++ ([(m.ss.length : Int)])).length) ((U.2 ++ ([(m.ss.length : Int)])).map (Value.int .i64)) :: boxE b3 #[m.sv, m.av, m.iv, m.mv] 35 :: boxE b2 #[.slice none 0 0, .slice none 0 0, .slice none 0 0, .slice none 0 0] 35 :: boxE b1 #[v] 26 :: l)) 0 rfl) w (hX w hm)) (by decide)))
   ·
    intro vf pf hmu hR
    have e4 : (∃ pm_, (pf 4) = [pm_] ∧ (fun u_ p_ => (∃ x : Int, u_ = .int .i64 x ∧ x ∈ ([1, 1, 2, 0] : List Int)) ∧ p_ = curE g a len cap) (vf 4) pm_) := hR 4 (by decide)
    obtain ⟨p15, pE4, hR16⟩ := e4
    obtain ⟨v14, vE4⟩ : ∃ x, vf 4 = x := ⟨_, rfl⟩
    rw [vE4] at hR16
    obtain ⟨⟨xhR16, rfl, xhR16m⟩, rfl⟩ := hR16
    have xhR16w := lit4 xhR16m (by decide)
    refine dqQ [4] [4] rfl (zcm (sk 46 (congrArg some vE4) (zai _)) (by simp only [pE4, vE4, fS] <;> rfl) ?_)
    exact zck (zbt (zbk (cs := #[.int .i64 0, .int .i64 xhR16, .int .i64 0]) rfl rfl rfl)) (fun _ _ h => ⟨h.1.trans (by show _ = (.agg #[.int .i64 0, .int .i64 (intOf_o (vf 4)), .int .i64 0] : Value); first | (rw [vE4]; done) | (rw [vE4]; rfl)), h.2⟩)
   intro vf pf hmu hR
   have e4 : (∃ pm_, (pf 4) = [pm_] ∧ (fun u_ p_ => (∃ x : Int, u_ = .int .i64 x ∧ x ∈ ([1, 1, 2, 0] : List Int)) ∧ p_ = curE g a len cap) (vf 4) pm_) := hR 4 (by decide)
   obtain ⟨p15, pE4, hR16⟩ := e4
   obtain ⟨v14, vE4⟩ : ∃ x, vf 4 = x := ⟨_, rfl⟩
   rw [vE4] at hR16
   obtain ⟨⟨xhR16, rfl, xhR16m⟩, rfl⟩ := hR16
   have xhR16w := lit4 xhR16m (by decide)
   have e5 : (vf 5) = .agg #[.int .i64 0, .int .i64 (intOf_o (vf 4)), .int .i64 0] ∧ (pf 5) = [] := hR 5 (by decide)
   rw [vE4] at e5
   refine dqQ [4, 5] [4, 5] rfl (zcm (sk 47 (congrArg some e5.1) (zai _)) (by simp only [pE4, vE4, e5.2, fS] <;> rfl) ?_)
   exact zck (zak (z := .agg #[.int .i64 0, .int .i64 0, .int .i64 0]) (s := 3) (cs := ([0, xhR16, 0].map (Value.int .i64))) rfl Try.underlying30 rfl (by decide) rfl (by kernel_rfl) rfl) (fun v_ p_ h => by show IsRow 38 3 1 ([0, (intOf_o (vf 4)), 0].map (Value.int .i64)) v_ p_; rw [vE4]; exact h)
  intro vf pf hmu hR
  have e1 := hR 1 (by decide)
  have e3 : IsRow 3 1 4 ([1, 1, 2, 0].map (Value.int .i64)) (vf 3) (pf 3) := hR 3 (by decide)
  obtain ⟨g13, vE3, pE3⟩ := e3
  have e4 : (∃ pm_, (pf 4) = [pm_] ∧ (fun u_ p_ => (∃ x : Int, u_ = .int .i64 x ∧ x ∈ ([1, 1, 2, 0] : List Int)) ∧ p_ = curE g a len cap) (vf 4) pm_) := hR 4 (by decide)
  obtain ⟨p15, pE4, hR16⟩ := e4
  obtain ⟨v14, vE4⟩ : ∃ x, vf 4 = x := ⟨_, rfl⟩
  rw [vE4] at hR16
  obtain ⟨⟨xhR16, rfl, xhR16m⟩, rfl⟩ := hR16
  have xhR16w := lit4 xhR16m (by decide)
  have e6 : IsRow 38 3 1 ([0, (intOf_o (vf 4)), 0].map (Value.int .i64)) (vf 6) (pf 6) := hR 6 (by decide)
  rw [vE4] at e6
  obtain ⟨g17, vE6, pE6⟩ := e6
  have q0 := hR 0 (by decide)
  have q1 := hR 1 (by decide)
  have q2 := hR 2 (by decide)
  have q5 := hR 5 (by decide)
  refine zdf (zci [33, 9, 8, 7, 6, 5, 4, 3, 1, 0] _ (sk 43 (congrArg some e1.1) (sk 48 (congrArg some vE6) (zai _))) rfl) (by simp only [pE3, vE3, pE4, vE4, pE6, vE6, q0.2, q1.2, q2.2, q5.2, fS] <;> rfl) ?_
  simp only [List.drop_succ_cons, List.drop_zero]
  refine zcs (i := 5) (z := .agg #[.int .i64 0, .int .i64 0, .int .i64 0]) (bytes := 24) rfl rfl rfl rfl Try.underlying30 (by kernel_rfl) rfl rfl rfl rfl (zaj 2 rfl) (zbx _) (by first | omega | (simp only [List.length_append, List.length_cons, List.length_nil]; omega)) (zcc m.ss [(Sg.mk 0 xhR16 0)]) (zcz sgC m.ss (Sg.mk 0 xhR16 0) _ rfl) (fun _ => rfl) ?_
  intro v18
  refine hvQ rfl (fdQ 0 rfl rfl rfl) (zct (i := 5) rfl (fun ho19 => ?_))
  refine zdo (i := 10) (cs' := #[v18, m.av, m.iv, m.mv]) rfl rfl rfl rfl rfl rfl ho19 rfl rfl rfl rfl (zcu (zdh (reQ 1 rfl (hvQ rfl (vaQ rfl rfl rfl) (enQ 1 rfl ?_)))))
  refine zbn 13 [1, 12, 11, 10, 9, 8, 7, 6, 5, 4] rfl rfl (by decide) ?_
  exact zdq (k + 1) (Md.mk v18 m.av m.iv m.mv (m.ss ++ [(Sg.mk 0 xhR16 0)]) m.gs m.xs m.ms) (v12, U.2 ++ ([(m.ss.length : Int)])) ps ⟨by omega, h1.inp _ (by assumption), fun w hw => hp1 w hw⟩ (by omega) (saQ rfl) (.refl _)
 refine ntQ (zap rfl ?_)
 refine zbj (zeb ?_)
 refine zal (zba (zag (reQ 1 rfl ?_)))
 refine zcg (R := (fun u_ p_ => (∃ x_ : Int, u_ = .int .i64 x_ ∧ 0 ≤ x_ ∧ x_ < 3) ∧ p_ = curE g a len cap)) 9 rfl rfl rfl rfl rfl (fun l' w hm => zby g a len cap z 3 _ _ _ hm hb (by constructor <;> omega)) ?_
 intro v20 p21 hR22
 obtain ⟨⟨xhR22, rfl, xhR220, xhR221⟩, rfl⟩ := hR22
 refine zcl (l' := (bigE ps :: rowE 38 3 m.sv m.ss.length (m.ss.flatMap sgC) :: rowE 63 3 m.iv m.xs.length (m.xs.flatMap ixC) :: rowE 94 4 m.mv m.ms.length (m.ms.flatMap mmC) :: rowE 3 1 (.slice (some ⟨g5, 0, none⟩) 0 0) 0 ([]) :: rowE 3 1 U.1 U.2.length (U.2.map (Value.int .i64)) :: boxE b3 #[m.sv, m.av, m.iv, m.mv] 35 :: boxE b2 #[.slice none 0 0, .slice none 0 0, .slice none 0 0, .slice none 0 0] 35 :: boxE b1 #[v] 26 :: curE g a len cap :: l)) rfl ?_
 refine zay 1 rfl (zag (zbg 1 rfl (zaz ?_)))
 refine lkQ4 (α := Nat) (β := Md) (γ := Value × List Int) (δ := Value × List Int) [0, 1, 3, 4, 5, 8, 33] rfl (fun k2 m2 U2 W2 => (bigE ps :: rowE 38 3 m2.sv m2.ss.length (m2.ss.flatMap sgC) :: rowE 63 3 m2.iv m2.xs.length (m2.xs.flatMap ixC) :: rowE 94 4 m2.mv m2.ms.length (m2.ms.flatMap mmC) :: rowE 3 1 W2.1 W2.2.length (W2.2.map (Value.int .i64)) :: rowE 3 1 U2.1 U2.2.length (U2.2.map (Value.int .i64)) :: boxE b3 #[m2.sv, m2.av, m2.iv, m2.mv] 35 :: boxE b2 #[.slice none 0 0, .slice none 0 0, .slice none 0 0, .slice none 0 0] 35 :: boxE b1 #[v] 26 :: curE g a len cap :: l)) (fun k2 m2 U2 W2 => [(6, U2.1), (7, W2.1), (10, .int .i64 (k2 : Int))]) (fun k2 m2 U2 W2 => (k2 : Int) ≤ xhR22 ∧ MI D m2 U2.2 W2.2 (2 + k2) 0 0 0 2 (2 + k2) ∧ W2.2.length = k2 ∧ W2.2.Pairwise (· < ·) ∧ ∀ w, (bigE ps).holds w → RdP w m2) (fun k2 m2 U2 W2 => (xhR22).toNat - k2) 0 m U (_, []) ⟨by omega, h1.up (by omega) (by omega) (by omega) (by omega) (by omega) (by omega), rfl, .nil, hp1⟩ (saQ rfl) (.refl _) ?_
 intro k2 m2 U2 W2 hi23
 obtain ⟨hk2, h2, hwl2, hW2, hp2⟩ := hi23
 have hns2 := h2.ns
 have hna2 := h2.na
 refine zag (zag (reQ 2 rfl ?_))
 refine zbq rfl rfl rfl rfl rfl rfl (fun h24 => ?_) (fun h24 => ?_)
 ·
  refine ntQ (zah rfl (zcv (sbQ (zag (reQ 1 rfl (hvQ rfl (fdQ 0 rfl rfl rfl) (hvQ rfl (zac rfl rfl rfl (zaa 6 rfl rfl)) (hvQ rfl (lnQ rfl rfl rfl (zaj 1 rfl)) ?_))))))))
  refine zea rfl (zak (z := .int .i64 0) (s := 1) (cs := ([(m2.ss.length : Int)].map (Value.int .i64))) rfl Try.underlying48 rfl (by decide) rfl (by kernel_rfl) rfl) ?_
  intro g25
  refine zcs (i := 6) (z := .int .i64 0) (bytes := 8) rfl rfl rfl rfl Try.underlying48 (by kernel_rfl) rfl rfl rfl rfl (zaj 0 rfl) (zbx _) (by first | omega | (simp; done) | (simp; omega)) (zcc U2.2 ([(m2.ss.length : Int)])) (zcw U2.2 ([(m2.ss.length : Int)])) (fun _ => rfl) ?_
  intro v26
  refine zay 1 rfl (zag (reQ 1 rfl (hvQ rfl (fdQ 0 rfl rfl rfl) (hvQ rfl (zac rfl rfl rfl (zaa 7 rfl rfl)) (hvQ rfl (lnQ rfl rfl rfl (zaj 2 rfl)) ?_)))))
  refine zea rfl (zak (z := .int .i64 0) (s := 1) (cs := ([(m2.ss.length : Int)].map (Value.int .i64))) rfl Try.underlying48 rfl (by decide) rfl (by kernel_rfl) rfl) ?_
  intro g27
  refine zcs (i := 6) (z := .int .i64 0) (bytes := 8) rfl rfl rfl rfl Try.underlying48 (by kernel_rfl) rfl rfl rfl rfl (zaj 0 rfl) (zbx _) (by first | omega | (simp; done) | (simp; omega)) (zcc W2.2 ([(m2.ss.length : Int)])) (zcw W2.2 ([(m2.ss.length : Int)])) (fun _ => rfl) ?_
  intro v28
  refine zay 1 rfl ?_
  refine zey 12 [10, 9, 8, 7, 6, 5, 4, 3, 2, 1, 0, 11] rfl rfl (by decide) ?_
  refine zez (l := (rowE 3 1 (.slice (some ⟨g27, 0, none⟩) 1 1) 1 ([(m2.ss.length : Int)].map (Value.int .i64)) :: rowE 3 1 (.slice (some ⟨g25, 0, none⟩) 1 1) 1 ([(m2.ss.length : Int)].map (Value.int .i64)) :: bigE ps :: rowE 38 3 m2.sv m2.ss.length (m2.ss.flatMap sgC) :: rowE 63 3 m2.iv m2.xs.length (m2.xs.flatMap ixC) :: rowE 94 4 m2.mv m2.ms.length (m2.ms.flatMap mmC) :: rowE 3 1 v28 ((W2.2 ++ ([(m2.ss.length : Int)])).length) ((W2.2 ++ ([(m2.ss.length : Int)])).map (Value.int .i64)) :: rowE 3 1 v26 ((U2.2 ++ ([(m2.ss.length : Int)])).length) ((U2.2 ++ ([(m2.ss.length : Int)])).map (Value.int .i64)) :: boxE b3 #[m2.sv, m2.av, m2.iv, m2.mv] 35 :: boxE b2 #[.slice none 0 0, .slice none 0 0, .slice none 0 0, .slice none 0 0] 35 :: boxE b1 #[v] 26 :: l)) rfl 9 [0, 1, 2, 3, 4, 5, 6, 7, 8] (List.take 9 _) (List.drop 9 _) [[], [0], [], [], [2, 3], [], [4, 5], [4, 6], [4, 6, 7]] [70, 71, 72, 73, 74, 75, 76, 77, 78] (fun i_ vs_ v_ p_ => match i_ with | 0 => v_ = .pointer (some ⟨b3, 0 + 0, none⟩) ∧ p_ = [] | 1 => v_ = m2.sv ∧ p_ = [] | 2 => v_ = .pointer (some ⟨g, 0, none⟩) ∧ p_ = [] | 3 => IsRow 3 1 3 ([1, 2, 0].map (Value.int .i64)) v_ p_ | 4 => (∃ pm_, p_ = [pm_] ∧ (fun u_ p_ => (∃ x : Int, u_ = .int .i64 x ∧ x ∈ ([1, 2, 0] : List Int)) ∧ p_ = curE g a len cap) v_ pm_) | 5 => v_ = .pointer (some ⟨g, 0, none⟩) ∧ p_ = [] | 6 => (∃ pm_, p_ = [pm_] ∧ (fun u_ p_ => (∃ x_ : Int, u_ = .int .i64 x_ ∧ 0 ≤ x_ ∧ x_ < 4) ∧ p_ = curE g a len cap) v_ pm_) | 7 => v_ = .agg #[.int .i64 3, .int .i64 (intOf_o (List.getD vs_ 0 undef)), .int .i64 (intOf_o (List.getD vs_ 1 undef))] ∧ p_ = [] | 8 => IsRow 38 3 1 ([3, (intOf_o (List.getD vs_ 0 undef)), (intOf_o (List.getD vs_ 1 undef))].map (Value.int .i64)) v_ p_ | _ => True) [[], [0], [], [], [2, 3], [], [5], [6], [6, 7]] [none, none, none, none, some 12, none, some 4, none, none] [curE g a len cap] [0, 1, 2, 3, 5, 6, 7, 8] 12 (List.take_append_drop 9 _).symm (by kernel_rfl) (by kernel_rfl) (by kernel_rfl) rfl rfl ?_ ?_
  ·
   refine ⟨?_, ?_, ?_, ?_, ?_, ?_, ?_, ?_, ?_, trivial⟩
   ·
    intro vf pf hmu hR
    refine dqQ [] [] rfl (zbo (zar [5] rfl) ?_)
    exact zbt (fdQ 0 rfl rfl rfl)
   ·
    intro vf pf hmu hR
    have e0 := hR 0 (by decide)
    refine dqQ [0] [0] rfl (zbe (sk 70 (congrArg some e0.1) (zai _)) (List.sublist_append_right _ _) ?_)
    exact zbt (zac rfl rfl rfl (zaa 8 rfl rfl))
   ·
    intro vf pf hmu hR
    refine dqQ [] [] rfl (zbo (zar [0] rfl) ?_)
    exact zbt (zau rfl)
   ·
    intro vf pf hmu hR
    refine dqQ [] [] rfl (zbe (zai _) (List.sublist_append_right _ _) ?_)
    exact zak (z := .int .i64 0) (s := 1) (cs := ([1, 2, 0].map (Value.int .i64))) rfl Try.underlying48 rfl (by decide) rfl (by kernel_rfl) rfl
   ·
    intro vf pf hmu hR
    have e2 := hR 2 (by decide)
    have e3 : IsRow 3 1 3 ([1, 2, 0].map (Value.int .i64)) (vf 3) (pf 3) := hR 3 (by decide)
    obtain ⟨g29, vE3, pE3⟩ := e3
    refine Or.inl ⟨rfl, ?_⟩
    show RunM _ _ _ (pf 12) (([2, 3] : List Nat).flatMap pf ++ _) (envOf _ vf [2, 3] ++ _) _ _
    rw [hmu]
    refine zda (sk 72 (congrArg some e2.1) (sk 73 (congrArg some vE3) (zai _))) (by simp only [pE3, vE3, e2.2, fS] <;> rfl) ?_
    exact zdp (R := (fun u_ p_ => (∃ x : Int, u_ = .int .i64 x ∧ x ∈ ([1, 2, 0] : List Int)) ∧ p_ = curE g a len cap)) rfl rfl (fun L w hX hm => zdy g a len cap z (.slice (some ⟨g29, 0, none⟩) 3 3) [1, 2, 0] _ _ _ hm hb (fun w hm => (zaj (l := (rowE 3 1 (.slice (some ⟨g29, 0, none⟩) 3 3) 3 ([1, 2, 0].map (Value.int .i64)) :: rowE 3 1 (.slice (some ⟨g27, 0, none⟩) 1 1) 1 ([(m2.ss.length : Int)].map (Value.int .i64)) :: rowE 3 1 (.slice (some ⟨g25, 0, none⟩) 1 1) 1 ([(m2.ss.length : Int)].map (Value.int .i64)) :: bigE ps :: rowE 38 3 m2.sv m2.ss.length (m2.ss.flatMap sgC) :: rowE 63 3 m2.iv m2.xs.length (m2.xs.flatMap ixC) :: rowE 94 4 m2.mv m2.ms.length (m2.ms.flatMap mmC) :: rowE 3 1 v28 ((W2.2 ++ ([(m2.ss.length : Int)])).length) ((W2.2 ++ ([(m2.ss.length : Int)])).map (Value.int .i64)) :: rowE 3 1 v26 ((U2.2 ++ ([(m2.ss.length : Int)])).length) ((U2.2 ++ ([(m2.ss.length : Int)])).map (Value.int .i64)) :: boxE b3 #[m2.sv, m2.av, m2.iv, m2.mv] 35 :: boxE b2 #[.slice none 0 0, .slice none 0 0, .slice none 0 0, .slice none 0 0] 35 :: boxE b1 #[v] 26 :: l)) 0 rfl) w (hX w hm)) (by decide))
   ·
    intro vf pf hmu hR
    refine dqQ [] [] rfl (zbo (zar [0] rfl) ?_)
    exact zbt (zau rfl)
   ·
    intro vf pf hmu hR
    have e4 : (∃ pm_, (pf 4) = [pm_] ∧ (fun u_ p_ => (∃ x : Int, u_ = .int .i64 x ∧ x ∈ ([1, 2, 0] : List Int)) ∧ p_ = curE g a len cap) (vf 4) pm_) := hR 4 (by decide)
    obtain ⟨p31, pE4, hR32⟩ := e4
    obtain ⟨v30, vE4⟩ : ∃ x, vf 4 = x := ⟨_, rfl⟩
    rw [vE4] at hR32
    obtain ⟨⟨xhR32, rfl, xhR32m⟩, rfl⟩ := hR32
    have xhR32w := lit4 xhR32m (by decide)
    have e5 := hR 5 (by decide)
    refine Or.inl ⟨rfl, ?_⟩
    show RunM _ _ _ (pf 4) (([5] : List Nat).flatMap pf ++ _) (envOf _ vf [4, 5] ++ _) _ _
    rw [pE4]
    exact zda (sk 75 (congrArg some e5.1) (zai _)) (by simp only [e5.2, fS] <;> rfl) (zdp (R := (fun u_ p_ => (∃ x_ : Int, u_ = .int .i64 x_ ∧ 0 ≤ x_ ∧ x_ < 4) ∧ p_ = curE g a len cap)) rfl rfl (fun L w hX hm => zby g a len cap z 4 _ _ _ hm hb (by constructor <;> omega)))
   ·
    intro vf pf hmu hR
    have e4 : (∃ pm_, (pf 4) = [pm_] ∧ (fun u_ p_ => (∃ x : Int, u_ = .int .i64 x ∧ x ∈ ([1, 2, 0] : List Int)) ∧ p_ = curE g a len cap) (vf 4) pm_) := hR 4 (by decide)
    obtain ⟨p31, pE4, hR32⟩ := e4
    obtain ⟨v30, vE4⟩ : ∃ x, vf 4 = x := ⟨_, rfl⟩
    rw [vE4] at hR32
    obtain ⟨⟨xhR32, rfl, xhR32m⟩, rfl⟩ := hR32
    have xhR32w := lit4 xhR32m (by decide)
    have e6 : (∃ pm_, (pf 6) = [pm_] ∧ (fun u_ p_ => (∃ x_ : Int, u_ = .int .i64 x_ ∧ 0 ≤ x_ ∧ x_ < 4) ∧ p_ = curE g a len cap) (vf 6) pm_) := hR 6 (by decide)
    obtain ⟨p34, pE6, hR35⟩ := e6
    obtain ⟨v33, vE6⟩ : ∃ x, vf 6 = x := ⟨_, rfl⟩
    rw [vE6] at hR35
    obtain ⟨⟨xhR35, rfl, xhR350, xhR351⟩, rfl⟩ := hR35
    refine dqQ [6] [4, 6] rfl (zcm (sk 74 (congrArg some vE4) (sk 76 (congrArg some vE6) (zai _))) (by simp only [pE6, vE6, fS] <;> rfl) ?_)
    exact zck (zbt (zbk (cs := #[.int .i64 3, .int .i64 xhR32, .int .i64 xhR35]) rfl rfl rfl)) (fun _ _ h => ⟨h.1.trans (by show _ = (.agg #[.int .i64 3, .int .i64 (intOf_o (vf 4)), .int .i64 (intOf_o (vf 6))] : Value); first | (rw [vE4, vE6]; done) | (rw [vE4, vE6]; rfl)), h.2⟩)
   intro vf pf hmu hR
   have e4 : (∃ pm_, (pf 4) = [pm_] ∧ (fun u_ p_ => (∃ x : Int, u_ = .int .i64 x ∧ x ∈ ([1, 2, 0] : List Int)) ∧ p_ = curE g a len cap) (vf 4) pm_) := hR 4 (by decide)
   obtain ⟨p31, pE4, hR32⟩ := e4
   obtain ⟨v30, vE4⟩ : ∃ x, vf 4 = x := ⟨_, rfl⟩
   rw [vE4] at hR32
   obtain ⟨⟨xhR32, rfl, xhR32m⟩, rfl⟩ := hR32
   have xhR32w := lit4 xhR32m (by decide)
   have e6 : (∃ pm_, (pf 6) = [pm_] ∧ (fun u_ p_ => (∃ x_ : Int, u_ = .int .i64 x_ ∧ 0 ≤ x_ ∧ x_ < 4) ∧ p_ = curE g a len cap) (vf 6) pm_) := hR 6 (by decide)
   obtain ⟨p34, pE6, hR35⟩ := e6
   obtain ⟨v33, vE6⟩ : ∃ x, vf 6 = x := ⟨_, rfl⟩
   rw [vE6] at hR35
   obtain ⟨⟨xhR35, rfl, xhR350, xhR351⟩, rfl⟩ := hR35
   have e7 : (vf 7) = .agg #[.int .i64 3, .int .i64 (intOf_o (vf 4)), .int .i64 (intOf_o (vf 6))] ∧ (pf 7) = [] := hR 7 (by decide)
   rw [vE4, vE6] at e7
   refine dqQ [6, 7] [4, 6, 7] rfl (zcm (sk 77 (congrArg some e7.1) (zai _)) (by simp only [pE6, vE6, e7.2, fS] <;> rfl) ?_)
   exact zck (zak (z := .agg #[.int .i64 0, .int .i64 0, .int .i64 0]) (s := 3) (cs := ([3, xhR32, xhR35].map (Value.int .i64))) rfl Try.underlying30 rfl (by decide) rfl (by kernel_rfl) rfl) (fun v_ p_ h => by show IsRow 38 3 1 ([3, (intOf_o (vf 4)), (intOf_o (vf 6))].map (Value.int .i64)) v_ p_; rw [vE4, vE6]; exact h)
  intro vf pf hmu hR
  have e1 := hR 1 (by decide)
  have e3 : IsRow 3 1 3 ([1, 2, 0].map (Value.int .i64)) (vf 3) (pf 3) := hR 3 (by decide)
  obtain ⟨g29, vE3, pE3⟩ := e3
  have e4 : (∃ pm_, (pf 4) = [pm_] ∧ (fun u_ p_ => (∃ x : Int, u_ = .int .i64 x ∧ x ∈ ([1, 2, 0] : List Int)) ∧ p_ = curE g a len cap) (vf 4) pm_) := hR 4 (by decide)
  obtain ⟨p31, pE4, hR32⟩ := e4
  obtain ⟨v30, vE4⟩ : ∃ x, vf 4 = x := ⟨_, rfl⟩
  rw [vE4] at hR32
  obtain ⟨⟨xhR32, rfl, xhR32m⟩, rfl⟩ := hR32
  have xhR32w := lit4 xhR32m (by decide)
  have e6 : (∃ pm_, (pf 6) = [pm_] ∧ (fun u_ p_ => (∃ x_ : Int, u_ = .int .i64 x_ ∧ 0 ≤ x_ ∧ x_ < 4) ∧ p_ = curE g a len cap) (vf 6) pm_) := hR 6 (by decide)
  obtain ⟨p34, pE6, hR35⟩ := e6
  obtain ⟨v33, vE6⟩ : ∃ x, vf 6 = x := ⟨_, rfl⟩
  rw [vE6] at hR35
  obtain ⟨⟨xhR35, rfl, xhR350, xhR351⟩, rfl⟩ := hR35
  have e8 : IsRow 38 3 1 ([3, (intOf_o (vf 4)), (intOf_o (vf 6))].map (Value.int .i64)) (vf 8) (pf 8) := hR 8 (by decide)
  rw [vE4, vE6] at e8
  obtain ⟨g36, vE8, pE8⟩ := e8
  have q0 := hR 0 (by decide)
  have q1 := hR 1 (by decide)
  have q2 := hR 2 (by decide)
  have q5 := hR 5 (by decide)
  have q7 := hR 7 (by decide)
  refine zdf (zci [55, 33, 10, 8, 7, 6, 5, 4, 3, 1, 0] _ (sk 71 (congrArg some e1.1) (sk 78 (congrArg some vE8) (zai _))) rfl) (by simp only [pE3, vE3, pE6, vE6, pE8, vE8, q0.2, q1.2, q2.2, q5.2, q7.2, fS] <;> rfl) ?_
  simp only [List.drop_succ_cons, List.drop_zero]
  refine zcs (i := 6) (z := .agg #[.int .i64 0, .int .i64 0, .int .i64 0]) (bytes := 24) rfl rfl rfl rfl Try.underlying30 (by kernel_rfl) rfl rfl rfl rfl (zaj 2 rfl) (zbx _) (by first | omega | (simp only [List.length_append, List.length_cons, List.length_nil]; omega)) (zcc m2.ss [(Sg.mk 3 xhR32 xhR35)]) (zcz sgC m2.ss (Sg.mk 3 xhR32 xhR35) _ rfl) (fun _ => rfl) ?_
  intro v37
  refine hvQ rfl (fdQ 0 rfl rfl rfl) (zct (i := 6) rfl (fun ho38 => ?_))
  refine zdo (i := 11) (cs' := #[v37, m2.av, m2.iv, m2.mv]) rfl rfl rfl rfl rfl rfl ho38 rfl rfl rfl rfl (zcu (zdh (reQ 1 rfl (hvQ rfl (vaQ rfl rfl rfl) (enQ 1 rfl ?_)))))
  refine zbn 14 [1, 13, 12, 11, 10, 9, 8, 7, 6, 5] rfl rfl (by decide) ?_
  exact zdq (k2 + 1) (Md.mk v37 m2.av m2.iv m2.mv (m2.ss ++ [(Sg.mk 3 xhR32 xhR35)]) m2.gs m2.xs m2.ms) (v26, U2.2 ++ ([(m2.ss.length : Int)])) (v28, W2.2 ++ ([(m2.ss.length : Int)])) ⟨by omega, h2.reg _ (by assumption) ⟨by omega, by omega⟩, by rw [List.length_append, List.length_singleton]; omega, asc_app hW2 h2.plt, fun w hw => hp2 w hw⟩ (by omega) (saQ rfl) (.refl _)
 refine ntQ (zap rfl ?_)
 refine zbj (zeb ?_)
 refine zal (zba (zag (zbg 1 rfl (zaz ?_))))
 refine lkQ4 (α := Nat) (β := Md) (γ := Value × List Int) (δ := List HP) [0, 1, 3, 4, 5, 7, 33, 55] rfl (fun t m3 U3 ps3 => (bigE ps3 :: rowE 38 3 m3.sv m3.ss.length (m3.ss.flatMap sgC) :: rowE 63 3 m3.iv m3.xs.length (m3.xs.flatMap ixC) :: rowE 94 4 m3.mv m3.ms.length (m3.ms.flatMap mmC) :: rowE 3 1 W2.1 W2.2.length (W2.2.map (Value.int .i64)) :: rowE 3 1 U3.1 U3.2.length (U3.2.map (Value.int .i64)) :: boxE b3 #[m3.sv, m3.av, m3.iv, m3.mv] 35 :: boxE b2 #[.slice none 0 0, .slice none 0 0, .slice none 0 0, .slice none 0 0] 35 :: boxE b1 #[v] 26 :: curE g a len cap :: l)) (fun t m3 U3 ps3 => [(6, U3.1), (11, .int .i64 (t : Int))]) (fun t m3 U3 ps3 => t ≤ 2 ∧ MI D m3 U3.2 W2.2 (4 + 4 * t) (4 * t) t 0 2 (4 + 4 * t) ∧ ∀ w, (bigE ps3).holds w → RdP w m3) (fun t m3 U3 ps3 => 2 - t) 0 m2 U2 ps ⟨by omega, h2.up (by omega) (by omega) (by omega) (by omega) (by omega) (by omega), hp2⟩ (saQ rfl) (.refl _) ?_
 intro t m3 U3 ps3 hi39
 obtain ⟨ht, h3, hp3⟩ := hi39
 have hns3 := h3.ns
 have hna3 := h3.na
 have hnx3 := h3.nx
 have hnm3 := h3.nm
 refine zag (zag (reQ 1 rfl (hvQ rfl (fdQ 0 rfl rfl rfl) (hvQ rfl (zac rfl rfl rfl (zaa 8 rfl rfl)) ?_))))
 refine hvQ rfl (lnQ rfl rfl rfl (fun w hm => (hD w (hm.sub (.cons _ (.cons _ (.cons _ (.cons _ (.cons _ (.cons _ (.cons _ (.cons _ (.cons _ (.cons _ (.refl _))))))))))))).row)) (zbq rfl rfl rfl rfl rfl rfl (fun h40 => ?_) (fun h40 => ?_))
 ·
  refine zam 2 rfl (zbq rfl rfl rfl rfl rfl rfl (fun h41 => ?_) (fun h41 => ?_))
  ·
   refine zay 1 rfl (zah rfl (zcv (sbQ (zag (zag (reQ 1 rfl ?_))))))
   refine zcg (R := (fun u_ p_ => (∃ b : Bool, u_ = .bool b) ∧ p_ = curE g a len cap)) 9 rfl rfl rfl rfl rfl (fun l' w hm => once_mut hm hb (2) (by omega) (by omega)) ?_
   intro v42 p43 hR44
   obtain ⟨⟨xhR44, rfl⟩, rfl⟩ := hR44
   refine zcl (l' := (bigE ps3 :: rowE 38 3 m3.sv m3.ss.length (m3.ss.flatMap sgC) :: rowE 63 3 m3.iv m3.xs.length (m3.xs.flatMap ixC) :: rowE 94 4 m3.mv m3.ms.length (m3.ms.flatMap mmC) :: rowE 3 1 W2.1 W2.2.length (W2.2.map (Value.int .i64)) :: rowE 3 1 U3.1 U3.2.length (U3.2.map (Value.int .i64)) :: boxE b3 #[m3.sv, m3.av, m3.iv, m3.mv] 35 :: boxE b2 #[.slice none 0 0, .slice none 0 0, .slice none 0 0, .slice none 0 0] 35 :: boxE b1 #[v] 26 :: curE g a len cap :: l)) rfl ?_
   refine zbm (fun h45 => ?_) (fun h45 => ?_)
   ·
    refine zay 5 rfl (zap rfl (zcv (zag (reQ 1 rfl (hvQ rfl (fdQ 0 rfl rfl rfl) (hvQ rfl (zac rfl rfl rfl (zaa 8 rfl rfl)) ?_))))))
    refine hvQ rfl (lnQ rfl rfl rfl (fun w hm => (hD w (hm.sub (.cons _ (.cons _ (.cons _ (.cons _ (.cons _ (.cons _ (.cons _ (.cons _ (.cons _ (.cons _ (.refl _))))))))))))).row)) (zcg (R := (fun u_ p_ => (∃ x_ : Int, u_ = .int .i64 x_ ∧ 0 ≤ x_ ∧ x_ < (D.length : Int)) ∧ p_ = curE g a len cap)) 9 rfl rfl rfl rfl rfl (fun l' w hm => zby g a len cap z (D.length : Int) _ _ _ hm hb (by constructor <;> omega)) ?_)
    intro v46 p47 hR48
    obtain ⟨⟨xhR48, rfl, xhR480, xhR481⟩, rfl⟩ := hR48
    refine zcl (l' := (bigE ps3 :: rowE 38 3 m3.sv m3.ss.length (m3.ss.flatMap sgC) :: rowE 63 3 m3.iv m3.xs.length (m3.xs.flatMap ixC) :: rowE 94 4 m3.mv m3.ms.length (m3.ms.flatMap mmC) :: rowE 3 1 W2.1 W2.2.length (W2.2.map (Value.int .i64)) :: rowE 3 1 U3.1 U3.2.length (U3.2.map (Value.int .i64)) :: boxE b3 #[m3.sv, m3.av, m3.iv, m3.mv] 35 :: boxE b2 #[.slice none 0 0, .slice none 0 0, .slice none 0 0, .slice none 0 0] 35 :: boxE b1 #[v] 26 :: curE g a len cap :: l)) rfl ?_
    refine zam 1 rfl (zea rfl (zak (z := .int .i64 0) (s := 1) (cs := ([0, 0, 1, 2].map (Value.int .i64))) rfl Try.underlying48 rfl (by decide) rfl (by kernel_rfl) rfl) ?_)
    intro g49
    refine zds (R := (fun u_ p_ => (∃ x : Int, u_ = .int .i64 x ∧ x ∈ ([0, 0, 1, 2] : List Int)) ∧ p_ = curE g a len cap)) 10 rfl rfl rfl rfl rfl (fun L w hX hm => zdy g a len cap z (.slice (some ⟨g49, 0, none⟩) 4 4) [0, 0, 1, 2] _ _ _ hm hb (fun w hm => (zaj (l := (rowE 3 1 (.slice (some ⟨g49, 0, none⟩) 4 4) 4 ([0, 0, 1, 2].map (Value.int .i64)) :: bigE ps3 :: rowE 38 3 m3.sv m3.ss.length (m3.ss.flatMap sgC) :: rowE 63 3 m3.iv m3.xs.length (m3.xs.flatMap ixC) :: rowE 94 4 m3.mv m3.ms.length (m3.ms.flatMap mmC) :: rowE 3 1 W2.1 W2.2.length (W2.2.map (Value.int .i64)) :: rowE 3 1 U3.1 U3.2.length (U3.2.map (Value.int .i64)) :: boxE b3 #[m3.sv, m3.av, m3.iv, m3.mv] 35 :: boxE b2 #[.slice none 0 0, .slice none 0 0, .slice none 0 0, .slice none 0 0] 35 :: boxE b1 #[v] 26 :: l)) 0 rfl) w (hX w hm)) (by decide)) ?_
    intro v50 p51 hR52
    obtain ⟨⟨xhR52, rfl, xhR52m⟩, rfl⟩ := hR52
    have xhR52w := lit4 xhR52m (by decide)
    refine zcl (l' := (rowE 3 1 (.slice (some ⟨g49, 0, none⟩) 4 4) 4 ([0, 0, 1, 2].map (Value.int .i64)) :: bigE ps3 :: rowE 38 3 m3.sv m3.ss.length (m3.ss.flatMap sgC) :: rowE 63 3 m3.iv m3.xs.length (m3.xs.flatMap ixC) :: rowE 94 4 m3.mv m3.ms.length (m3.ms.flatMap mmC) :: rowE 3 1 W2.1 W2.2.length (W2.2.map (Value.int .i64)) :: rowE 3 1 U3.1 U3.2.length (U3.2.map (Value.int .i64)) :: boxE b3 #[m3.sv, m3.av, m3.iv, m3.mv] 35 :: boxE b2 #[.slice none 0 0, .slice none 0 0, .slice none 0 0, .slice none 0 0] 35 :: boxE b1 #[v] 26 :: curE g a len cap :: l)) rfl ?_
    refine hvQ rfl (zbk (cs := #[.int .i64 xhR48, .int .i64 xhR52, .slice none 0 0]) rfl rfl rfl) (zdn rfl (zbl (z := .agg #[.int .i64 0, .int .i64 0, .slice none 0 0]) rfl rfl) ?_)
    intro b53
    refine zbh (cs' := #[.int .i64 xhR48, .int .i64 xhR52, .slice none 0 0]) (i := 0) (off := 0) (us := [.int .i64 xhR48, .int .i64 xhR52, .slice none 0 0]) rfl rfl rfl rfl rfl rfl rfl (zab rfl (zab rfl (zab rfl zbc))) rfl rfl rfl (ntQ (srQ (hvQ rfl (fdQ 0 rfl rfl rfl) (hvQ rfl (zac rfl rfl rfl (zaa 10 rfl rfl)) (hvQ rfl (fdQ 0 rfl rfl rfl) (hvQ rfl (zac rfl rfl rfl (zaa 0 rfl rfl)) ?_))))))
    refine hvQ rfl (riQ 4 rfl rfl rfl rfl (fun w hm => (hD w (hm.sub (.cons _ (.cons _ (.cons _ (.cons _ (.cons _ (.cons _ (.cons _ (.cons _ (.cons _ (.cons _ (.cons _ (.cons _ (.refl _))))))))))))))).row)) (hvQ rfl (zbb (us := [(D.getD ((xhR48).toNat) md0).sv, (D.getD ((xhR48).toNat) md0).av, (D.getD ((xhR48).toNat) md0).iv, (D.getD ((xhR48).toNat) md0).mv]) rfl rfl rfl rfl (fun w hm => (hD w (hm.sub (.cons _ (.cons _ (.cons _ (.cons _ (.cons _ (.cons _ (.cons _ (.cons _ (.cons _ (.cons _ (.cons _ (.cons _ (.refl _))))))))))))))).row) (by omega) rfl (zbr mdC 4 (fun _ => rfl) D md0 (show (xhR48).toNat < _ by omega) rfl)) ?_)
    refine zdn rfl (zbl (z := .agg #[.slice none 0 0, .slice none 0 0, .slice none 0 0, .slice none 0 0]) rfl rfl) ?_
    intro b54
    refine zbh (cs' := #[(D.getD ((xhR48).toNat) md0).sv, (D.getD ((xhR48).toNat) md0).av, (D.getD ((xhR48).toNat) md0).iv, (D.getD ((xhR48).toNat) md0).mv]) (i := 0) (off := 0) (us := [(D.getD ((xhR48).toNat) md0).sv, (D.getD ((xhR48).toNat) md0).av, (D.getD ((xhR48).toNat) md0).iv, (D.getD ((xhR48).toNat) md0).mv]) rfl rfl rfl rfl rfl rfl rfl (zab (hch _ (zbw (by omega))).1 (zab (hch _ (zbw (by omega))).2.1 (zab (hch _ (zbw (by omega))).2.2.1 (zab (hch _ (zbw (by omega))).2.2.2 zbc)))) rfl rfl rfl (ntQ (srQ (hvQ rfl (zax (cs := [(D.getD ((xhR48).toNat) md0).sv, (D.getD ((xhR48).toNat) md0).av, (D.getD ((xhR48).toNat) md0).iv, (D.getD ((xhR48).toNat) md0).mv]) rfl rfl rfl rfl rfl (zat 0 rfl 0 rfl)) ?_)))
    refine hl_q rfl rfl rfl (zaw rfl rfl (fun w hm => zed (D.getD ((xhR48).toNat) md0) w ((hD w (hm.sub (.cons _ (.cons _ (.cons _ (.cons _ (.cons _ (.cons _ (.cons _ (.cons _ (.cons _ (.cons _ (.cons _ (.cons _ (.cons _ (.refl _)))))))))))))))).at (by omega)))) ?_
    intro v55 p56 hR57
    subst hR57
    refine zay 1 rfl (srQ ?_)
    refine zea rfl (zee (s := 1) rfl Try.underlying48 rfl) ?_
    intro g58
    refine zay 1 rfl (zag (zbg 1 rfl (zaz ?_)))
    refine zfe (rowE 3 1 (.slice none 0 0) (([] : List Int).length) (([] : List Int).map (Value.int .i64)) :: rowE 3 1 (.slice (some ⟨g58, 0, none⟩) 0 0) 0 ([]) :: rowE 3 1 v55 ((ptsK (D.getD ((xhR48).toNat) md0)).length) ((ptsK (D.getD ((xhR48).toNat) md0)).map (Value.int .i64)) :: boxE b54 #[(D.getD ((xhR48).toNat) md0).sv, (D.getD ((xhR48).toNat) md0).av, (D.getD ((xhR48).toNat) md0).iv, (D.getD ((xhR48).toNat) md0).mv] 35 :: boxE b53 #[.int .i64 xhR48, .int .i64 xhR52, .slice none 0 0] 63 :: rowE 3 1 (.slice (some ⟨g49, 0, none⟩) 4 4) 4 ([0, 0, 1, 2].map (Value.int .i64)) :: bigE ps3 :: rowE 38 3 m3.sv m3.ss.length (m3.ss.flatMap sgC) :: rowE 63 3 m3.iv m3.xs.length (m3.xs.flatMap ixC) :: rowE 94 4 m3.mv m3.ms.length (m3.ms.flatMap mmC) :: rowE 3 1 W2.1 W2.2.length (W2.2.map (Value.int .i64)) :: rowE 3 1 U3.1 U3.2.length (U3.2.map (Value.int .i64)) :: boxE b3 #[m3.sv, m3.av, m3.iv, m3.mv] 35 :: boxE b2 #[.slice none 0 0, .slice none 0 0, .slice none 0 0, .slice none 0 0] 35 :: boxE b1 #[v] 26 :: curE g a len cap :: l) (fun w hm => hm.nilRow 3 1) ?_
    refine lkQ4 (α := Nat) (β := Md) (γ := (Value × List Int) × Value × List Int) (δ := List HP) [0, 1, 3, 4, 5, 6, 7, 11, 12, 13, 14, 33, 55, 89, 98] rfl (fun j q Y pq => (rowE 3 1 Y.1.1 Y.1.2.length (Y.1.2.map (Value.int .i64)) :: rowE 3 1 Y.2.1 Y.2.2.length (Y.2.2.map (Value.int .i64)) :: rowE 3 1 v55 ((ptsK (D.getD ((xhR48).toNat) md0)).length) ((ptsK (D.getD ((xhR48).toNat) md0)).map (Value.int .i64)) :: boxE b54 #[(D.getD ((xhR48).toNat) md0).sv, (D.getD ((xhR48).toNat) md0).av, (D.getD ((xhR48).toNat) md0).iv, (D.getD ((xhR48).toNat) md0).mv] 35 :: boxE b53 #[.int .i64 xhR48, .int .i64 xhR52, Y.1.1] 63 :: bigE pq :: rowE 38 3 q.sv q.ss.length (q.ss.flatMap sgC) :: rowE 63 3 q.iv q.xs.length (q.xs.flatMap ixC) :: rowE 94 4 q.mv q.ms.length (q.ms.flatMap mmC) :: rowE 3 1 W2.1 W2.2.length (W2.2.map (Value.int .i64)) :: rowE 3 1 U3.1 U3.2.length (U3.2.map (Value.int .i64)) :: boxE b3 #[q.sv, q.av, q.iv, q.mv] 35 :: boxE b2 #[.slice none 0 0, .slice none 0 0, .slice none 0 0, .slice none 0 0] 35 :: boxE b1 #[v] 26 :: curE g a len cap :: l)) (fun j q Y pq => [(15, Y.2.1), (16, .int .i64 (j : Int))]) (fun j q Y pq => j ≤ (ptsK (D.getD ((xhR48).toNat) md0)).length ∧ MI D q U3.2 (W2.2 ++ Y.2.2) (4 + 4 * t + j) (4 * t + j) t 0 2 (4 + 4 * t) ∧ IjP D q xhR48 m3.ss.length Y.1.2 Y.2.2 j ∧ ∀ w, (bigE pq).holds w → RdP w q) (fun j q Y pq => (ptsK (D.getD ((xhR48).toNat) md0)).length - j) 0 m3 ((_, []), (_, [])) ps3 ⟨Nat.zero_le _, by rw [List.append_nil]; exact h3, IjP.start D m3 _, hp3⟩ (saQ rfl) (.cons_cons _ (.cons_cons _ (.cons_cons _ (.cons_cons _ (.cons_cons _ (.cons _ (.refl _))))))) ?_
    intro j q Y pq hi59
    obtain ⟨hj, hq, hij, hpq⟩ := hi59
    have hnsq := hq.ns
    have hnxq := hq.nx
    have hnaq := hq.na
    have hpt4 : (ptsK (D.getD ((xhR48).toNat) md0)).length ≤ 4 := by have h8 := hdd.md (((xhR48).toNat)) (by omega); rw [ptsK_len h8.len.1]; exact h8.pt
    have hyl := hij.len
    have hyo : Y.2.2.length ≤ j := by have h8 := xoA_le D (Ix.mk xhR48 0 (.slice none 0 0) Y.1.2) j; rw [← hij.oq] at h8; exact h8
    refine zag (zag (reQ 2 rfl (hvQ rfl (lnQ rfl rfl rfl (zaj 2 rfl)) ?_)))
    refine zbq rfl rfl rfl rfl rfl rfl (fun h60 => ?_) (fun h60 => ?_)
    ·
     refine ntQ (zah rfl (zcv (sbQ (zag ?_))))
     have hpt := zdu (m := (D.getD ((xhR48).toNat) md0)) (j := j) (by omega)
     have hkd := zcp hpt
     have hsg9 := (hdd.md (((xhR48).toNat)) (by omega)).b.sg _ (zbw (d := sg0) (show (((ptsK (D.getD ((xhR48).toNat) md0)).getD j 0)).toNat < ((D.getD ((xhR48).toNat) md0)).ss.length by omega))
     obtain ⟨⟨hsa, hsb⟩, ⟨hsc, hsd⟩, -⟩ := hsg9
     refine zbz 9 [[], [0], [], [], [2, 3], [4], [1, 5], [6], [7]] [123, 124, 125, 126, 127, 128, 129, 130, 131] [.pointer (some ⟨b54, 0 + 0, none⟩), (D.getD ((xhR48).toNat) md0).sv, v55, .int .i64 (j : Int), elP v55 (((j : Int)).toNat * 1), .int .i64 ((ptsK (D.getD ((xhR48).toNat) md0)).getD j 0), elP ((D.getD ((xhR48).toNat) md0).sv) (((ptsK (D.getD ((xhR48).toNat) md0)).getD j 0).toNat * 3), elP ((D.getD ((xhR48).toNat) md0).sv) (((ptsK (D.getD ((xhR48).toNat) md0)).getD j 0).toNat * 3 + 1), .int .i64 ((((D.getD ((xhR48).toNat) md0).ss).getD (((ptsK (D.getD ((xhR48).toNat) md0)).getD j 0).toNat) sg0).w)] (by kernel_rfl) rfl ?_ ?_
     ·
      exact ⟨iaQ rfl (fdQ 0 rfl rfl rfl) rfl, iaQ rfl (zac rfl rfl rfl (zaa 3 rfl rfl)) rfl, iaQ rfl (zau rfl) rfl, iaQ rfl (zau rfl) rfl, iaQ rfl (riQ 1 rfl rfl rfl rfl (zaj 2 rfl)) rfl, iaQ rfl (zan (u := .int .i64 ((ptsK (D.getD ((xhR48).toNat) md0)).getD j 0)) rfl rfl rfl (zaj 2 rfl) (zcn (show _ < (ptsK (D.getD ((xhR48).toNat) md0)).length by omega))) rfl, iaQ rfl (riQ 3 rfl rfl rfl rfl (fun w hm => ((hD w (hm.sub (.cons _ (.cons _ (.cons _ (.cons _ (.cons _ (.cons _ (.cons _ (.cons _ (.cons _ (.cons _ (.cons _ (.cons _ (.cons _ (.cons _ (.cons _ (.refl _)))))))))))))))))).at (k := ((xhR48).toNat)) (by omega)).s)) rfl, iaQ rfl (zaq (k0 := 1) rfl rfl rfl (fun w hm => ((hD w (hm.sub (.cons _ (.cons _ (.cons _ (.cons _ (.cons _ (.cons _ (.cons _ (.cons _ (.cons _ (.cons _ (.cons _ (.cons _ (.cons _ (.cons _ (.cons _ (.refl _)))))))))))))))))).at (k := ((xhR48).toNat)) (by omega)).s) (by omega)) rfl, iaQ rfl (zan (u := .int .i64 ((((D.getD ((xhR48).toNat) md0).ss).getD (((ptsK (D.getD ((xhR48).toNat) md0)).getD j 0).toNat) sg0).w)) rfl rfl rfl (fun w hm => ((hD w (hm.sub (.cons _ (.cons _ (.cons _ (.cons _ (.cons _ (.cons _ (.cons _ (.cons _ (.cons _ (.cons _ (.cons _ (.cons _ (.cons _ (.cons _ (.cons _ (.refl _)))))))))))))))))).at (k := ((xhR48).toNat)) (by omega)).s) ((zbd sgC 3 (fun _ => rfl) ((D.getD ((xhR48).toNat) md0).ss) sg0 (show ((ptsK (D.getD ((xhR48).toNat) md0)).getD j 0).toNat < _ by omega) (by decide)).trans rfl)) rfl, trivial⟩
     simp only [List.drop_succ_cons, List.drop_zero]
     refine zay 1 rfl ?_
     refine zfg (α := Int) (fun wd => (rowE 3 1 Y.1.1 Y.1.2.length (Y.1.2.map (Value.int .i64)) :: rowE 3 1 Y.2.1 Y.2.2.length (Y.2.2.map (Value.int .i64)) :: rowE 3 1 v55 ((ptsK (D.getD ((xhR48).toNat) md0)).length) ((ptsK (D.getD ((xhR48).toNat) md0)).map (Value.int .i64)) :: boxE b54 #[(D.getD ((xhR48).toNat) md0).sv, (D.getD ((xhR48).toNat) md0).av, (D.getD ((xhR48).toNat) md0).iv, (D.getD ((xhR48).toNat) md0).mv] 35 :: boxE b53 #[.int .i64 xhR48, .int .i64 xhR52, Y.1.1] 63 :: bigE pq :: rowE 38 3 q.sv q.ss.length (q.ss.flatMap sgC) :: rowE 63 3 q.iv q.xs.length (q.xs.flatMap ixC) :: rowE 94 4 q.mv q.ms.length (q.ms.flatMap mmC) :: rowE 3 1 W2.1 W2.2.length (W2.2.map (Value.int .i64)) :: rowE 3 1 U3.1 U3.2.length (U3.2.map (Value.int .i64)) :: boxE b3 #[q.sv, q.av, q.iv, q.mv] 35 :: boxE b2 #[.slice none 0 0, .slice none 0 0, .slice none 0 0, .slice none 0 0] 35 :: boxE b1 #[v] 26 :: curE g a len cap :: l)) (fun wd => [(0, .pointer (some ⟨g, 0, none⟩)), (1, .agg #[v]), (3, .pointer (some ⟨b1, 0, none⟩)), (4, .pointer (some ⟨b2, 0, none⟩)), (5, .pointer (some ⟨b3, 0, none⟩)), (6, U3.1), (7, W2.1), (11, .int .i64 (t : Int)), (12, .pointer (some ⟨b53, 0, none⟩)), (13, .pointer (some ⟨b54, 0, none⟩)), (14, v55), (15, Y.2.1), (16, .int .i64 (j : Int)), (17, .int .i64 wd), (33, .bool false), (55, .bool false), (89, .bool true), (98, .bool false), (120, .bool true)]) (fun wd => 0 ≤ wd ∧ wd ≤ 4) ?_ ?_
     ·
      refine zag (reQ 1 rfl ?_)
      refine zbu rfl rfl rfl rfl rfl rfl (fun h61 => ?_) (fun h61 => ?_)
      ·
       refine ntQ (zah rfl (zas (hvQ rfl (fdQ 1 rfl rfl rfl) (hvQ rfl (zac rfl rfl rfl (zaa 4 rfl rfl)) (enQ 1 rfl ?_)))))
       exact zde xhR52 ⟨by omega, by omega⟩ (saQ rfl) (.refl _)
      refine ntQ (fsQ rfl ?_)
      exact zde ((((D.getD ((xhR48).toNat) md0).ss).getD (((ptsK (D.getD ((xhR48).toNat) md0)).getD j 0).toNat) sg0).w) ⟨by omega, by omega⟩ (saQ rfl) (.refl _)
     intro wd hm62
     have hwd9 : 0 ≤ wd ∧ wd ≤ 4 := hm62
     refine srQ (hvQ rfl (fdQ 0 rfl rfl rfl) (hvQ rfl (zac rfl rfl rfl (zaa 11 rfl rfl)) (hvQ rfl (lnQ rfl rfl rfl (zaj 6 rfl)) (zay 1 rfl (srQ (hvQ rfl (fdQ 0 rfl rfl rfl) (hvQ rfl (zac rfl rfl rfl (zaa 11 rfl rfl)) (zam 1 rfl ?_))))))))
     refine hvQ rfl (zbk (cs := #[.int .i64 2, .int .i64 wd, .int .i64 0]) rfl rfl rfl) (zea rfl (zak (z := .agg #[.int .i64 0, .int .i64 0, .int .i64 0]) (s := 3) (cs := ([2, wd, 0].map (Value.int .i64))) rfl Try.underlying30 rfl (by decide) rfl (by kernel_rfl) rfl) ?_)
     intro g63
     refine zcs (i := 7) (z := .agg #[.int .i64 0, .int .i64 0, .int .i64 0]) (bytes := 24) rfl rfl rfl rfl Try.underlying30 (by kernel_rfl) rfl rfl rfl rfl (zaj 0 rfl) (zbx _) (by first | omega | (simp only [List.length_append, List.length_cons, List.length_nil]; omega)) (zcc q.ss [(Sg.mk 2 wd 0)]) (zcz sgC q.ss (Sg.mk 2 wd 0) _ rfl) (fun _ => rfl) ?_
     intro v64
     refine hvQ rfl (fdQ 0 rfl rfl rfl) (zct (i := 7) rfl (fun ho65 => ?_))
     refine zdo (i := 12) (cs' := #[v64, q.av, q.iv, q.mv]) rfl rfl rfl rfl rfl rfl ho65 rfl rfl rfl rfl (ntQ (srQ (hvQ rfl (fdQ 2 rfl rfl rfl) (hvQ rfl (zac rfl rfl rfl (zaa 5 rfl rfl)) (zam 1 rfl ?_)))))
     refine zea rfl (zak (z := .int .i64 0) (s := 1) (cs := ([(q.ss.length : Int)].map (Value.int .i64))) rfl Try.underlying48 rfl (by decide) rfl (by kernel_rfl) rfl) ?_
     intro g66
     refine zcs (i := 2) (z := .int .i64 0) (bytes := 8) rfl rfl rfl rfl Try.underlying48 (by kernel_rfl) rfl rfl rfl rfl (zaj 0 rfl) (zbx _) (by first | omega | (simp; done) | (simp; omega)) (zcc Y.1.2 ([(q.ss.length : Int)])) (zcw Y.1.2 ([(q.ss.length : Int)])) (fun _ => rfl) ?_
     intro v67
     refine hvQ rfl (fdQ 2 rfl rfl rfl) (zct (i := 2) rfl (fun ho68 => ?_))
     refine zdo (i := 6) (cs' := #[.int .i64 xhR48, .int .i64 xhR52, v67]) rfl rfl rfl rfl rfl rfl ho68 rfl rfl rfl rfl (ntQ (zag ?_))
     rcases Bool.eq_false_or_eq_true (((((D.getD ((xhR48).toNat) md0).ss).getD (((ptsK (D.getD ((xhR48).toNat) md0)).getD j 0).toNat) sg0).k) == 1) with hb69 | hb69
     ·
      have hb69p : (((D.getD ((xhR48).toNat) md0).ss).getD (((ptsK (D.getD ((xhR48).toNat) md0)).getD j 0).toNat) sg0).k = 1 := beq_iff_eq.1 hb69
      refine zbz 10 [[], [0], [], [], [2, 3], [4], [1, 5], [6], [7], [8]] [152, 153, 154, 155, 156, 157, 158, 159, 160, 161] [.pointer (some ⟨b54, 0 + 0, none⟩), (D.getD ((xhR48).toNat) md0).sv, v55, .int .i64 (j : Int), elP v55 (((j : Int)).toNat * 1), .int .i64 ((ptsK (D.getD ((xhR48).toNat) md0)).getD j 0), elP ((D.getD ((xhR48).toNat) md0).sv) (((ptsK (D.getD ((xhR48).toNat) md0)).getD j 0).toNat * 3), elP ((D.getD ((xhR48).toNat) md0).sv) (((ptsK (D.getD ((xhR48).toNat) md0)).getD j 0).toNat * 3 + 0), .int .i64 ((((D.getD ((xhR48).toNat) md0).ss).getD (((ptsK (D.getD ((xhR48).toNat) md0)).getD j 0).toNat) sg0).k), .bool true] (by kernel_rfl) rfl ?_ ?_
      ·
       exact ⟨iaQ rfl (fdQ 0 rfl rfl rfl) rfl, iaQ rfl (zac rfl rfl rfl (zaa 5 rfl rfl)) rfl, iaQ rfl (zau rfl) rfl, iaQ rfl (zau rfl) rfl, iaQ rfl (riQ 1 rfl rfl rfl rfl (zaj 4 rfl)) rfl, iaQ rfl (zan (u := .int .i64 ((ptsK (D.getD ((xhR48).toNat) md0)).getD j 0)) rfl rfl rfl (zaj 4 rfl) (zcn (show _ < (ptsK (D.getD ((xhR48).toNat) md0)).length by omega))) rfl, iaQ rfl (riQ 3 rfl rfl rfl rfl (fun w hm => ((hD w (hm.sub (.cons _ (.cons _ (.cons _ (.cons _ (.cons _ (.cons _ (.cons _ (.cons _ (.cons _ (.cons _ (.cons _ (.cons _ (.cons _ (.cons _ (.cons _ (.cons _ (.cons _ (.refl _)))))))))))))))))))).at (k := ((xhR48).toNat)) (by omega)).s)) rfl, iaQ rfl (zaq (k0 := 0) rfl rfl rfl (fun w hm => ((hD w (hm.sub (.cons _ (.cons _ (.cons _ (.cons _ (.cons _ (.cons _ (.cons _ (.cons _ (.cons _ (.cons _ (.cons _ (.cons _ (.cons _ (.cons _ (.cons _ (.cons _ (.cons _ (.refl _)))))))))))))))))))).at (k := ((xhR48).toNat)) (by omega)).s) (by omega)) rfl, iaQ rfl (zan (u := .int .i64 ((((D.getD ((xhR48).toNat) md0).ss).getD (((ptsK (D.getD ((xhR48).toNat) md0)).getD j 0).toNat) sg0).k)) rfl rfl rfl (fun w hm => ((hD w (hm.sub (.cons _ (.cons _ (.cons _ (.cons _ (.cons _ (.cons _ (.cons _ (.cons _ (.cons _ (.cons _ (.cons _ (.cons _ (.cons _ (.cons _ (.cons _ (.cons _ (.cons _ (.refl _)))))))))))))))))))).at (k := ((xhR48).toNat)) (by omega)).s) ((zbd sgC 3 (fun _ => rfl) ((D.getD ((xhR48).toNat) md0).ss) sg0 (show ((ptsK (D.getD ((xhR48).toNat) md0)).getD j 0).toNat < _ by omega) (by decide)).trans rfl)) rfl, .inl ⟨rfl, zdl (zcf rfl rfl rfl rfl) hb69⟩, trivial⟩
      simp only [List.drop_succ_cons, List.drop_zero]
      refine ntQ (zah rfl (reQ 2 rfl ?_))
      refine zea rfl (zak (z := .int .i64 0) (s := 1) (cs := ([(q.ss.length : Int)].map (Value.int .i64))) rfl Try.underlying48 rfl (by decide) rfl (by kernel_rfl) rfl) ?_
      intro g70
      refine zcs (i := 4) (z := .int .i64 0) (bytes := 8) rfl rfl rfl rfl Try.underlying48 (by kernel_rfl) rfl rfl rfl rfl (zaj 0 rfl) (zbx _) (by first | omega | (simp; done) | (simp; omega)) (zcc Y.2.2 ([(q.ss.length : Int)])) (zcw Y.2.2 ([(q.ss.length : Int)])) (fun _ => rfl) ?_
      intro v71
      refine enQ 1 rfl (zdh (reQ 1 rfl (hvQ rfl (vaQ rfl rfl rfl) (enQ 1 rfl ?_))))
      exact zdq (j + 1) (Md.mk v64 q.av q.iv q.mv (q.ss ++ [(Sg.mk 2 wd 0)]) q.gs q.xs q.ms) ((v67, Y.1.2 ++ ([(q.ss.length : Int)])), (v71, Y.2.2 ++ ([(q.ss.length : Int)]))) pq ⟨by omega, (hq.wire _ hwd9 mem_app1).up (by omega) (by omega) (by omega) (by omega) (by omega) (by omega), hij.out rfl (by omega), fun w hw => hpq w hw⟩ (by omega) (saQ rfl) (.cons _ (.cons _ (.cons _ (.refl _))))
     have hb69p : (((D.getD ((xhR48).toNat) md0).ss).getD (((ptsK (D.getD ((xhR48).toNat) md0)).getD j 0).toNat) sg0).k ≠ 1 := beq_eq_false_iff_ne.1 hb69
     refine zbz 10 [[], [0], [], [], [2, 3], [4], [1, 5], [6], [7], [8]] [152, 153, 154, 155, 156, 157, 158, 159, 160, 161] [.pointer (some ⟨b54, 0 + 0, none⟩), (D.getD ((xhR48).toNat) md0).sv, v55, .int .i64 (j : Int), elP v55 (((j : Int)).toNat * 1), .int .i64 ((ptsK (D.getD ((xhR48).toNat) md0)).getD j 0), elP ((D.getD ((xhR48).toNat) md0).sv) (((ptsK (D.getD ((xhR48).toNat) md0)).getD j 0).toNat * 3), elP ((D.getD ((xhR48).toNat) md0).sv) (((ptsK (D.getD ((xhR48).toNat) md0)).getD j 0).toNat * 3 + 0), .int .i64 ((((D.getD ((xhR48).toNat) md0).ss).getD (((ptsK (D.getD ((xhR48).toNat) md0)).getD j 0).toNat) sg0).k), .bool false] (by kernel_rfl) rfl ?_ ?_
     ·
      exact ⟨iaQ rfl (fdQ 0 rfl rfl rfl) rfl, iaQ rfl (zac rfl rfl rfl (zaa 5 rfl rfl)) rfl, iaQ rfl (zau rfl) rfl, iaQ rfl (zau rfl) rfl, iaQ rfl (riQ 1 rfl rfl rfl rfl (zaj 4 rfl)) rfl, iaQ rfl (zan (u := .int .i64 ((ptsK (D.getD ((xhR48).toNat) md0)).getD j 0)) rfl rfl rfl (zaj 4 rfl) (zcn (show _ < (ptsK (D.getD ((xhR48).toNat) md0)).length by omega))) rfl, iaQ rfl (riQ 3 rfl rfl rfl rfl (fun w hm => ((hD w (hm.sub (.cons _ (.cons _ (.cons _ (.cons _ (.cons _ (.cons _ (.cons _ (.cons _ (.cons _ (.cons _ (.cons _ (.cons _ (.cons _ (.cons _ (.cons _ (.cons _ (.cons _ (.refl _)))))))))))))))))))).at (k := ((xhR48).toNat)) (by omega)).s)) rfl, iaQ rfl (zaq (k0 := 0) rfl rfl rfl (fun w hm => ((hD w (hm.sub (.cons _ (.cons _ (.cons _ (.cons _ (.cons _ (.cons _ (.cons _ (.cons _ (.cons _ (.cons _ (.cons _ (.cons _ (.cons _ (.cons _ (.cons _ (.cons _ (.cons _ (.refl _)))))))))))))))))))).at (k := ((xhR48).toNat)) (by omega)).s) (by omega)) rfl, iaQ rfl (zan (u := .int .i64 ((((D.getD ((xhR48).toNat) md0).ss).getD (((ptsK (D.getD ((xhR48).toNat) md0)).getD j 0).toNat) sg0).k)) rfl rfl rfl (fun w hm => ((hD w (hm.sub (.cons _ (.cons _ (.cons _ (.cons _ (.cons _ (.cons _ (.cons _ (.cons _ (.cons _ (.cons _ (.cons _ (.cons _ (.cons _ (.cons _ (.cons _ (.cons _ (.cons _ (.refl _)))))))))))))))))))).at (k := ((xhR48).toNat)) (by omega)).s) ((zbd sgC 3 (fun _ => rfl) ((D.getD ((xhR48).toNat) md0).ss) sg0 (show ((ptsK (D.getD ((xhR48).toNat) md0)).getD j 0).toNat < _ by omega) (by decide)).trans rfl)) rfl, .inl ⟨rfl, zdl (zcf rfl rfl rfl rfl) hb69⟩, trivial⟩
     simp only [List.drop_succ_cons, List.drop_zero]
     refine ntQ (zap rfl (zas ?_))
     refine zgb (p := (∀ g9 ∈ q.gs, g9.ov.oneCell' = true) ∧ v64.oneCell' = true ∧ q.av.oneCell' = true ∧ q.iv.oneCell' = true ∧ q.mv.oneCell' = true) (fun w hm => ⟨fun g9 hg9 => ((hpq w (hm.holds _ (zcj (i := 7) rfl))).2.1 g9 hg9).one, (zaj 8 rfl w hm).one, (hpq w (hm.holds _ (zcj (i := 7) rfl))).1.one, (zaj 9 rfl w hm).one, (zaj 10 rfl w hm).one⟩) (fun ⟨hone9, ho9⟩ => ?_)
     refine zam 1 rfl (hvQ rfl (zax (cs := [v64, q.av, q.iv, q.mv]) rfl rfl rfl rfl rfl (zat 13 rfl 0 rfl)) (zam 2 rfl ?_))
     refine zds (R := (fun u_ p_ => ∃ (v' ov : Value) (os : List Oq) (ps : List HP), u_ = .agg #[v64, v', q.iv, q.mv] ∧ p_ = bigE [curE g a len cap, bigE ps] ∧ (∀ w, (bigE ps).holds w → RdsW w v' 2 (q.gs ++ [As.mk (q.ss.length : Int) ov os]).length ((q.gs ++ [As.mk (q.ss.length : Int) ov os]).flatMap asC) ∧ RdsW w ov 3 os.length (os.flatMap oqC)) ∧ v'.oneCell' = true ∧ ov.oneCell' = true ∧ ExP (q.ss.length : Int) 9 os)) 16 rfl rfl rfl rfl rfl (fun L w hX hm => zdz g a len cap z (q.ss.length : Int) (Md.mk v64 q.av q.iv q.mv (q.ss ++ [(Sg.mk 2 wd 0)]) q.gs q.xs q.ms) (q.ss.length : Int) U3.1 _ _ _ _ hm hb (fun w9 h9 => (zaj (l := (rowE 3 1 (.slice (some ⟨g66, 0, none⟩) 1 1) 1 ([(q.ss.length : Int)].map (Value.int .i64)) :: rowE 38 3 (.slice (some ⟨g63, 0, none⟩) 1 1) 1 ([2, wd, 0].map (Value.int .i64)) :: rowE 3 1 v67 ((Y.1.2 ++ ([(q.ss.length : Int)])).length) ((Y.1.2 ++ ([(q.ss.length : Int)])).map (Value.int .i64)) :: rowE 3 1 Y.2.1 Y.2.2.length (Y.2.2.map (Value.int .i64)) :: rowE 3 1 v55 ((ptsK (D.getD ((xhR48).toNat) md0)).length) ((ptsK (D.getD ((xhR48).toNat) md0)).map (Value.int .i64)) :: boxE b54 #[(D.getD ((xhR48).toNat) md0).sv, (D.getD ((xhR48).toNat) md0).av, (D.getD ((xhR48).toNat) md0).iv, (D.getD ((xhR48).toNat) md0).mv] 35 :: boxE b53 #[.int .i64 xhR48, .int .i64 xhR52, v67] 63 :: bigE pq :: rowE 38 3 v64 ((q.ss ++ [(Sg.mk 2 wd 0)]).length) ((q.ss ++ [(Sg.mk 2 wd 0)]).flatMap sgC) :: rowE 63 3 q.iv q.xs.length (q.xs.flatMap ixC) :: rowE 94 4 q.mv q.ms.length (q.ms.flatMap mmC) :: rowE 3 1 W2.1 W2.2.length (W2.2.map (Value.int .i64)) :: rowE 3 1 U3.1 U3.2.length (U3.2.map (Value.int .i64)) :: boxE b3 #[v64, q.av, q.iv, q.mv] 35 :: boxE b2 #[.slice none 0 0, .slice none 0 0, .slice none 0 0, .slice none 0 0] 35 :: boxE b1 #[v] 26 :: l)) 12 rfl) w9 (hX w9 h9)) (fun x hx => hq.av x hx) (by have h9 := hq.na; omega) (fun w9 h9 => (hpq w9 ((hX w9 h9).holds _ (zcj (i := 7) rfl))).1) (by have h9 := hq.ng; show q.gs.length ≤ 1000; omega) hone9 ⟨ho9.1, ho9.2.1, ho9.2.2.1, ho9.2.2.2⟩) ?_
     intro v72 p73 hR74
     obtain ⟨avhR74, ovhR74, oshR74, aphR74, rfl, rfl, haphR74, oavhR74, oovhR74, hoshR74⟩ := hR74
     refine zcl (l' := (rowE 3 1 (.slice (some ⟨g66, 0, none⟩) 1 1) 1 ([(q.ss.length : Int)].map (Value.int .i64)) :: rowE 38 3 (.slice (some ⟨g63, 0, none⟩) 1 1) 1 ([2, wd, 0].map (Value.int .i64)) :: rowE 3 1 v67 ((Y.1.2 ++ ([(q.ss.length : Int)])).length) ((Y.1.2 ++ ([(q.ss.length : Int)])).map (Value.int .i64)) :: rowE 3 1 Y.2.1 Y.2.2.length (Y.2.2.map (Value.int .i64)) :: rowE 3 1 v55 ((ptsK (D.getD ((xhR48).toNat) md0)).length) ((ptsK (D.getD ((xhR48).toNat) md0)).map (Value.int .i64)) :: boxE b54 #[(D.getD ((xhR48).toNat) md0).sv, (D.getD ((xhR48).toNat) md0).av, (D.getD ((xhR48).toNat) md0).iv, (D.getD ((xhR48).toNat) md0).mv] 35 :: boxE b53 #[.int .i64 xhR48, .int .i64 xhR52, v67] 63 :: bigE pq :: rowE 38 3 v64 ((q.ss ++ [(Sg.mk 2 wd 0)]).length) ((q.ss ++ [(Sg.mk 2 wd 0)]).flatMap sgC) :: rowE 63 3 q.iv q.xs.length (q.xs.flatMap ixC) :: rowE 94 4 q.mv q.ms.length (q.ms.flatMap mmC) :: rowE 3 1 W2.1 W2.2.length (W2.2.map (Value.int .i64)) :: rowE 3 1 U3.1 U3.2.length (U3.2.map (Value.int .i64)) :: boxE b3 #[v64, q.av, q.iv, q.mv] 35 :: boxE b2 #[.slice none 0 0, .slice none 0 0, .slice none 0 0, .slice none 0 0] 35 :: boxE b1 #[v] 26 :: bigE [curE g a len cap, bigE aphR74] :: l)) rfl ?_
     refine zbh (cs' := #[v64, avhR74, q.iv, q.mv]) (i := 13) (off := 0) (us := [v64, avhR74, q.iv, q.mv]) rfl rfl rfl rfl rfl rfl rfl (zab ho65 (zab oavhR74 (zab ho9.2.2.1 (zab ho9.2.2.2 zbc)))) rfl rfl rfl (zcu (zdh (reQ 1 rfl (hvQ rfl (vaQ rfl rfl rfl) (enQ 1 rfl ?_)))))
     refine zbn 17 [15, 14, 13, 12, 11, 10, 9, 8, 7, 6, 5, 4, 3, 2, 1, 0, 16] rfl rfl (by decide) ?_
     refine zco (curE g a len cap :: bigE aphR74 :: rowE 3 1 (.slice (some ⟨g66, 0, none⟩) 1 1) 1 ([(q.ss.length : Int)].map (Value.int .i64)) :: rowE 38 3 (.slice (some ⟨g63, 0, none⟩) 1 1) 1 ([2, wd, 0].map (Value.int .i64)) :: rowE 3 1 v67 ((Y.1.2 ++ ([(q.ss.length : Int)])).length) ((Y.1.2 ++ ([(q.ss.length : Int)])).map (Value.int .i64)) :: rowE 3 1 Y.2.1 Y.2.2.length (Y.2.2.map (Value.int .i64)) :: rowE 3 1 v55 ((ptsK (D.getD ((xhR48).toNat) md0)).length) ((ptsK (D.getD ((xhR48).toNat) md0)).map (Value.int .i64)) :: boxE b54 #[(D.getD ((xhR48).toNat) md0).sv, (D.getD ((xhR48).toNat) md0).av, (D.getD ((xhR48).toNat) md0).iv, (D.getD ((xhR48).toNat) md0).mv] 35 :: boxE b53 #[.int .i64 xhR48, .int .i64 xhR52, v67] 63 :: bigE pq :: rowE 38 3 v64 ((q.ss ++ [(Sg.mk 2 wd 0)]).length) ((q.ss ++ [(Sg.mk 2 wd 0)]).flatMap sgC) :: rowE 63 3 q.iv q.xs.length (q.xs.flatMap ixC) :: rowE 94 4 q.mv q.ms.length (q.ms.flatMap mmC) :: rowE 3 1 W2.1 W2.2.length (W2.2.map (Value.int .i64)) :: rowE 3 1 U3.1 U3.2.length (U3.2.map (Value.int .i64)) :: boxE b3 #[v64, avhR74, q.iv, q.mv] 35 :: boxE b2 #[.slice none 0 0, .slice none 0 0, .slice none 0 0, .slice none 0 0] 35 :: boxE b1 #[v] 26 :: l) zdb ?_
     refine zbn 18 [17, 16, 15, 14, 13, 12, 11, 10, 8, 7, 6, 5, 4, 3, 2, 0, 1, 9] rfl rfl (by decide) ?_
     refine zcd 2 rfl ?_
     refine zbn 17 [1, 16, 15, 14, 13, 12, 11, 10, 9, 0, 8, 7, 6, 5, 4] rfl rfl (by decide) ?_
     exact zdq (j + 1) (Md.mk v64 avhR74 q.iv q.mv (q.ss ++ [(Sg.mk 2 wd 0)]) (q.gs ++ [As.mk (q.ss.length : Int) ovhR74 oshR74]) q.xs q.ms) ((v67, Y.1.2 ++ ([(q.ss.length : Int)])), (Y.2.1, Y.2.2)) [bigE pq, bigE aphR74] ⟨by omega, ((hq.wire _ hwd9 mem_app2).asg _ (List.mem_append_right _ List.mem_cons_self) _ hoshR74 (by show (q.ss.length : Int) ≤ ((_ : List Sg).length : Int); rw [List.length_append]; omega) (mem_less hq.plt)).up (by omega) (by omega) (by omega) (by omega) (by omega) (by omega), hij.inn rfl (by omega), fun w hw => ⟨(haphR74 w (zbi hw (List.mem_cons_of_mem _ List.mem_cons_self))).1, (hpq w (zbi hw List.mem_cons_self)).2.1.app (haphR74 w (zbi hw (List.mem_cons_of_mem _ List.mem_cons_self))).2, (hpq w (zbi hw List.mem_cons_self)).2.2⟩⟩ (by omega) (saQ rfl) (.refl _)
    refine ntQ (zap rfl ?_)
    refine zbj (zeb ?_)
    refine zal (zba (srQ (hvQ rfl (fdQ 2 rfl rfl rfl) (hvQ rfl (zac rfl rfl rfl (zaa 11 rfl rfl)) (hvQ rfl (zax (cs := [.int .i64 xhR48, .int .i64 xhR52, Y.1.1]) rfl rfl rfl rfl rfl (zat 4 rfl 0 rfl)) ?_)))))
    refine zea rfl (zak (z := .agg #[.int .i64 0, .int .i64 0, .slice none 0 0]) (s := 3) (cs := [.int .i64 xhR48, .int .i64 xhR52, Y.1.1]) rfl Try.underlying32 rfl (by decide) rfl (by kernel_rfl) rfl) ?_
    intro g75
    refine zct (i := 1) rfl (fun ho76 => ?_)
    refine zcs (i := 8) (z := .agg #[.int .i64 0, .int .i64 0, .slice none 0 0]) (bytes := 40) rfl rfl rfl rfl Try.underlying32 (by kernel_rfl) rfl rfl rfl rfl (zaj 0 rfl) (zab rfl (zab rfl (zab ho76 zbc))) (by first | omega | (simp only [List.length_append, List.length_cons, List.length_nil]; omega)) (zcc q.xs [(Ix.mk xhR48 xhR52 Y.1.1 Y.1.2)]) (zcz ixC q.xs (Ix.mk xhR48 xhR52 Y.1.1 Y.1.2) _ rfl) (fun _ => rfl) ?_
    intro v77
    refine hvQ rfl (fdQ 2 rfl rfl rfl) (zct (i := 8) rfl (fun ho78 => ?_))
    refine zdo (i := 12) (cs' := #[q.sv, q.av, v77, q.mv]) rfl rfl rfl rfl rfl rfl ho78 rfl rfl rfl rfl (ntQ (reQ 2 rfl ?_))
    refine zcs (i := 11) (z := .int .i64 0) (bytes := 8) rfl rfl rfl rfl Try.underlying48 (by kernel_rfl) rfl rfl rfl rfl (zaj 2 rfl) (zbx _) (by first | omega | (simp; done) | (simp; omega)) (zcc U3.2 Y.2.2) (zcw U3.2 Y.2.2) (fun _ => rfl) ?_
    intro v79
    refine enQ 1 rfl (zdh (reQ 1 rfl (hvQ rfl (vaQ rfl rfl rfl) (enQ 1 rfl ?_))))
    rw [show j = (ptsK (D.getD ((xhR48).toNat) md0)).length by omega] at hij
    refine zbn 16 [15, 14, 13, 12, 11, 10, 9, 8, 7, 5, 4, 3, 2, 0, 1, 6] rfl rfl (by decide) ?_
    refine zcd 2 rfl ?_
    exact zdq (t + 1) (Md.mk q.sv q.av v77 q.mv q.ss q.gs (q.xs ++ [(Ix.mk xhR48 xhR52 Y.1.1 Y.1.2)]) q.ms) (v79, U3.2 ++ Y.2.2) [bigE pq, rowE 3 1 Y.1.1 Y.1.2.length (Y.1.2.map (Value.int .i64))] ⟨by omega, (MI.done hq _ _ hij ⟨by omega, by omega⟩ (by omega) h3.plt (e := 4) (by omega)).up (by omega) (by omega) (by omega) (by omega) (by omega) (by omega), fun w hw => ⟨(hpq w (zbi hw List.mem_cons_self)).1, (hpq w (zbi hw List.mem_cons_self)).2.1, (hpq w (zbi hw List.mem_cons_self)).2.2.app (zdk (zbi hw (List.mem_cons_of_mem _ List.mem_cons_self)))⟩⟩ (by omega) (saQ rfl) (.cons_cons _ (.cons _ (.cons _ (.cons _ (.cons _ (.cons _ (.refl _)))))))
   refine zam 3 rfl (zdr rfl rfl rfl rfl rfl rfl (fun h80 => ?_) (fun h80 => ?_))
   ·
    refine zay 1 rfl (zah rfl ?_)
    refine zbj (zfp ?_)
    refine zal (zba (reQ 1 rfl (hvQ rfl (vaQ rfl rfl rfl) (enQ 1 rfl ?_))))
    exact zdq (t + 1) m3 (U3.1, U3.2) ps3 ⟨by omega, h3.up (by omega) (by omega) (by omega) (by omega) (by omega) (by omega), hp3⟩ (by omega) (saQ rfl) (.refl _)
   refine zay 1 rfl (zap rfl (zcv (zag (reQ 1 rfl (hvQ rfl (fdQ 0 rfl rfl rfl) (hvQ rfl (zac rfl rfl rfl (zaa 8 rfl rfl)) ?_))))))
   refine hvQ rfl (lnQ rfl rfl rfl (fun w hm => (hD w (hm.sub (.cons _ (.cons _ (.cons _ (.cons _ (.cons _ (.cons _ (.cons _ (.cons _ (.cons _ (.cons _ (.refl _))))))))))))).row)) (zcg (R := (fun u_ p_ => (∃ x_ : Int, u_ = .int .i64 x_ ∧ 0 ≤ x_ ∧ x_ < (D.length : Int)) ∧ p_ = curE g a len cap)) 9 rfl rfl rfl rfl rfl (fun l' w hm => zby g a len cap z (D.length : Int) _ _ _ hm hb (by constructor <;> omega)) ?_)
   intro v81 p82 hR83
   obtain ⟨⟨xhR83, rfl, xhR830, xhR831⟩, rfl⟩ := hR83
   refine zcl (l' := (bigE ps3 :: rowE 38 3 m3.sv m3.ss.length (m3.ss.flatMap sgC) :: rowE 63 3 m3.iv m3.xs.length (m3.xs.flatMap ixC) :: rowE 94 4 m3.mv m3.ms.length (m3.ms.flatMap mmC) :: rowE 3 1 W2.1 W2.2.length (W2.2.map (Value.int .i64)) :: rowE 3 1 U3.1 U3.2.length (U3.2.map (Value.int .i64)) :: boxE b3 #[m3.sv, m3.av, m3.iv, m3.mv] 35 :: boxE b2 #[.slice none 0 0, .slice none 0 0, .slice none 0 0, .slice none 0 0] 35 :: boxE b1 #[v] 26 :: curE g a len cap :: l)) rfl ?_
   refine zam 1 rfl (zea rfl (zak (z := .int .i64 0) (s := 1) (cs := ([0, 0, 1, 2].map (Value.int .i64))) rfl Try.underlying48 rfl (by decide) rfl (by kernel_rfl) rfl) ?_)
   intro g84
   refine zds (R := (fun u_ p_ => (∃ x : Int, u_ = .int .i64 x ∧ x ∈ ([0, 0, 1, 2] : List Int)) ∧ p_ = curE g a len cap)) 10 rfl rfl rfl rfl rfl (fun L w hX hm => zdy g a len cap z (.slice (some ⟨g84, 0, none⟩) 4 4) [0, 0, 1, 2] _ _ _ hm hb (fun w hm => (zaj (l := (rowE 3 1 (.slice (some ⟨g84, 0, none⟩) 4 4) 4 ([0, 0, 1, 2].map (Value.int .i64)) :: bigE ps3 :: rowE 38 3 m3.sv m3.ss.length (m3.ss.flatMap sgC) :: rowE 63 3 m3.iv m3.xs.length (m3.xs.flatMap ixC) :: rowE 94 4 m3.mv m3.ms.length (m3.ms.flatMap mmC) :: rowE 3 1 W2.1 W2.2.length (W2.2.map (Value.int .i64)) :: rowE 3 1 U3.1 U3.2.length (U3.2.map (Value.int .i64)) :: boxE b3 #[m3.sv, m3.av, m3.iv, m3.mv] 35 :: boxE b2 #[.slice none 0 0, .slice none 0 0, .slice none 0 0, .slice none 0 0] 35 :: boxE b1 #[v] 26 :: l)) 0 rfl) w (hX w hm)) (by decide)) ?_
   intro v85 p86 hR87
   obtain ⟨⟨xhR87, rfl, xhR87m⟩, rfl⟩ := hR87
   have xhR87w := lit4 xhR87m (by decide)
   refine zcl (l' := (rowE 3 1 (.slice (some ⟨g84, 0, none⟩) 4 4) 4 ([0, 0, 1, 2].map (Value.int .i64)) :: bigE ps3 :: rowE 38 3 m3.sv m3.ss.length (m3.ss.flatMap sgC) :: rowE 63 3 m3.iv m3.xs.length (m3.xs.flatMap ixC) :: rowE 94 4 m3.mv m3.ms.length (m3.ms.flatMap mmC) :: rowE 3 1 W2.1 W2.2.length (W2.2.map (Value.int .i64)) :: rowE 3 1 U3.1 U3.2.length (U3.2.map (Value.int .i64)) :: boxE b3 #[m3.sv, m3.av, m3.iv, m3.mv] 35 :: boxE b2 #[.slice none 0 0, .slice none 0 0, .slice none 0 0, .slice none 0 0] 35 :: boxE b1 #[v] 26 :: curE g a len cap :: l)) rfl ?_
   refine hvQ rfl (zbk (cs := #[.int .i64 xhR83, .int .i64 xhR87, .slice none 0 0]) rfl rfl rfl) (zdn rfl (zbl (z := .agg #[.int .i64 0, .int .i64 0, .slice none 0 0]) rfl rfl) ?_)
   intro b88
   refine zbh (cs' := #[.int .i64 xhR83, .int .i64 xhR87, .slice none 0 0]) (i := 0) (off := 0) (us := [.int .i64 xhR83, .int .i64 xhR87, .slice none 0 0]) rfl rfl rfl rfl rfl rfl rfl (zab rfl (zab rfl (zab rfl zbc))) rfl rfl rfl (ntQ (srQ (hvQ rfl (fdQ 0 rfl rfl rfl) (hvQ rfl (zac rfl rfl rfl (zaa 10 rfl rfl)) (hvQ rfl (fdQ 0 rfl rfl rfl) (hvQ rfl (zac rfl rfl rfl (zaa 0 rfl rfl)) ?_))))))
   refine hvQ rfl (riQ 4 rfl rfl rfl rfl (fun w hm => (hD w (hm.sub (.cons _ (.cons _ (.cons _ (.cons _ (.cons _ (.cons _ (.cons _ (.cons _ (.cons _ (.cons _ (.cons _ (.cons _ (.refl _))))))))))))))).row)) (hvQ rfl (zbb (us := [(D.getD ((xhR83).toNat) md0).sv, (D.getD ((xhR83).toNat) md0).av, (D.getD ((xhR83).toNat) md0).iv, (D.getD ((xhR83).toNat) md0).mv]) rfl rfl rfl rfl (fun w hm => (hD w (hm.sub (.cons _ (.cons _ (.cons _ (.cons _ (.cons _ (.cons _ (.cons _ (.cons _ (.cons _ (.cons _ (.cons _ (.cons _ (.refl _))))))))))))))).row) (by omega) rfl (zbr mdC 4 (fun _ => rfl) D md0 (show (xhR83).toNat < _ by omega) rfl)) ?_)
   refine zdn rfl (zbl (z := .agg #[.slice none 0 0, .slice none 0 0, .slice none 0 0, .slice none 0 0]) rfl rfl) ?_
   intro b89
   refine zbh (cs' := #[(D.getD ((xhR83).toNat) md0).sv, (D.getD ((xhR83).toNat) md0).av, (D.getD ((xhR83).toNat) md0).iv, (D.getD ((xhR83).toNat) md0).mv]) (i := 0) (off := 0) (us := [(D.getD ((xhR83).toNat) md0).sv, (D.getD ((xhR83).toNat) md0).av, (D.getD ((xhR83).toNat) md0).iv, (D.getD ((xhR83).toNat) md0).mv]) rfl rfl rfl rfl rfl rfl rfl (zab (hch _ (zbw (by omega))).1 (zab (hch _ (zbw (by omega))).2.1 (zab (hch _ (zbw (by omega))).2.2.1 (zab (hch _ (zbw (by omega))).2.2.2 zbc)))) rfl rfl rfl (ntQ (srQ (hvQ rfl (zax (cs := [(D.getD ((xhR83).toNat) md0).sv, (D.getD ((xhR83).toNat) md0).av, (D.getD ((xhR83).toNat) md0).iv, (D.getD ((xhR83).toNat) md0).mv]) rfl rfl rfl rfl rfl (zat 0 rfl 0 rfl)) ?_)))
   refine hl_q rfl rfl rfl (zaw rfl rfl (fun w hm => zed (D.getD ((xhR83).toNat) md0) w ((hD w (hm.sub (.cons _ (.cons _ (.cons _ (.cons _ (.cons _ (.cons _ (.cons _ (.cons _ (.cons _ (.cons _ (.cons _ (.cons _ (.cons _ (.refl _)))))))))))))))).at (by omega)))) ?_
   intro v90 p91 hR92
   subst hR92
   refine zay 1 rfl (srQ ?_)
   refine zea rfl (zee (s := 1) rfl Try.underlying48 rfl) ?_
   intro g93
   refine zay 1 rfl (zag (zbg 1 rfl (zaz ?_)))
   refine zfe (rowE 3 1 (.slice none 0 0) (([] : List Int).length) (([] : List Int).map (Value.int .i64)) :: rowE 3 1 (.slice (some ⟨g93, 0, none⟩) 0 0) 0 ([]) :: rowE 3 1 v90 ((ptsK (D.getD ((xhR83).toNat) md0)).length) ((ptsK (D.getD ((xhR83).toNat) md0)).map (Value.int .i64)) :: boxE b89 #[(D.getD ((xhR83).toNat) md0).sv, (D.getD ((xhR83).toNat) md0).av, (D.getD ((xhR83).toNat) md0).iv, (D.getD ((xhR83).toNat) md0).mv] 35 :: boxE b88 #[.int .i64 xhR83, .int .i64 xhR87, .slice none 0 0] 63 :: rowE 3 1 (.slice (some ⟨g84, 0, none⟩) 4 4) 4 ([0, 0, 1, 2].map (Value.int .i64)) :: bigE ps3 :: rowE 38 3 m3.sv m3.ss.length (m3.ss.flatMap sgC) :: rowE 63 3 m3.iv m3.xs.length (m3.xs.flatMap ixC) :: rowE 94 4 m3.mv m3.ms.length (m3.ms.flatMap mmC) :: rowE 3 1 W2.1 W2.2.length (W2.2.map (Value.int .i64)) :: rowE 3 1 U3.1 U3.2.length (U3.2.map (Value.int .i64)) :: boxE b3 #[m3.sv, m3.av, m3.iv, m3.mv] 35 :: boxE b2 #[.slice none 0 0, .slice none 0 0, .slice none 0 0, .slice none 0 0] 35 :: boxE b1 #[v] 26 :: curE g a len cap :: l) (fun w hm => hm.nilRow 3 1) ?_
   refine lkQ4 (α := Nat) (β := Md) (γ := (Value × List Int) × Value × List Int) (δ := List HP) [0, 1, 3, 4, 5, 6, 7, 11, 12, 13, 14, 33, 55, 89, 98] rfl (fun j q Y pq => (rowE 3 1 Y.1.1 Y.1.2.length (Y.1.2.map (Value.int .i64)) :: rowE 3 1 Y.2.1 Y.2.2.length (Y.2.2.map (Value.int .i64)) :: rowE 3 1 v90 ((ptsK (D.getD ((xhR83).toNat) md0)).length) ((ptsK (D.getD ((xhR83).toNat) md0)).map (Value.int .i64)) :: boxE b89 #[(D.getD ((xhR83).toNat) md0).sv, (D.getD ((xhR83).toNat) md0).av, (D.getD ((xhR83).toNat) md0).iv, (D.getD ((xhR83).toNat) md0).mv] 35 :: boxE b88 #[.int .i64 xhR83, .int .i64 xhR87, Y.1.1] 63 :: bigE pq :: rowE 38 3 q.sv q.ss.length (q.ss.flatMap sgC) :: rowE 63 3 q.iv q.xs.length (q.xs.flatMap ixC) :: rowE 94 4 q.mv q.ms.length (q.ms.flatMap mmC) :: rowE 3 1 W2.1 W2.2.length (W2.2.map (Value.int .i64)) :: rowE 3 1 U3.1 U3.2.length (U3.2.map (Value.int .i64)) :: boxE b3 #[q.sv, q.av, q.iv, q.mv] 35 :: boxE b2 #[.slice none 0 0, .slice none 0 0, .slice none 0 0, .slice none 0 0] 35 :: boxE b1 #[v] 26 :: curE g a len cap :: l)) (fun j q Y pq => [(15, Y.2.1), (16, .int .i64 (j : Int))]) (fun j q Y pq => j ≤ (ptsK (D.getD ((xhR83).toNat) md0)).length ∧ MI D q U3.2 (W2.2 ++ Y.2.2) (4 + 4 * t + j) (4 * t + j) t 0 2 (4 + 4 * t) ∧ IjP D q xhR83 m3.ss.length Y.1.2 Y.2.2 j ∧ ∀ w, (bigE pq).holds w → RdP w q) (fun j q Y pq => (ptsK (D.getD ((xhR83).toNat) md0)).length - j) 0 m3 ((_, []), (_, [])) ps3 ⟨Nat.zero_le _, by rw [List.append_nil]; exact h3, IjP.start D m3 _, hp3⟩ (saQ rfl) (.cons_cons _ (.cons_cons _ (.cons_cons _ (.cons_cons _ (.cons_cons _ (.cons _ (.refl _))))))) ?_
   intro j q Y pq hi94
   obtain ⟨hj, hq, hij, hpq⟩ := hi94
   have hnsq := hq.ns
   have hnxq := hq.nx
   have hnaq := hq.na
   have hpt4 : (ptsK (D.getD ((xhR83).toNat) md0)).length ≤ 4 := by have h8 := hdd.md (((xhR83).toNat)) (by omega); rw [ptsK_len h8.len.1]; exact h8.pt
   have hyl := hij.len
   have hyo : Y.2.2.length ≤ j := by have h8 := xoA_le D (Ix.mk xhR83 0 (.slice none 0 0) Y.1.2) j; rw [← hij.oq] at h8; exact h8
   refine zag (zag (reQ 2 rfl (hvQ rfl (lnQ rfl rfl rfl (zaj 2 rfl)) ?_)))
   refine zbq rfl rfl rfl rfl rfl rfl (fun h95 => ?_) (fun h95 => ?_)
   ·
    refine ntQ (zah rfl (zcv (sbQ (zag ?_))))
    have hpt := zdu (m := (D.getD ((xhR83).toNat) md0)) (j := j) (by omega)
    have hkd := zcp hpt
    have hsg9 := (hdd.md (((xhR83).toNat)) (by omega)).b.sg _ (zbw (d := sg0) (show (((ptsK (D.getD ((xhR83).toNat) md0)).getD j 0)).toNat < ((D.getD ((xhR83).toNat) md0)).ss.length by omega))
    obtain ⟨⟨hsa, hsb⟩, ⟨hsc, hsd⟩, -⟩ := hsg9
    refine zbz 9 [[], [0], [], [], [2, 3], [4], [1, 5], [6], [7]] [123, 124, 125, 126, 127, 128, 129, 130, 131] [.pointer (some ⟨b89, 0 + 0, none⟩), (D.getD ((xhR83).toNat) md0).sv, v90, .int .i64 (j : Int), elP v90 (((j : Int)).toNat * 1), .int .i64 ((ptsK (D.getD ((xhR83).toNat) md0)).getD j 0), elP ((D.getD ((xhR83).toNat) md0).sv) (((ptsK (D.getD ((xhR83).toNat) md0)).getD j 0).toNat * 3), elP ((D.getD ((xhR83).toNat) md0).sv) (((ptsK (D.getD ((xhR83).toNat) md0)).getD j 0).toNat * 3 + 1), .int .i64 ((((D.getD ((xhR83).toNat) md0).ss).getD (((ptsK (D.getD ((xhR83).toNat) md0)).getD j 0).toNat) sg0).w)] (by kernel_rfl) rfl ?_ ?_
    ·
     exact ⟨iaQ rfl (fdQ 0 rfl rfl rfl) rfl, iaQ rfl (zac rfl rfl rfl (zaa 3 rfl rfl)) rfl, iaQ rfl (zau rfl) rfl, iaQ rfl (zau rfl) rfl, iaQ rfl (riQ 1 rfl rfl rfl rfl (zaj 2 rfl)) rfl, iaQ rfl (zan (u := .int .i64 ((ptsK (D.getD ((xhR83).toNat) md0)).getD j 0)) rfl rfl rfl (zaj 2 rfl) (zcn (show _ < (ptsK (D.getD ((xhR83).toNat) md0)).length by omega))) rfl, iaQ rfl (riQ 3 rfl rfl rfl rfl (fun w hm => ((hD w (hm.sub (.cons _ (.cons _ (.cons _ (.cons _ (.cons _ (.cons _ (.cons _ (.cons _ (.cons _ (.cons _ (.cons _ (.cons _ (.cons _ (.cons _ (.cons _ (.refl _)))))))))))))))))).at (k := ((xhR83).toNat)) (by omega)).s)) rfl, iaQ rfl (zaq (k0 := 1) rfl rfl rfl (fun w hm => ((hD w (hm.sub (.cons _ (.cons _ (.cons _ (.cons _ (.cons _ (.cons _ (.cons _ (.cons _ (.cons _ (.cons _ (.cons _ (.cons _ (.cons _ (.cons _ (.cons _ (.refl _)))))))))))))))))).at (k := ((xhR83).toNat)) (by omega)).s) (by omega)) rfl, iaQ rfl (zan (u := .int .i64 ((((D.getD ((xhR83).toNat) md0).ss).getD (((ptsK (D.getD ((xhR83).toNat) md0)).getD j 0).toNat) sg0).w)) rfl rfl rfl (fun w hm => ((hD w (hm.sub (.cons _ (.cons _ (.cons _ (.cons _ (.cons _ (.cons _ (.cons _ (.cons _ (.cons _ (.cons _ (.cons _ (.cons _ (.cons _ (.cons _ (.cons _ (.refl _)))))))))))))))))).at (k := ((xhR83).toNat)) (by omega)).s) ((zbd sgC 3 (fun _ => rfl) ((D.getD ((xhR83).toNat) md0).ss) sg0 (show ((ptsK (D.getD ((xhR83).toNat) md0)).getD j 0).toNat < _ by omega) (by decide)).trans rfl)) rfl, trivial⟩
    simp only [List.drop_succ_cons, List.drop_zero]
    refine zay 1 rfl ?_
    refine zfg (α := Int) (fun wd => (rowE 3 1 Y.1.1 Y.1.2.length (Y.1.2.map (Value.int .i64)) :: rowE 3 1 Y.2.1 Y.2.2.length (Y.2.2.map (Value.int .i64)) :: rowE 3 1 v90 ((ptsK (D.getD ((xhR83).toNat) md0)).length) ((ptsK (D.getD ((xhR83).toNat) md0)).map (Value.int .i64)) :: boxE b89 #[(D.getD ((xhR83).toNat) md0).sv, (D.getD ((xhR83).toNat) md0).av, (D.getD ((xhR83).toNat) md0).iv, (D.getD ((xhR83).toNat) md0).mv] 35 :: boxE b88 #[.int .i64 xhR83, .int .i64 xhR87, Y.1.1] 63 :: bigE pq :: rowE 38 3 q.sv q.ss.length (q.ss.flatMap sgC) :: rowE 63 3 q.iv q.xs.length (q.xs.flatMap ixC) :: rowE 94 4 q.mv q.ms.length (q.ms.flatMap mmC) :: rowE 3 1 W2.1 W2.2.length (W2.2.map (Value.int .i64)) :: rowE 3 1 U3.1 U3.2.length (U3.2.map (Value.int .i64)) :: boxE b3 #[q.sv, q.av, q.iv, q.mv] 35 :: boxE b2 #[.slice none 0 0, .slice none 0 0, .slice none 0 0, .slice none 0 0] 35 :: boxE b1 #[v] 26 :: curE g a len cap :: l)) (fun wd => [(0, .pointer (some ⟨g, 0, none⟩)), (1, .agg #[v]), (3, .pointer (some ⟨b1, 0, none⟩)), (4, .pointer (some ⟨b2, 0, none⟩)), (5, .pointer (some ⟨b3, 0, none⟩)), (6, U3.1), (7, W2.1), (11, .int .i64 (t : Int)), (12, .pointer (some ⟨b88, 0, none⟩)), (13, .pointer (some ⟨b89, 0, none⟩)), (14, v90), (15, Y.2.1), (16, .int .i64 (j : Int)), (17, .int .i64 wd), (33, .bool false), (55, .bool false), (89, .bool true), (98, .bool false), (120, .bool true)]) (fun wd => 0 ≤ wd ∧ wd ≤ 4) ?_ ?_
    ·
     refine zag (reQ 1 rfl ?_)
     refine zbu rfl rfl rfl rfl rfl rfl (fun h96 => ?_) (fun h96 => ?_)
     ·
      refine ntQ (zah rfl (zas (hvQ rfl (fdQ 1 rfl rfl rfl) (hvQ rfl (zac rfl rfl rfl (zaa 4 rfl rfl)) (enQ 1 rfl ?_)))))
      exact zde xhR87 ⟨by omega, by omega⟩ (saQ rfl) (.refl _)
     refine ntQ (fsQ rfl ?_)
     exact zde ((((D.getD ((xhR83).toNat) md0).ss).getD (((ptsK (D.getD ((xhR83).toNat) md0)).getD j 0).toNat) sg0).w) ⟨by omega, by omega⟩ (saQ rfl) (.refl _)
    intro wd hm97
    have hwd9 : 0 ≤ wd ∧ wd ≤ 4 := hm97
    refine srQ (hvQ rfl (fdQ 0 rfl rfl rfl) (hvQ rfl (zac rfl rfl rfl (zaa 11 rfl rfl)) (hvQ rfl (lnQ rfl rfl rfl (zaj 6 rfl)) (zay 1 rfl (srQ (hvQ rfl (fdQ 0 rfl rfl rfl) (hvQ rfl (zac rfl rfl rfl (zaa 11 rfl rfl)) (zam 1 rfl ?_))))))))
    refine hvQ rfl (zbk (cs := #[.int .i64 2, .int .i64 wd, .int .i64 0]) rfl rfl rfl) (zea rfl (zak (z := .agg #[.int .i64 0, .int .i64 0, .int .i64 0]) (s := 3) (cs := ([2, wd, 0].map (Value.int .i64))) rfl Try.underlying30 rfl (by decide) rfl (by kernel_rfl) rfl) ?_)
    intro g98
    refine zcs (i := 7) (z := .agg #[.int .i64 0, .int .i64 0, .int .i64 0]) (bytes := 24) rfl rfl rfl rfl Try.underlying30 (by kernel_rfl) rfl rfl rfl rfl (zaj 0 rfl) (zbx _) (by first | omega | (simp only [List.length_append, List.length_cons, List.length_nil]; omega)) (zcc q.ss [(Sg.mk 2 wd 0)]) (zcz sgC q.ss (Sg.mk 2 wd 0) _ rfl) (fun _ => rfl) ?_
    intro v99
    refine hvQ rfl (fdQ 0 rfl rfl rfl) (zct (i := 7) rfl (fun ho100 => ?_))
    refine zdo (i := 12) (cs' := #[v99, q.av, q.iv, q.mv]) rfl rfl rfl rfl rfl rfl ho100 rfl rfl rfl rfl (ntQ (srQ (hvQ rfl (fdQ 2 rfl rfl rfl) (hvQ rfl (zac rfl rfl rfl (zaa 5 rfl rfl)) (zam 1 rfl ?_)))))
    refine zea rfl (zak (z := .int .i64 0) (s := 1) (cs := ([(q.ss.length : Int)].map (Value.int .i64))) rfl Try.underlying48 rfl (by decide) rfl (by kernel_rfl) rfl) ?_
    intro g101
    refine zcs (i := 2) (z := .int .i64 0) (bytes := 8) rfl rfl rfl rfl Try.underlying48 (by kernel_rfl) rfl rfl rfl rfl (zaj 0 rfl) (zbx _) (by first | omega | (simp; done) | (simp; omega)) (zcc Y.1.2 ([(q.ss.length : Int)])) (zcw Y.1.2 ([(q.ss.length : Int)])) (fun _ => rfl) ?_
    intro v102
    refine hvQ rfl (fdQ 2 rfl rfl rfl) (zct (i := 2) rfl (fun ho103 => ?_))
    refine zdo (i := 6) (cs' := #[.int .i64 xhR83, .int .i64 xhR87, v102]) rfl rfl rfl rfl rfl rfl ho103 rfl rfl rfl rfl (ntQ (zag ?_))
    rcases Bool.eq_false_or_eq_true (((((D.getD ((xhR83).toNat) md0).ss).getD (((ptsK (D.getD ((xhR83).toNat) md0)).getD j 0).toNat) sg0).k) == 1) with hb104 | hb104
    ·
     have hb104p : (((D.getD ((xhR83).toNat) md0).ss).getD (((ptsK (D.getD ((xhR83).toNat) md0)).getD j 0).toNat) sg0).k = 1 := beq_iff_eq.1 hb104
     refine zbz 10 [[], [0], [], [], [2, 3], [4], [1, 5], [6], [7], [8]] [152, 153, 154, 155, 156, 157, 158, 159, 160, 161] [.pointer (some ⟨b89, 0 + 0, none⟩), (D.getD ((xhR83).toNat) md0).sv, v90, .int .i64 (j : Int), elP v90 (((j : Int)).toNat * 1), .int .i64 ((ptsK (D.getD ((xhR83).toNat) md0)).getD j 0), elP ((D.getD ((xhR83).toNat) md0).sv) (((ptsK (D.getD ((xhR83).toNat) md0)).getD j 0).toNat * 3), elP ((D.getD ((xhR83).toNat) md0).sv) (((ptsK (D.getD ((xhR83).toNat) md0)).getD j 0).toNat * 3 + 0), .int .i64 ((((D.getD ((xhR83).toNat) md0).ss).getD (((ptsK (D.getD ((xhR83).toNat) md0)).getD j 0).toNat) sg0).k), .bool true] (by kernel_rfl) rfl ?_ ?_
     ·
      exact ⟨iaQ rfl (fdQ 0 rfl rfl rfl) rfl, iaQ rfl (zac rfl rfl rfl (zaa 5 rfl rfl)) rfl, iaQ rfl (zau rfl) rfl, iaQ rfl (zau rfl) rfl, iaQ rfl (riQ 1 rfl rfl rfl rfl (zaj 4 rfl)) rfl, iaQ rfl (zan (u := .int .i64 ((ptsK (D.getD ((xhR83).toNat) md0)).getD j 0)) rfl rfl rfl (zaj 4 rfl) (zcn (show _ < (ptsK (D.getD ((xhR83).toNat) md0)).length by omega))) rfl, iaQ rfl (riQ 3 rfl rfl rfl rfl (fun w hm => ((hD w (hm.sub (.cons _ (.cons _ (.cons _ (.cons _ (.cons _ (.cons _ (.cons _ (.cons _ (.cons _ (.cons _ (.cons _ (.cons _ (.cons _ (.cons _ (.cons _ (.cons _ (.cons _ (.refl _)))))))))))))))))))).at (k := ((xhR83).toNat)) (by omega)).s)) rfl, iaQ rfl (zaq (k0 := 0) rfl rfl rfl (fun w hm => ((hD w (hm.sub (.cons _ (.cons _ (.cons _ (.cons _ (.cons _ (.cons _ (.cons _ (.cons _ (.cons _ (.cons _ (.cons _ (.cons _ (.cons _ (.cons _ (.cons _ (.cons _ (.cons _ (.refl _)))))))))))))))))))).at (k := ((xhR83).toNat)) (by omega)).s) (by omega)) rfl, iaQ rfl (zan (u := .int .i64 ((((D.getD ((xhR83).toNat) md0).ss).getD (((ptsK (D.getD ((xhR83).toNat) md0)).getD j 0).toNat) sg0).k)) rfl rfl rfl (fun w hm => ((hD w (hm.sub (.cons _ (.cons _ (.cons _ (.cons _ (.cons _ (.cons _ (.cons _ (.cons _ (.cons _ (.cons _ (.cons _ (.cons _ (.cons _ (.cons _ (.cons _ (.cons _ (.cons _ (.refl _)))))))))))))))))))).at (k := ((xhR83).toNat)) (by omega)).s) ((zbd sgC 3 (fun _ => rfl) ((D.getD ((xhR83).toNat) md0).ss) sg0 (show ((ptsK (D.getD ((xhR83).toNat) md0)).getD j 0).toNat < _ by omega) (by decide)).trans rfl)) rfl, .inl ⟨rfl, zdl (zcf rfl rfl rfl rfl) hb104⟩, trivial⟩
     simp only [List.drop_succ_cons, List.drop_zero]
     refine ntQ (zah rfl (reQ 2 rfl ?_))
     refine zea rfl (zak (z := .int .i64 0) (s := 1) (cs := ([(q.ss.length : Int)].map (Value.int .i64))) rfl Try.underlying48 rfl (by decide) rfl (by kernel_rfl) rfl) ?_
     intro g105
     refine zcs (i := 4) (z := .int .i64 0) (bytes := 8) rfl rfl rfl rfl Try.underlying48 (by kernel_rfl) rfl rfl rfl rfl (zaj 0 rfl) (zbx _) (by first | omega | (simp; done) | (simp; omega)) (zcc Y.2.2 ([(q.ss.length : Int)])) (zcw Y.2.2 ([(q.ss.length : Int)])) (fun _ => rfl) ?_
     intro v106
     refine enQ 1 rfl (zdh (reQ 1 rfl (hvQ rfl (vaQ rfl rfl rfl) (enQ 1 rfl ?_))))
     exact zdq (j + 1) (Md.mk v99 q.av q.iv q.mv (q.ss ++ [(Sg.mk 2 wd 0)]) q.gs q.xs q.ms) ((v102, Y.1.2 ++ ([(q.ss.length : Int)])), (v106, Y.2.2 ++ ([(q.ss.length : Int)]))) pq ⟨by omega, (hq.wire _ hwd9 mem_app1).up (by omega) (by omega) (by omega) (by omega) (by omega) (by omega), hij.out rfl (by omega), fun w hw => hpq w hw⟩ (by omega) (saQ rfl) (.cons _ (.cons _ (.cons _ (.refl _))))
    have hb104p : (((D.getD ((xhR83).toNat) md0).ss).getD (((ptsK (D.getD ((xhR83).toNat) md0)).getD j 0).toNat) sg0).k ≠ 1 := beq_eq_false_iff_ne.1 hb104
    refine zbz 10 [[], [0], [], [], [2, 3], [4], [1, 5], [6], [7], [8]] [152, 153, 154, 155, 156, 157, 158, 159, 160, 161] [.pointer (some ⟨b89, 0 + 0, none⟩), (D.getD ((xhR83).toNat) md0).sv, v90, .int .i64 (j : Int), elP v90 (((j : Int)).toNat * 1), .int .i64 ((ptsK (D.getD ((xhR83).toNat) md0)).getD j 0), elP ((D.getD ((xhR83).toNat) md0).sv) (((ptsK (D.getD ((xhR83).toNat) md0)).getD j 0).toNat * 3), elP ((D.getD ((xhR83).toNat) md0).sv) (((ptsK (D.getD ((xhR83).toNat) md0)).getD j 0).toNat * 3 + 0), .int .i64 ((((D.getD ((xhR83).toNat) md0).ss).getD (((ptsK (D.getD ((xhR83).toNat) md0)).getD j 0).toNat) sg0).k), .bool false] (by kernel_rfl) rfl ?_ ?_
    ·
     exact ⟨iaQ rfl (fdQ 0 rfl rfl rfl) rfl, iaQ rfl (zac rfl rfl rfl (zaa 5 rfl rfl)) rfl, iaQ rfl (zau rfl) rfl, iaQ rfl (zau rfl) rfl, iaQ rfl (riQ 1 rfl rfl rfl rfl (zaj 4 rfl)) rfl, iaQ rfl (zan (u := .int .i64 ((ptsK (D.getD ((xhR83).toNat) md0)).getD j 0)) rfl rfl rfl (zaj 4 rfl) (zcn (show _ < (ptsK (D.getD ((xhR83).toNat) md0)).length by omega))) rfl, iaQ rfl (riQ 3 rfl rfl rfl rfl (fun w hm => ((hD w (hm.sub (.cons _ (.cons _ (.cons _ (.cons _ (.cons _ (.cons _ (.cons _ (.cons _ (.cons _ (.cons _ (.cons _ (.cons _ (.cons _ (.cons _ (.cons _ (.cons _ (.cons _ (.refl _)))))))))))))))))))).at (k := ((xhR83).toNat)) (by omega)).s)) rfl, iaQ rfl (zaq (k0 := 0) rfl rfl rfl (fun w hm => ((hD w (hm.sub (.cons _ (.cons _ (.cons _ (.cons _ (.cons _ (.cons _ (.cons _ (.cons _ (.cons _ (.cons _ (.cons _ (.cons _ (.cons _ (.cons _ (.cons _ (.cons _ (.cons _ (.refl _)))))))))))))))))))).at (k := ((xhR83).toNat)) (by omega)).s) (by omega)) rfl, iaQ rfl (zan (u := .int .i64 ((((D.getD ((xhR83).toNat) md0).ss).getD (((ptsK (D.getD ((xhR83).toNat) md0)).getD j 0).toNat) sg0).k)) rfl rfl rfl (fun w hm => ((hD w (hm.sub (.cons _ (.cons _ (.cons _ (.cons _ (.cons _ (.cons _ (.cons _ (.cons _ (.cons _ (.cons _ (.cons _ (.cons _ (.cons _ (.cons _ (.cons _ (.cons _ (.cons _ (.refl _)))))))))))))))))))).at (k := ((xhR83).toNat)) (by omega)).s) ((zbd sgC 3 (fun _ => rfl) ((D.getD ((xhR83).toNat) md0).ss) sg0 (show ((ptsK (D.getD ((xhR83).toNat) md0)).getD j 0).toNat < _ by omega) (by decide)).trans rfl)) rfl, .inl ⟨rfl, zdl (zcf rfl rfl rfl rfl) hb104⟩, trivial⟩
    simp only [List.drop_succ_cons, List.drop_zero]
    refine ntQ (zap rfl (zas ?_))
    refine zgb (p := (∀ g9 ∈ q.gs, g9.ov.oneCell' = true) ∧ v99.oneCell' = true ∧ q.av.oneCell' = true ∧ q.iv.oneCell' = true ∧ q.mv.oneCell' = true) (fun w hm => ⟨fun g9 hg9 => ((hpq w (hm.holds _ (zcj (i := 7) rfl))).2.1 g9 hg9).one, (zaj 8 rfl w hm).one, (hpq w (hm.holds _ (zcj (i := 7) rfl))).1.one, (zaj 9 rfl w hm).one, (zaj 10 rfl w hm).one⟩) (fun ⟨hone9, ho9⟩ => ?_)
    refine zam 1 rfl (hvQ rfl (zax (cs := [v99, q.av, q.iv, q.mv]) rfl rfl rfl rfl rfl (zat 13 rfl 0 rfl)) (zam 2 rfl ?_))
    refine zds (R := (fun u_ p_ => ∃ (v' ov : Value) (os : List Oq) (ps : List HP), u_ = .agg #[v99, v', q.iv, q.mv] ∧ p_ = bigE [curE g a len cap, bigE ps] ∧ (∀ w, (bigE ps).holds w → RdsW w v' 2 (q.gs ++ [As.mk (q.ss.length : Int) ov os]).length ((q.gs ++ [As.mk (q.ss.length : Int) ov os]).flatMap asC) ∧ RdsW w ov 3 os.length (os.flatMap oqC)) ∧ v'.oneCell' = true ∧ ov.oneCell' = true ∧ ExP (q.ss.length : Int) 9 os)) 16 rfl rfl rfl rfl rfl (fun L w hX hm => zdz g a len cap z (q.ss.length : Int) (Md.mk v99 q.av q.iv q.mv (q.ss ++ [(Sg.mk 2 wd 0)]) q.gs q.xs q.ms) (q.ss.length : Int) U3.1 _ _ _ _ hm hb (fun w9 h9 => (zaj (l := (rowE 3 1 (.slice (some ⟨g101, 0, none⟩) 1 1) 1 ([(q.ss.length : Int)].map (Value.int .i64)) :: rowE 38 3 (.slice (some ⟨g98, 0, none⟩) 1 1) 1 ([2, wd, 0].map (Value.int .i64)) :: rowE 3 1 v102 ((Y.1.2 ++ ([(q.ss.length : Int)])).length) ((Y.1.2 ++ ([(q.ss.length : Int)])).map (Value.int .i64)) :: rowE 3 1 Y.2.1 Y.2.2.length (Y.2.2.map (Value.int .i64)) :: rowE 3 1 v90 ((ptsK (D.getD ((xhR83).toNat) md0)).length) ((ptsK (D.getD ((xhR83).toNat) md0)).map (Value.int .i64)) :: boxE b89 #[(D.getD ((xhR83).toNat) md0).sv, (D.getD ((xhR83).toNat) md0).av, (D.getD ((xhR83).toNat) md0).iv, (D.getD ((xhR83).toNat) md0).mv] 35 :: boxE b88 #[.int .i64 xhR83, .int .i64 xhR87, v102] 63 :: bigE pq :: rowE 38 3 v99 ((q.ss ++ [(Sg.mk 2 wd 0)]).length) ((q.ss ++ [(Sg.mk 2 wd 0)]).flatMap sgC) :: rowE 63 3 q.iv q.xs.length (q.xs.flatMap ixC) :: rowE 94 4 q.mv q.ms.length (q.ms.flatMap mmC) :: rowE 3 1 W2.1 W2.2.length (W2.2.map (Value.int .i64)) :: rowE 3 1 U3.1 U3.2.length (U3.2.map (Value.int .i64)) :: boxE b3 #[v99, q.av, q.iv, q.mv] 35 :: boxE b2 #[.slice none 0 0, .slice none 0 0, .slice none 0 0, .slice none 0 0] 35 :: boxE b1 #[v] 26 :: l)) 12 rfl) w9 (hX w9 h9)) (fun x hx => hq.av x hx) (by have h9 := hq.na; omega) (fun w9 h9 => (hpq w9 ((hX w9 h9).holds _ (zcj (i := 7) rfl))).1) (by have h9 := hq.ng; show q.gs.length ≤ 1000; omega) hone9 ⟨ho9.1, ho9.2.1, ho9.2.2.1, ho9.2.2.2⟩) ?_
    intro v107 p108 hR109
    obtain ⟨avhR109, ovhR109, oshR109, aphR109, rfl, rfl, haphR109, oavhR109, oovhR109, hoshR109⟩ := hR109
    refine zcl (l' := (rowE 3 1 (.slice (some ⟨g101, 0, none⟩) 1 1) 1 ([(q.ss.length : Int)].map (Value.int .i64)) :: rowE 38 3 (.slice (some ⟨g98, 0, none⟩) 1 1) 1 ([2, wd, 0].map (Value.int .i64)) :: rowE 3 1 v102 ((Y.1.2 ++ ([(q.ss.length : Int)])).length) ((Y.1.2 ++ ([(q.ss.length : Int)])).map (Value.int .i64)) :: rowE 3 1 Y.2.1 Y.2.2.length (Y.2.2.map (Value.int .i64)) :: rowE 3 1 v90 ((ptsK (D.getD ((xhR83).toNat) md0)).length) ((ptsK (D.getD ((xhR83).toNat) md0)).map (Value.int .i64)) :: boxE b89 #[(D.getD ((xhR83).toNat) md0).sv, (D.getD ((xhR83).toNat) md0).av, (D.getD ((xhR83).toNat) md0).iv, (D.getD ((xhR83).toNat) md0).mv] 35 :: boxE b88 #[.int .i64 xhR83, .int .i64 xhR87, v102] 63 :: bigE pq :: rowE 38 3 v99 ((q.ss ++ [(Sg.mk 2 wd 0)]).length) ((q.ss ++ [(Sg.mk 2 wd 0)]).flatMap sgC) :: rowE 63 3 q.iv q.xs.length (q.xs.flatMap ixC) :: rowE 94 4 q.mv q.ms.length (q.ms.flatMap mmC) :: rowE 3 1 W2.1 W2.2.length (W2.2.map (Value.int .i64)) :: rowE 3 1 U3.1 U3.2.length (U3.2.map (Value.int .i64)) :: boxE b3 #[v99, q.av, q.iv, q.mv] 35 :: boxE b2 #[.slice none 0 0, .slice none 0 0, .slice none 0 0, .slice none 0 0] 35 :: boxE b1 #[v] 26 :: bigE [curE g a len cap, bigE aphR109] :: l)) rfl ?_
    refine zbh (cs' := #[v99, avhR109, q.iv, q.mv]) (i := 13) (off := 0) (us := [v99, avhR109, q.iv, q.mv]) rfl rfl rfl rfl rfl rfl rfl (zab ho100 (zab oavhR109 (zab ho9.2.2.1 (zab ho9.2.2.2 zbc)))) rfl rfl rfl (zcu (zdh (reQ 1 rfl (hvQ rfl (vaQ rfl rfl rfl) (enQ 1 rfl ?_)))))
    refine zbn 17 [15, 14, 13, 12, 11, 10, 9, 8, 7, 6, 5, 4, 3, 2, 1, 0, 16] rfl rfl (by decide) ?_
    refine zco (curE g a len cap :: bigE aphR109 :: rowE 3 1 (.slice (some ⟨g101, 0, none⟩) 1 1) 1 ([(q.ss.length : Int)].map (Value.int .i64)) :: rowE 38 3 (.slice (some ⟨g98, 0, none⟩) 1 1) 1 ([2, wd, 0].map (Value.int .i64)) :: rowE 3 1 v102 ((Y.1.2 ++ ([(q.ss.length : Int)])).length) ((Y.1.2 ++ ([(q.ss.length : Int)])).map (Value.int .i64)) :: rowE 3 1 Y.2.1 Y.2.2.length (Y.2.2.map (Value.int .i64)) :: rowE 3 1 v90 ((ptsK (D.getD ((xhR83).toNat) md0)).length) ((ptsK (D.getD ((xhR83).toNat) md0)).map (Value.int .i64)) :: boxE b89 #[(D.getD ((xhR83).toNat) md0).sv, (D.getD ((xhR83).toNat) md0).av, (D.getD ((xhR83).toNat) md0).iv, (D.getD ((xhR83).toNat) md0).mv] 35 :: boxE b88 #[.int .i64 xhR83, .int .i64 xhR87, v102] 63 :: bigE pq :: rowE 38 3 v99 ((q.ss ++ [(Sg.mk 2 wd 0)]).length) ((q.ss ++ [(Sg.mk 2 wd 0)]).flatMap sgC) :: rowE 63 3 q.iv q.xs.length (q.xs.flatMap ixC) :: rowE 94 4 q.mv q.ms.length (q.ms.flatMap mmC) :: rowE 3 1 W2.1 W2.2.length (W2.2.map (Value.int .i64)) :: rowE 3 1 U3.1 U3.2.length (U3.2.map (Value.int .i64)) :: boxE b3 #[v99, avhR109, q.iv, q.mv] 35 :: boxE b2 #[.slice none 0 0, .slice none 0 0, .slice none 0 0, .slice none 0 0] 35 :: boxE b1 #[v] 26 :: l) zdb ?_
    refine zbn 18 [17, 16, 15, 14, 13, 12, 11, 10, 8, 7, 6, 5, 4, 3, 2, 0, 1, 9] rfl rfl (by decide) ?_
    refine zcd 2 rfl ?_
    refine zbn 17 [1, 16, 15, 14, 13, 12, 11, 10, 9, 0, 8, 7, 6, 5, 4] rfl rfl (by decide) ?_
    exact zdq (j + 1) (Md.mk v99 avhR109 q.iv q.mv (q.ss ++ [(Sg.mk 2 wd 0)]) (q.gs ++ [As.mk (q.ss.length : Int) ovhR109 oshR109]) q.xs q.ms) ((v102, Y.1.2 ++ ([(q.ss.length : Int)])), (Y.2.1, Y.2.2)) [bigE pq, bigE aphR109] ⟨by omega, ((hq.wire _ hwd9 mem_app2).asg _ (List.mem_append_right _ List.mem_cons_self) _ hoshR109 (by show (q.ss.length : Int) ≤ ((_ : List Sg).length : Int); rw [List.length_append]; omega) (mem_less hq.plt)).up (by omega) (by omega) (by omega) (by omega) (by omega) (by omega), hij.inn rfl (by omega), fun w hw => ⟨(haphR109 w (zbi hw (List.mem_cons_of_mem _ List.mem_cons_self))).1, (hpq w (zbi hw List.mem_cons_self)).2.1.app (haphR109 w (zbi hw (List.mem_cons_of_mem _ List.mem_cons_self))).2, (hpq w (zbi hw List.mem_cons_self)).2.2⟩⟩ (by omega) (saQ rfl) (.refl _)
   refine ntQ (zap rfl ?_)
   refine zbj (zeb ?_)
   refine zal (zba (srQ (hvQ rfl (fdQ 2 rfl rfl rfl) (hvQ rfl (zac rfl rfl rfl (zaa 11 rfl rfl)) (hvQ rfl (zax (cs := [.int .i64 xhR83, .int .i64 xhR87, Y.1.1]) rfl rfl rfl rfl rfl (zat 4 rfl 0 rfl)) ?_)))))
   refine zea rfl (zak (z := .agg #[.int .i64 0, .int .i64 0, .slice none 0 0]) (s := 3) (cs := [.int .i64 xhR83, .int .i64 xhR87, Y.1.1]) rfl Try.underlying32 rfl (by decide) rfl (by kernel_rfl) rfl) ?_
   intro g110
   refine zct (i := 1) rfl (fun ho111 => ?_)
   refine zcs (i := 8) (z := .agg #[.int .i64 0, .int .i64 0, .slice none 0 0]) (bytes := 40) rfl rfl rfl rfl Try.underlying32 (by kernel_rfl) rfl rfl rfl rfl (zaj 0 rfl) (zab rfl (zab rfl (zab ho111 zbc))) (by first | omega | (simp only [List.length_append, List.length_cons, List.length_nil]; omega)) (zcc q.xs [(Ix.mk xhR83 xhR87 Y.1.1 Y.1.2)]) (zcz ixC q.xs (Ix.mk xhR83 xhR87 Y.1.1 Y.1.2) _ rfl) (fun _ => rfl) ?_
   intro v112
   refine hvQ rfl (fdQ 2 rfl rfl rfl) (zct (i := 8) rfl (fun ho113 => ?_))
   refine zdo (i := 12) (cs' := #[q.sv, q.av, v112, q.mv]) rfl rfl rfl rfl rfl rfl ho113 rfl rfl rfl rfl (ntQ (reQ 2 rfl ?_))
   refine zcs (i := 11) (z := .int .i64 0) (bytes := 8) rfl rfl rfl rfl Try.underlying48 (by kernel_rfl) rfl rfl rfl rfl (zaj 2 rfl) (zbx _) (by first | omega | (simp; done) | (simp; omega)) (zcc U3.2 Y.2.2) (zcw U3.2 Y.2.2) (fun _ => rfl) ?_
   intro v114
   refine enQ 1 rfl (zdh (reQ 1 rfl (hvQ rfl (vaQ rfl rfl rfl) (enQ 1 rfl ?_))))
   rw [show j = (ptsK (D.getD ((xhR83).toNat) md0)).length by omega] at hij
   refine zbn 16 [15, 14, 13, 12, 11, 10, 9, 8, 7, 5, 4, 3, 2, 0, 1, 6] rfl rfl (by decide) ?_
   refine zcd 2 rfl ?_
   exact zdq (t + 1) (Md.mk q.sv q.av v112 q.mv q.ss q.gs (q.xs ++ [(Ix.mk xhR83 xhR87 Y.1.1 Y.1.2)]) q.ms) (v114, U3.2 ++ Y.2.2) [bigE pq, rowE 3 1 Y.1.1 Y.1.2.length (Y.1.2.map (Value.int .i64))] ⟨by omega, (MI.done hq _ _ hij ⟨by omega, by omega⟩ (by omega) h3.plt (e := 4) (by omega)).up (by omega) (by omega) (by omega) (by omega) (by omega) (by omega), fun w hw => ⟨(hpq w (zbi hw List.mem_cons_self)).1, (hpq w (zbi hw List.mem_cons_self)).2.1, (hpq w (zbi hw List.mem_cons_self)).2.2.app (zdk (zbi hw (List.mem_cons_of_mem _ List.mem_cons_self)))⟩⟩ (by omega) (saQ rfl) (.cons_cons _ (.cons _ (.cons _ (.cons _ (.cons _ (.cons _ (.refl _)))))))
  refine zay 1 rfl (zap rfl ?_)
  refine zbj (zeb ?_)
  refine zal (zba ?_)
  refine hc_meet3 (α := Md) (β := Value × List Int) (γ := List HP) (fun m5 U5 ps5 => (bigE ps5 :: rowE 38 3 m5.sv m5.ss.length (m5.ss.flatMap sgC) :: rowE 63 3 m5.iv m5.xs.length (m5.xs.flatMap ixC) :: rowE 94 4 m5.mv m5.ms.length (m5.ms.flatMap mmC) :: rowE 3 1 W2.1 W2.2.length (W2.2.map (Value.int .i64)) :: rowE 3 1 U5.1 U5.2.length (U5.2.map (Value.int .i64)) :: boxE b3 #[m5.sv, m5.av, m5.iv, m5.mv] 35 :: boxE b2 #[.slice none 0 0, .slice none 0 0, .slice none 0 0, .slice none 0 0] 35 :: boxE b1 #[v] 26 :: curE g a len cap :: l)) (fun m5 U5 ps5 => [(0, .pointer (some ⟨g, 0, none⟩)), (1, .agg #[v]), (3, .pointer (some ⟨b1, 0, none⟩)), (4, .pointer (some ⟨b2, 0, none⟩)), (5, .pointer (some ⟨b3, 0, none⟩)), (6, U5.1), (7, W2.1), (11, .int .i64 (t : Int)), (33, .bool false), (55, .bool false), (89, .bool false)]) (fun m5 U5 ps5 => MI D m5 U5.2 W2.2 16 11 2 1 2 13 ∧ ∀ w, (bigE ps5).holds w → RdP w m5) ?_ ?_
  ·
   refine zag (reQ 1 rfl ?_)
   refine zcg (R := (fun u_ p_ => (∃ b : Bool, u_ = .bool b) ∧ p_ = curE g a len cap)) 9 rfl rfl rfl rfl rfl (fun l' w hm => once_mut hm hb (4) (by omega) (by omega)) ?_
   intro v115 p116 hR117
   obtain ⟨⟨xhR117, rfl⟩, rfl⟩ := hR117
   refine zcl (l' := (bigE ps3 :: rowE 38 3 m3.sv m3.ss.length (m3.ss.flatMap sgC) :: rowE 63 3 m3.iv m3.xs.length (m3.xs.flatMap ixC) :: rowE 94 4 m3.mv m3.ms.length (m3.ms.flatMap mmC) :: rowE 3 1 W2.1 W2.2.length (W2.2.map (Value.int .i64)) :: rowE 3 1 U3.1 U3.2.length (U3.2.map (Value.int .i64)) :: boxE b3 #[m3.sv, m3.av, m3.iv, m3.mv] 35 :: boxE b2 #[.slice none 0 0, .slice none 0 0, .slice none 0 0, .slice none 0 0] 35 :: boxE b1 #[v] 26 :: curE g a len cap :: l)) rfl ?_
   refine zbm (fun h118 => ?_) (fun h118 => ?_)
   ·
    refine ntQ (zah rfl (srQ (hvQ rfl (fdQ 0 rfl rfl rfl) (hvQ rfl (zac rfl rfl rfl (zaa 6 rfl rfl)) (hvQ rfl (lnQ rfl rfl rfl (zaj 1 rfl)) (zay 1 rfl (zag ?_)))))))
    refine reQ 1 rfl ?_
    refine zcg (R := (fun u_ p_ => (∃ x_ : Int, u_ = .int .i64 x_ ∧ 0 ≤ x_ ∧ x_ < 2) ∧ p_ = curE g a len cap)) 9 rfl rfl rfl rfl rfl (fun l' w hm => zby g a len cap z 2 _ _ _ hm hb (by constructor <;> omega)) ?_
    intro v119 p120 hR121
    obtain ⟨⟨xhR121, rfl, xhR1210, xhR1211⟩, rfl⟩ := hR121
    refine zcl (l' := (bigE ps3 :: rowE 38 3 m3.sv m3.ss.length (m3.ss.flatMap sgC) :: rowE 63 3 m3.iv m3.xs.length (m3.xs.flatMap ixC) :: rowE 94 4 m3.mv m3.ms.length (m3.ms.flatMap mmC) :: rowE 3 1 W2.1 W2.2.length (W2.2.map (Value.int .i64)) :: rowE 3 1 U3.1 U3.2.length (U3.2.map (Value.int .i64)) :: boxE b3 #[m3.sv, m3.av, m3.iv, m3.mv] 35 :: boxE b2 #[.slice none 0 0, .slice none 0 0, .slice none 0 0, .slice none 0 0] 35 :: boxE b1 #[v] 26 :: curE g a len cap :: l)) rfl ?_
    refine hvQ rfl (vaQ rfl rfl rfl) (zay 1 rfl (srQ (hvQ rfl (fdQ 0 rfl rfl rfl) (hvQ rfl (zac rfl rfl rfl (zaa 6 rfl rfl)) (hvQ rfl (zbk (cs := #[.int .i64 2, .int .i64 2, .int .i64 0]) rfl rfl rfl) (zam 1 rfl (hvQ rfl (zbk (cs := #[.int .i64 2, .int .i64 (1 + xhR121), .int .i64 0]) rfl rfl rfl) (hvQ rfl (zbk (cs := #[.int .i64 2, .int .i64 1, .int .i64 0]) rfl rfl rfl) (zam 1 rfl ?_)))))))))
    refine hvQ rfl (zbk (cs := #[.int .i64 2, .int .i64 (1 + xhR121), .int .i64 0]) rfl rfl rfl) (zea rfl (zak (z := .agg #[.int .i64 0, .int .i64 0, .int .i64 0]) (s := 3) (cs := ([2, 2, 0, 2, 1 + xhR121, 0, 2, 1, 0, 2, 1 + xhR121, 0].map (Value.int .i64))) rfl Try.underlying30 rfl (by decide) rfl (by kernel_rfl) rfl) ?_)
    intro g122
    refine zcs (i := 2) (z := .agg #[.int .i64 0, .int .i64 0, .int .i64 0]) (bytes := 24) (n' := (m3.ss ++ [Sg.mk 2 2 0, Sg.mk 2 (1 + xhR121) 0, Sg.mk 2 1 0, Sg.mk 2 (1 + xhR121) 0]).length) (xs' := ((m3.ss ++ [Sg.mk 2 2 0, Sg.mk 2 (1 + xhR121) 0, Sg.mk 2 1 0, Sg.mk 2 (1 + xhR121) 0]).flatMap sgC)) rfl rfl rfl rfl Try.underlying30 (by kernel_rfl) rfl rfl rfl rfl (zaj 0 rfl) (by simp [Value.oneCell']) (by omega) (zcc m3.ss ([Sg.mk 2 2 0, Sg.mk 2 (1 + xhR121) 0, Sg.mk 2 1 0, Sg.mk 2 (1 + xhR121) 0] : List Sg)) (flat_app sgC m3.ss [Sg.mk 2 2 0, Sg.mk 2 (1 + xhR121) 0, Sg.mk 2 1 0, Sg.mk 2 (1 + xhR121) 0]) (fun _ => rfl) ?_
    intro v123
    refine hvQ rfl (fdQ 0 rfl rfl rfl) (zct (i := 2) rfl (fun ho124 => ?_))
    refine zdo (i := 7) (cs' := #[v123, m3.av, m3.iv, m3.mv]) rfl rfl rfl rfl rfl rfl ho124 rfl rfl rfl rfl (zcu (zba (zag (zas (hvQ rfl (fdQ 3 rfl rfl rfl) (hvQ rfl (zac rfl rfl rfl (zaa 7 rfl rfl)) (zam 2 rfl (hvQ rfl (vaQ rfl rfl rfl) (zam 1 rfl (hvQ rfl (vaQ rfl rfl rfl) (zam 1 rfl (hvQ rfl (vaQ rfl rfl rfl) (hvQ rfl (zbk (cs := #[.int .i64 (m3.ss.length : Int), .int .i64 ((m3.ss.length : Int) + 1), .int .i64 ((m3.ss.length : Int) + 2), .int .i64 ((m3.ss.length : Int) + 3)]) rfl rfl rfl) ?_)))))))))))))
    refine zea rfl (zak (z := .agg #[.int .i64 0, .int .i64 0, .int .i64 0, .int .i64 0]) (s := 4) (cs := ([(m3.ss.length : Int), (m3.ss.length : Int) + 1, (m3.ss.length : Int) + 2, (m3.ss.length : Int) + 3].map (Value.int .i64))) rfl Try.underlying33 rfl (by decide) rfl (by kernel_rfl) rfl) ?_
    intro g125
    refine zcs (i := 5) (z := .agg #[.int .i64 0, .int .i64 0, .int .i64 0, .int .i64 0]) (bytes := 32) rfl rfl rfl rfl Try.underlying33 (by kernel_rfl) rfl rfl rfl rfl (zaj 0 rfl) (zbx _) (by first | omega | (simp only [List.length_append, List.length_cons, List.length_nil]; omega)) (zcc m3.ms [(Mm.mk (m3.ss.length : Int) ((m3.ss.length : Int) + 1) ((m3.ss.length : Int) + 2) ((m3.ss.length : Int) + 3))]) (zcz mmC m3.ms (Mm.mk (m3.ss.length : Int) ((m3.ss.length : Int) + 1) ((m3.ss.length : Int) + 2) ((m3.ss.length : Int) + 3)) _ rfl) (fun _ => rfl) ?_
    intro v126
    refine hvQ rfl (fdQ 3 rfl rfl rfl) (zct (i := 5) rfl (fun ho127 => ?_))
    refine zdo (i := 8) (cs' := #[v123, m3.av, m3.iv, v126]) rfl rfl rfl rfl rfl rfl ho127 rfl rfl rfl rfl (ntQ (zag (reQ 2 rfl (hvQ rfl (vaQ rfl rfl rfl) ?_))))
    refine zea rfl (zak (z := .int .i64 0) (s := 1) (cs := ([(m3.ss.length : Int) + 3].map (Value.int .i64))) rfl Try.underlying48 rfl (by decide) rfl (by kernel_rfl) rfl) ?_
    intro g128
    refine zcs (i := 8) (z := .int .i64 0) (bytes := 8) rfl rfl rfl rfl Try.underlying48 (by kernel_rfl) rfl rfl rfl rfl (zaj 0 rfl) (zbx _) (by first | omega | (simp; done) | (simp; omega)) (zcc U3.2 ([(m3.ss.length : Int) + 3])) (zcw U3.2 ([(m3.ss.length : Int) + 3])) (fun _ => rfl) ?_
    intro v129
    refine zay 1 rfl (zbg 1 rfl (zaz ?_))
    refine lkQ3 (α := Nat) (β := Md) (γ := List HP) [0, 1, 3, 4, 5, 6, 7, 11, 19, 20, 33, 55, 89, 181] rfl (fun j4 m4 ps4 => (bigE ps4 :: rowE 38 3 m4.sv m4.ss.length (m4.ss.flatMap sgC) :: rowE 63 3 m4.iv m4.xs.length (m4.xs.flatMap ixC) :: rowE 94 4 m4.mv m4.ms.length (m4.ms.flatMap mmC) :: rowE 3 1 W2.1 W2.2.length (W2.2.map (Value.int .i64)) :: rowE 3 1 v129 ((U3.2 ++ ([(m3.ss.length : Int) + 3])).length) ((U3.2 ++ ([(m3.ss.length : Int) + 3])).map (Value.int .i64)) :: boxE b3 #[m4.sv, m4.av, m4.iv, m4.mv] 35 :: boxE b2 #[.slice none 0 0, .slice none 0 0, .slice none 0 0, .slice none 0 0] 35 :: boxE b1 #[v] 26 :: curE g a len cap :: l)) (fun j4 m4 ps4 => [(21, .int .i64 (j4 : Int))]) (fun j4 m4 ps4 => j4 ≤ 3 ∧ MI D m4 (U3.2 ++ ([(m3.ss.length : Int) + 3])) (W2.2 ++ ([(m3.ss.length : Int), (m3.ss.length : Int) + 1, (m3.ss.length : Int) + 2] : List Int).drop j4) 16 (8 + j4) 2 1 2 13 ∧ ∀ w, (bigE ps4).holds w → RdP w m4) (fun j4 m4 ps4 => 3 - j4) 0 (Md.mk v123 m3.av m3.iv v126 (m3.ss ++ [Sg.mk 2 2 0, Sg.mk 2 (1 + xhR121) 0, Sg.mk 2 1 0, Sg.mk 2 (1 + xhR121) 0]) m3.gs m3.xs (m3.ms ++ [(Mm.mk (m3.ss.length : Int) ((m3.ss.length : Int) + 1) ((m3.ss.length : Int) + 2) ((m3.ss.length : Int) + 3))])) ps3 ⟨by omega, (h3.mm4 _ _ ⟨by omega, by omega⟩).up (by omega) (by omega) (by omega) (by omega) (by omega) (by omega), fun w hw => hp3 w hw⟩ (saQ rfl) (.cons _ (.cons _ (.cons _ (.refl _)))) ?_
    intro j4 m4 ps4 hi130
    obtain ⟨hj4, h4, hp4⟩ := hi130
    refine zag (zag (reQ 1 rfl ?_))
    refine zbq rfl rfl rfl rfl rfl rfl (fun h131 => ?_) (fun h131 => ?_)
    ·
     refine ntQ (zah rfl (zcv (sbQ (zas ?_))))
     have hpd9 := pend3 h3.plt (show j4 < 3 by omega)
     refine zgb (p := (∀ g9 ∈ m4.gs, g9.ov.oneCell' = true) ∧ m4.sv.oneCell' = true ∧ m4.av.oneCell' = true ∧ m4.iv.oneCell' = true ∧ m4.mv.oneCell' = true) (fun w hm => ⟨fun g9 hg9 => ((hp4 w (hm.holds _ (zcj (i := 0) rfl))).2.1 g9 hg9).one, (zaj 1 rfl w hm).one, (hp4 w (hm.holds _ (zcj (i := 0) rfl))).1.one, (zaj 2 rfl w hm).one, (zaj 3 rfl w hm).one⟩) (fun ⟨hone9, ho9⟩ => ?_)
     refine zam 1 rfl (hvQ rfl (zax (cs := [m4.sv, m4.av, m4.iv, m4.mv]) rfl rfl rfl rfl rfl (zat 6 rfl 0 rfl)) (zam 2 rfl (hvQ rfl (vaQ rfl rfl rfl) (zam 1 rfl ?_))))
     refine zds (R := (fun u_ p_ => ∃ (v' ov : Value) (os : List Oq) (ps : List HP), u_ = .agg #[m4.sv, v', m4.iv, m4.mv] ∧ p_ = bigE [curE g a len cap, bigE ps] ∧ (∀ w, (bigE ps).holds w → RdsW w v' 2 (m4.gs ++ [As.mk ((m3.ss.length : Int) + (j4 : Int)) ov os]).length ((m4.gs ++ [As.mk ((m3.ss.length : Int) + (j4 : Int)) ov os]).flatMap asC) ∧ RdsW w ov 3 os.length (os.flatMap oqC)) ∧ v'.oneCell' = true ∧ ov.oneCell' = true ∧ ExP (m4.ss.length : Int) 9 os)) 9 rfl rfl rfl rfl rfl (fun L w hX hm => zdz g a len cap z (m4.ss.length : Int) (Md.mk m4.sv m4.av m4.iv m4.mv m4.ss m4.gs m4.xs m4.ms) ((m3.ss.length : Int) + (j4 : Int)) v129 _ _ _ _ hm hb (fun w9 h9 => (zaj (l := (bigE ps4 :: rowE 38 3 m4.sv m4.ss.length (m4.ss.flatMap sgC) :: rowE 63 3 m4.iv m4.xs.length (m4.xs.flatMap ixC) :: rowE 94 4 m4.mv m4.ms.length (m4.ms.flatMap mmC) :: rowE 3 1 W2.1 W2.2.length (W2.2.map (Value.int .i64)) :: rowE 3 1 v129 ((U3.2 ++ ([(m3.ss.length : Int) + 3])).length) ((U3.2 ++ ([(m3.ss.length : Int) + 3])).map (Value.int .i64)) :: boxE b3 #[m4.sv, m4.av, m4.iv, m4.mv] 35 :: boxE b2 #[.slice none 0 0, .slice none 0 0, .slice none 0 0, .slice none 0 0] 35 :: boxE b1 #[v] 26 :: l)) 5 rfl) w9 (hX w9 h9)) (fun x hx => h4.av x hx) (by have h9 := h4.na; omega) (fun w9 h9 => (hp4 w9 ((hX w9 h9).holds _ (zcj (i := 0) rfl))).1) (by have h9 := h4.ng; show m4.gs.length ≤ 1000; omega) hone9 ⟨ho9.1, ho9.2.1, ho9.2.2.1, ho9.2.2.2⟩) ?_
     intro v132 p133 hR134
     obtain ⟨avhR134, ovhR134, oshR134, aphR134, rfl, rfl, haphR134, oavhR134, oovhR134, hoshR134⟩ := hR134
     refine zcl (l' := (bigE ps4 :: rowE 38 3 m4.sv m4.ss.length (m4.ss.flatMap sgC) :: rowE 63 3 m4.iv m4.xs.length (m4.xs.flatMap ixC) :: rowE 94 4 m4.mv m4.ms.length (m4.ms.flatMap mmC) :: rowE 3 1 W2.1 W2.2.length (W2.2.map (Value.int .i64)) :: rowE 3 1 v129 ((U3.2 ++ ([(m3.ss.length : Int) + 3])).length) ((U3.2 ++ ([(m3.ss.length : Int) + 3])).map (Value.int .i64)) :: boxE b3 #[m4.sv, m4.av, m4.iv, m4.mv] 35 :: boxE b2 #[.slice none 0 0, .slice none 0 0, .slice none 0 0, .slice none 0 0] 35 :: boxE b1 #[v] 26 :: bigE [curE g a len cap, bigE aphR134] :: l)) rfl ?_
     refine zbh (cs' := #[m4.sv, avhR134, m4.iv, m4.mv]) (i := 6) (off := 0) (us := [m4.sv, avhR134, m4.iv, m4.mv]) rfl rfl rfl rfl rfl rfl rfl (zab ho9.1 (zab oavhR134 (zab ho9.2.2.1 (zab ho9.2.2.2 zbc)))) rfl rfl rfl (zcu (zdh (reQ 1 rfl (hvQ rfl (vaQ rfl rfl rfl) (enQ 1 rfl ?_)))))
     refine zbn 10 [8, 7, 6, 5, 4, 3, 2, 1, 0, 9] rfl rfl (by decide) ?_
     refine zco (curE g a len cap :: bigE aphR134 :: bigE ps4 :: rowE 38 3 m4.sv m4.ss.length (m4.ss.flatMap sgC) :: rowE 63 3 m4.iv m4.xs.length (m4.xs.flatMap ixC) :: rowE 94 4 m4.mv m4.ms.length (m4.ms.flatMap mmC) :: rowE 3 1 W2.1 W2.2.length (W2.2.map (Value.int .i64)) :: rowE 3 1 v129 ((U3.2 ++ ([(m3.ss.length : Int) + 3])).length) ((U3.2 ++ ([(m3.ss.length : Int) + 3])).map (Value.int .i64)) :: boxE b3 #[m4.sv, avhR134, m4.iv, m4.mv] 35 :: boxE b2 #[.slice none 0 0, .slice none 0 0, .slice none 0 0, .slice none 0 0] 35 :: boxE b1 #[v] 26 :: l) zdb ?_
     refine zbn 11 [10, 9, 8, 7, 6, 5, 4, 3, 0, 1, 2] rfl rfl (by decide) ?_
     refine zcd 2 rfl ?_
     refine zbn 10 [1, 9, 8, 7, 6, 5, 4, 3, 2, 0] rfl rfl (by decide) ?_
     exact zcq (j4 + 1) (Md.mk m4.sv avhR134 m4.iv m4.mv m4.ss (m4.gs ++ [As.mk ((m3.ss.length : Int) + (j4 : Int)) ovhR134 oshR134]) m4.xs m4.ms) [bigE ps4, bigE aphR134] ⟨by omega, (h4.asg _ hpd9.1 _ hoshR134 (by show (m4.ss.length : Int) ≤ (m4.ss.length : Int); omega) hpd9.2).up (by omega) (by omega) (by omega) (by omega) (by omega) (by omega), fun w hw => ⟨(haphR134 w (zbi hw (List.mem_cons_of_mem _ List.mem_cons_self))).1, (hp4 w (zbi hw List.mem_cons_self)).2.1.app (haphR134 w (zbi hw (List.mem_cons_of_mem _ List.mem_cons_self))).2, (hp4 w (zbi hw List.mem_cons_self)).2.2⟩⟩ (by omega) (saQ rfl) (.refl _)
    refine ntQ (zap rfl ?_)
    refine zbj (zeb ?_)
    exact zal (hq_meet3 m4 (v129, U3.2 ++ ([(m3.ss.length : Int) + 3])) ps4 ⟨by have h9 := h4; rw [show j4 = 3 by omega] at h9; exact (by simpa using h9.up (show 16 ≤ 16 by omega) (show 8 + 3 ≤ 11 by omega) (show 2 ≤ 2 by omega) (show 1 ≤ 1 by omega) (show 2 ≤ 2 by omega) (show 13 ≤ 13 by omega)), hp4⟩ (saQ rfl) (.refl _))
   refine ntQ (fsQ rfl ?_)
   exact hq_meet3 m3 (U3.1, U3.2) ps3 ⟨h3.up (by omega) (by omega) (by omega) (by omega) (by omega) (by omega), hp3⟩ (saQ rfl) (.refl _)
  intro m5 U5 ps5 hm135
  obtain ⟨h5, hp5⟩ := hm135
  have hns5 := h5.ns
  have hna5 := h5.na
  refine zag (reQ 1 rfl ?_)
  refine zcg (R := (fun u_ p_ => (∃ x_ : Int, u_ = .int .i64 x_ ∧ 0 ≤ x_ ∧ x_ < 2) ∧ p_ = curE g a len cap)) 9 rfl rfl rfl rfl rfl (fun l' w hm => zby g a len cap z 2 _ _ _ hm hb (by constructor <;> omega)) ?_
  intro v136 p137 hR138
  obtain ⟨⟨xhR138, rfl, xhR1380, xhR1381⟩, rfl⟩ := hR138
  refine zcl (l' := (bigE ps5 :: rowE 38 3 m5.sv m5.ss.length (m5.ss.flatMap sgC) :: rowE 63 3 m5.iv m5.xs.length (m5.xs.flatMap ixC) :: rowE 94 4 m5.mv m5.ms.length (m5.ms.flatMap mmC) :: rowE 3 1 W2.1 W2.2.length (W2.2.map (Value.int .i64)) :: rowE 3 1 U5.1 U5.2.length (U5.2.map (Value.int .i64)) :: boxE b3 #[m5.sv, m5.av, m5.iv, m5.mv] 35 :: boxE b2 #[.slice none 0 0, .slice none 0 0, .slice none 0 0, .slice none 0 0] 35 :: boxE b1 #[v] 26 :: curE g a len cap :: l)) rfl ?_
  refine hvQ rfl (vaQ rfl rfl rfl) (zay 1 rfl (zag (zbg 1 rfl (zaz ?_))))
  refine lkQ4 (α := Nat) (β := Md) (γ := Value × List Int) (δ := List HP) [0, 1, 3, 4, 5, 7, 8, 33, 55, 89] rfl (fun k6 m6 U6 ps6 => (bigE ps6 :: rowE 38 3 m6.sv m6.ss.length (m6.ss.flatMap sgC) :: rowE 63 3 m6.iv m6.xs.length (m6.xs.flatMap ixC) :: rowE 94 4 m6.mv m6.ms.length (m6.ms.flatMap mmC) :: rowE 3 1 W2.1 W2.2.length (W2.2.map (Value.int .i64)) :: rowE 3 1 U6.1 U6.2.length (U6.2.map (Value.int .i64)) :: boxE b3 #[m6.sv, m6.av, m6.iv, m6.mv] 35 :: boxE b2 #[.slice none 0 0, .slice none 0 0, .slice none 0 0, .slice none 0 0] 35 :: boxE b1 #[v] 26 :: curE g a len cap :: l)) (fun k6 m6 U6 ps6 => [(6, U6.1), (22, .int .i64 (k6 : Int))]) (fun k6 m6 U6 ps6 => (k6 : Int) ≤ 1 + xhR138 ∧ MI D m6 U6.2 W2.2 (16 + k6) (11 + k6) 2 1 (2 + k6) (13 + k6) ∧ ∀ w, (bigE ps6).holds w → RdP w m6) (fun k6 m6 U6 ps6 => (1 + xhR138).toNat - k6) 0 m5 U5 ps5 ⟨by omega, h5.up (by omega) (by omega) (by omega) (by omega) (by omega) (by omega), hp5⟩ (saQ rfl) (.refl _) ?_
  intro k6 m6 U6 ps6 hi139
  obtain ⟨hk6, h6, hp6⟩ := hi139
  have hns6 := h6.ns
  have hna6 := h6.na
  refine zag (zag (reQ 2 rfl ?_))
  refine zbq rfl rfl rfl rfl rfl rfl (fun h140 => ?_) (fun h140 => ?_)
  ·
   refine ntQ (zah rfl (zcv (sbQ (srQ (hvQ rfl (fdQ 0 rfl rfl rfl) (hvQ rfl (zac rfl rfl rfl (zaa 6 rfl rfl)) (hvQ rfl (lnQ rfl rfl rfl (zaj 1 rfl)) (zam 1 rfl ?_))))))))
   refine ntQ (zag ?_)
   refine zey 10 [8, 7, 6, 5, 4, 3, 2, 1, 0, 9] rfl rfl (by decide) ?_
   refine zez (l := (bigE ps6 :: rowE 38 3 m6.sv m6.ss.length (m6.ss.flatMap sgC) :: rowE 63 3 m6.iv m6.xs.length (m6.xs.flatMap ixC) :: rowE 94 4 m6.mv m6.ms.length (m6.ms.flatMap mmC) :: rowE 3 1 W2.1 W2.2.length (W2.2.map (Value.int .i64)) :: rowE 3 1 U6.1 U6.2.length (U6.2.map (Value.int .i64)) :: boxE b3 #[m6.sv, m6.av, m6.iv, m6.mv] 35 :: boxE b2 #[.slice none 0 0, .slice none 0 0, .slice none 0 0, .slice none 0 0] 35 :: boxE b1 #[v] 26 :: l)) rfl 10 [0, 1, 2, 3, 4, 5, 6, 7, 8, 9] (List.take 10 _) (List.drop 10 _) [[], [0], [], [], [2, 3], [], [], [4, 5, 6], [4, 7], [4, 7, 8]] [239, 240, 241, 242, 243, 244, 245, 246, 247, 248] (fun i_ vs_ v_ p_ => match i_ with | 0 => v_ = .pointer (some ⟨b3, 0 + 0, none⟩) ∧ p_ = [] | 1 => v_ = m6.sv ∧ p_ = [] | 2 => v_ = .pointer (some ⟨g, 0, none⟩) ∧ p_ = [] | 3 => IsRow 3 1 2 ([1, 2].map (Value.int .i64)) v_ p_ | 4 => (∃ pm_, p_ = [pm_] ∧ (fun u_ p_ => (∃ x : Int, u_ = .int .i64 x ∧ x ∈ ([1, 2] : List Int)) ∧ p_ = curE g a len cap) v_ pm_) | 5 => v_ = .pointer (some ⟨g, 0, none⟩) ∧ p_ = [] | 6 => IsRow 3 1 3 ([1, 2, 0].map (Value.int .i64)) v_ p_ | 7 => (∃ pm_, p_ = [pm_] ∧ (fun u_ p_ => (∃ x : Int, u_ = .int .i64 x ∧ x ∈ ([1, 2, 0] : List Int)) ∧ p_ = curE g a len cap) v_ pm_) | 8 => v_ = .agg #[.int .i64 (intOf_o (List.getD vs_ 0 undef)), .int .i64 (intOf_o (List.getD vs_ 1 undef)), .int .i64 0] ∧ p_ = [] | 9 => IsRow 38 3 1 ([(intOf_o (List.getD vs_ 0 undef)), (intOf_o (List.getD vs_ 1 undef)), 0].map (Value.int .i64)) v_ p_ | _ => True) [[], [0], [], [], [2, 3], [], [], [5, 6], [7], [7, 8]] [none, none, none, none, some 13, none, none, some 4, none, none] [curE g a len cap] [0, 1, 2, 3, 5, 6, 7, 8, 9] 13 (List.take_append_drop 10 _).symm (by kernel_rfl) (by kernel_rfl) (by kernel_rfl) rfl rfl ?_ ?_
   ·
    refine ⟨?_, ?_, ?_, ?_, ?_, ?_, ?_, ?_, ?_, ?_, trivial⟩
    ·
     intro vf pf hmu hR
     refine dqQ [] [] rfl (zbo (zar [5] rfl) ?_)
     exact zbt (fdQ 0 rfl rfl rfl)
    ·
     intro vf pf hmu hR
     have e0 := hR 0 (by decide)
     refine dqQ [0] [0] rfl (zbe (sk 239 (congrArg some e0.1) (zai _)) (List.sublist_append_right _ _) ?_)
     exact zbt (zac rfl rfl rfl (zaa 6 rfl rfl))
    ·
     intro vf pf hmu hR
     refine dqQ [] [] rfl (zbo (zar [0] rfl) ?_)
     exact zbt (zau rfl)
    ·
     intro vf pf hmu hR
     refine dqQ [] [] rfl (zbe (zai _) (List.sublist_append_right _ _) ?_)
     exact zak (z := .int .i64 0) (s := 1) (cs := ([1, 2].map (Value.int .i64))) rfl Try.underlying48 rfl (by decide) rfl (by kernel_rfl) rfl
    ·
     intro vf pf hmu hR
     have e2 := hR 2 (by decide)
     have e3 : IsRow 3 1 2 ([1, 2].map (Value.int .i64)) (vf 3) (pf 3) := hR 3 (by decide)
     obtain ⟨g141, vE3, pE3⟩ := e3
     refine Or.inl ⟨rfl, ?_⟩
     show RunM _ _ _ (pf 13) (([2, 3] : List Nat).flatMap pf ++ _) (envOf _ vf [2, 3] ++ _) _ _
     rw [hmu]
     exact zda (sk 241 (congrArg some e2.1) (sk 242 (congrArg some vE3) (zai _))) (by simp only [pE3, vE3, e2.2, fS] <;> rfl) (zdp (R := (fun u_ p_ => (∃ x : Int, u_ = .int .i64 x ∧ x ∈ ([1, 2] : List Int)) ∧ p_ = curE g a len cap)) rfl rfl (fun L w hX hm => zdy g a len cap z (.slice (some ⟨g141, 0, none⟩) 2 2) [1, 2] _ _ _ hm hb (fun w hm => (zaj (l := (rowE 3 1 (.slice (some ⟨g141, 0, none⟩) 2 2) 2 ([1, 2].map (Value.int .i64)) :: bigE ps6 :: rowE 38 3 m6.sv m6.ss.length (m6.ss.flatMap sgC) :: rowE 63 3 m6.iv m6.xs.length (m6.xs.flatMap ixC) :: rowE 94 4 m6.mv m6.ms.length (m6.ms.flatMap mmC) :: rowE 3 1 W2.1 W2.2.length (W2.2.map (Value.int .i64)) :: rowE 3 1 U6.1 U6.2.length (U6.2.map (Value.int .i64)) :: boxE b3 #[m6.sv, m6.av, m6.iv, m6.mv] 35 :: boxE b2 #[.slice none 0 0, .slice none 0 0, .slice none 0 0, .slice none 0 0] 35 :: boxE b1 #[v] 26 :: l)) 0 rfl) w (hX w hm)) (by decide)))
    ·
     intro vf pf hmu hR
     refine dqQ [] [] rfl (zbo (zar [0] rfl) ?_)
     exact zbt (zau rfl)
    ·
     intro vf pf hmu hR
     refine dqQ [] [] rfl (zbe (zai _) (List.sublist_append_right _ _) ?_)
     exact zak (z := .int .i64 0) (s := 1) (cs := ([1, 2, 0].map (Value.int .i64))) rfl Try.underlying48 rfl (by decide) rfl (by kernel_rfl) rfl
    ·
     intro vf pf hmu hR
     have e4 : (∃ pm_, (pf 4) = [pm_] ∧ (fun u_ p_ => (∃ x : Int, u_ = .int .i64 x ∧ x ∈ ([1, 2] : List Int)) ∧ p_ = curE g a len cap) (vf 4) pm_) := hR 4 (by decide)
     obtain ⟨p143, pE4, hR144⟩ := e4
     obtain ⟨v142, vE4⟩ : ∃ x, vf 4 = x := ⟨_, rfl⟩
     rw [vE4] at hR144
     obtain ⟨⟨xhR144, rfl, xhR144m⟩, rfl⟩ := hR144
     have e5 := hR 5 (by decide)
     have e6 : IsRow 3 1 3 ([1, 2, 0].map (Value.int .i64)) (vf 6) (pf 6) := hR 6 (by decide)
     obtain ⟨g145, vE6, pE6⟩ := e6
     refine Or.inl ⟨rfl, ?_⟩
     show RunM _ _ _ (pf 4) (([5, 6] : List Nat).flatMap pf ++ _) (envOf _ vf [4, 5, 6] ++ _) _ _
     rw [pE4]
     exact zda (sk 244 (congrArg some e5.1) (sk 245 (congrArg some vE6) (zai _))) (by simp only [pE6, vE6, e5.2, fS] <;> rfl) (zdp (R := (fun u_ p_ => (∃ x : Int, u_ = .int .i64 x ∧ x ∈ ([1, 2, 0] : List Int)) ∧ p_ = curE g a len cap)) rfl rfl (fun L w hX hm => zdy g a len cap z (.slice (some ⟨g145, 0, none⟩) 3 3) [1, 2, 0] _ _ _ hm hb (fun w hm => (zaj (l := (rowE 3 1 (.slice (some ⟨g145, 0, none⟩) 3 3) 3 ([1, 2, 0].map (Value.int .i64)) :: bigE ps6 :: rowE 38 3 m6.sv m6.ss.length (m6.ss.flatMap sgC) :: rowE 63 3 m6.iv m6.xs.length (m6.xs.flatMap ixC) :: rowE 94 4 m6.mv m6.ms.length (m6.ms.flatMap mmC) :: rowE 3 1 W2.1 W2.2.length (W2.2.map (Value.int .i64)) :: rowE 3 1 U6.1 U6.2.length (U6.2.map (Value.int .i64)) :: boxE b3 #[m6.sv, m6.av, m6.iv, m6.mv] 35 :: boxE b2 #[.slice none 0 0, .slice none 0 0, .slice none 0 0, .slice none 0 0] 35 :: boxE b1 #[v] 26 :: l)) 0 rfl) w (hX w hm)) (by decide)))
    ·
     intro vf pf hmu hR
     have e4 : (∃ pm_, (pf 4) = [pm_] ∧ (fun u_ p_ => (∃ x : Int, u_ = .int .i64 x ∧ x ∈ ([1, 2] : List Int)) ∧ p_ = curE g a len cap) (vf 4) pm_) := hR 4 (by decide)
     obtain ⟨p143, pE4, hR144⟩ := e4
     obtain ⟨v142, vE4⟩ : ∃ x, vf 4 = x := ⟨_, rfl⟩
     rw [vE4] at hR144
     obtain ⟨⟨xhR144, rfl, xhR144m⟩, rfl⟩ := hR144
     have e7 : (∃ pm_, (pf 7) = [pm_] ∧ (fun u_ p_ => (∃ x : Int, u_ = .int .i64 x ∧ x ∈ ([1, 2, 0] : List Int)) ∧ p_ = curE g a len cap) (vf 7) pm_) := hR 7 (by decide)
     obtain ⟨p147, pE7, hR148⟩ := e7
     obtain ⟨v146, vE7⟩ : ∃ x, vf 7 = x := ⟨_, rfl⟩
     rw [vE7] at hR148
     obtain ⟨⟨xhR148, rfl, xhR148m⟩, rfl⟩ := hR148
     have xhR148w := lit4 xhR148m (by decide)
     refine dqQ [7] [4, 7] rfl (zcm (sk 243 (congrArg some vE4) (sk 246 (congrArg some vE7) (zai _))) (by simp only [pE7, vE7, fS] <;> rfl) ?_)
     exact zck (zbt (zbk (cs := #[.int .i64 xhR144, .int .i64 xhR148, .int .i64 0]) rfl rfl rfl)) (fun _ _ h => ⟨h.1.trans (by show _ = (.agg #[.int .i64 (intOf_o (vf 4)), .int .i64 (intOf_o (vf 7)), .int .i64 0] : Value); first | (rw [vE4, vE7]; done) | (rw [vE4, vE7]; rfl)), h.2⟩)
    intro vf pf hmu hR
    have e4 : (∃ pm_, (pf 4) = [pm_] ∧ (fun u_ p_ => (∃ x : Int, u_ = .int .i64 x ∧ x ∈ ([1, 2] : List Int)) ∧ p_ = curE g a len cap) (vf 4) pm_) := hR 4 (by decide)
    obtain ⟨p143, pE4, hR144⟩ := e4
    obtain ⟨v142, vE4⟩ : ∃ x, vf 4 = x := ⟨_, rfl⟩
    rw [vE4] at hR144
    obtain ⟨⟨xhR144, rfl, xhR144m⟩, rfl⟩ := hR144
    have e7 : (∃ pm_, (pf 7) = [pm_] ∧ (fun u_ p_ => (∃ x : Int, u_ = .int .i64 x ∧ x ∈ ([1, 2, 0] : List Int)) ∧ p_ = curE g a len cap) (vf 7) pm_) := hR 7 (by decide)
    obtain ⟨p147, pE7, hR148⟩ := e7
    obtain ⟨v146, vE7⟩ : ∃ x, vf 7 = x := ⟨_, rfl⟩
    rw [vE7] at hR148
    obtain ⟨⟨xhR148, rfl, xhR148m⟩, rfl⟩ := hR148
    have xhR148w := lit4 xhR148m (by decide)
    have e8 : (vf 8) = .agg #[.int .i64 (intOf_o (vf 4)), .int .i64 (intOf_o (vf 7)), .int .i64 0] ∧ (pf 8) = [] := hR 8 (by decide)
    rw [vE4, vE7] at e8
    refine dqQ [7, 8] [4, 7, 8] rfl (zcm (sk 247 (congrArg some e8.1) (zai _)) (by simp only [pE7, vE7, e8.2, fS] <;> rfl) ?_)
    exact zck (zak (z := .agg #[.int .i64 0, .int .i64 0, .int .i64 0]) (s := 3) (cs := ([xhR144, xhR148, 0].map (Value.int .i64))) rfl Try.underlying30 rfl (by decide) rfl (by kernel_rfl) rfl) (fun v_ p_ h => by show IsRow 38 3 1 ([(intOf_o (vf 4)), (intOf_o (vf 7)), 0].map (Value.int .i64)) v_ p_; rw [vE4, vE7]; exact h)
   intro vf pf hmu hR
   have e1 := hR 1 (by decide)
   have e3 : IsRow 3 1 2 ([1, 2].map (Value.int .i64)) (vf 3) (pf 3) := hR 3 (by decide)
   obtain ⟨g141, vE3, pE3⟩ := e3
   have e4 : (∃ pm_, (pf 4) = [pm_] ∧ (fun u_ p_ => (∃ x : Int, u_ = .int .i64 x ∧ x ∈ ([1, 2] : List Int)) ∧ p_ = curE g a len cap) (vf 4) pm_) := hR 4 (by decide)
   obtain ⟨p143, pE4, hR144⟩ := e4
   obtain ⟨v142, vE4⟩ : ∃ x, vf 4 = x := ⟨_, rfl⟩
   rw [vE4] at hR144
   obtain ⟨⟨xhR144, rfl, xhR144m⟩, rfl⟩ := hR144
   have e6 : IsRow 3 1 3 ([1, 2, 0].map (Value.int .i64)) (vf 6) (pf 6) := hR 6 (by decide)
   obtain ⟨g145, vE6, pE6⟩ := e6
   have e7 : (∃ pm_, (pf 7) = [pm_] ∧ (fun u_ p_ => (∃ x : Int, u_ = .int .i64 x ∧ x ∈ ([1, 2, 0] : List Int)) ∧ p_ = curE g a len cap) (vf 7) pm_) := hR 7 (by decide)
   obtain ⟨p147, pE7, hR148⟩ := e7
   obtain ⟨v146, vE7⟩ : ∃ x, vf 7 = x := ⟨_, rfl⟩
   rw [vE7] at hR148
   obtain ⟨⟨xhR148, rfl, xhR148m⟩, rfl⟩ := hR148
   have xhR148w := lit4 xhR148m (by decide)
   have e9 : IsRow 38 3 1 ([(intOf_o (vf 4)), (intOf_o (vf 7)), 0].map (Value.int .i64)) (vf 9) (pf 9) := hR 9 (by decide)
   rw [vE4, vE7] at e9
   obtain ⟨g149, vE9, pE9⟩ := e9
   have q0 := hR 0 (by decide)
   have q1 := hR 1 (by decide)
   have q2 := hR 2 (by decide)
   have q5 := hR 5 (by decide)
   have q8 := hR 8 (by decide)
   refine zdf (zci [233, 89, 55, 33, 23, 22, 8, 7, 6, 5, 4, 3, 1, 0] _ (sk 240 (congrArg some e1.1) (sk 248 (congrArg some vE9) (zai _))) rfl) (by simp only [pE3, vE3, pE6, vE6, pE7, vE7, pE9, vE9, q0.2, q1.2, q2.2, q5.2, q8.2, fS] <;> rfl) ?_
   simp only [List.drop_succ_cons, List.drop_zero]
   refine zcs (i := 5) (z := .agg #[.int .i64 0, .int .i64 0, .int .i64 0]) (bytes := 24) rfl rfl rfl rfl Try.underlying30 (by kernel_rfl) rfl rfl rfl rfl (zaj 3 rfl) (zbx _) (by first | omega | (simp only [List.length_append, List.length_cons, List.length_nil]; omega)) (zcc m6.ss [(Sg.mk xhR144 xhR148 0)]) (zcz sgC m6.ss (Sg.mk xhR144 xhR148 0) _ rfl) (fun _ => rfl) ?_
   intro v150
   refine hvQ rfl (fdQ 0 rfl rfl rfl) (zct (i := 5) rfl (fun ho151 => ?_))
   refine zdo (i := 10) (cs' := #[v150, m6.av, m6.iv, m6.mv]) rfl rfl rfl rfl rfl rfl ho151 rfl rfl rfl rfl (ntQ ?_)
   refine zfg (α := Int) (fun kx => (rowE 3 1 (.slice (some ⟨g141, 0, none⟩) 2 2) 2 ([1, 2].map (Value.int .i64)) :: rowE 3 1 (.slice (some ⟨g145, 0, none⟩) 3 3) 3 ([1, 2, 0].map (Value.int .i64)) :: curE g a len cap :: rowE 38 3 (.slice (some ⟨g149, 0, none⟩) 1 1) 1 ([xhR144, xhR148, 0].map (Value.int .i64)) :: bigE ps6 :: rowE 38 3 v150 ((m6.ss ++ [Sg.mk kx xhR148 0]).length) ((m6.ss ++ [Sg.mk kx xhR148 0]).flatMap sgC) :: rowE 63 3 m6.iv m6.xs.length (m6.xs.flatMap ixC) :: rowE 94 4 m6.mv m6.ms.length (m6.ms.flatMap mmC) :: rowE 3 1 W2.1 W2.2.length (W2.2.map (Value.int .i64)) :: rowE 3 1 U6.1 U6.2.length (U6.2.map (Value.int .i64)) :: boxE b3 #[v150, m6.av, m6.iv, m6.mv] 35 :: boxE b2 #[.slice none 0 0, .slice none 0 0, .slice none 0 0, .slice none 0 0] 35 :: boxE b1 #[v] 26 :: l)) (fun kx => [(0, .pointer (some ⟨g, 0, none⟩)), (1, .agg #[v]), (3, .pointer (some ⟨b1, 0, none⟩)), (4, .pointer (some ⟨b2, 0, none⟩)), (5, .pointer (some ⟨b3, 0, none⟩)), (6, U6.1), (7, W2.1), (8, .int .i64 (1 + xhR138)), (22, .int .i64 (k6 : Int)), (23, .int .i64 (m6.ss.length : Int)), (33, .bool false), (55, .bool false), (89, .bool false), (233, .bool true)]) (fun kx => kx = 1 ∨ kx = 2) ?_ ?_
   ·
    refine zag (reQ 1 rfl ?_)
    refine zbu rfl rfl rfl rfl rfl rfl (fun h152 => ?_) (fun h152 => ?_)
    ·
     refine ntQ (zah rfl (zas ?_))
     have hln9 : (m6.ss ++ [(Sg.mk xhR144 xhR148 0)]).length = m6.ss.length + 1 := by rw [List.length_append]; rfl
     refine hvQ rfl (fdQ 0 rfl rfl rfl) (hvQ rfl (zac rfl rfl rfl (zaa 10 rfl rfl)) (zam 1 rfl (hvQ rfl (riQ 3 rfl rfl rfl rfl (zaj 5 rfl)) (hvQ rfl (zaq (k0 := 0) rfl rfl rfl (zaj 5 rfl) (by omega)) ?_))))
     refine hl_stE (i := 5) (n' := ((m6.ss ++ [(Sg.mk xhR144 xhR148 0)]).set (((m6.ss.length : Int)).toNat) { (m6.ss ++ [(Sg.mk xhR144 xhR148 0)]).getD (((m6.ss.length : Int)).toNat) sg0 with k := 1 }).length) (xs' := (((m6.ss ++ [(Sg.mk xhR144 xhR148 0)]).set (((m6.ss.length : Int)).toNat) { (m6.ss ++ [(Sg.mk xhR144 xhR148 0)]).getD (((m6.ss.length : Int)).toNat) sg0 with k := 1 }).flatMap sgC)) rfl rfl rfl rfl rfl rfl rfl rfl (by first | omega | (simp only [List.length_set]; omega)) List.length_set.symm (flat_set sgC 3 (fun _ => rfl) _ sg0 _ (by first | omega | (simp only [List.length_set]; omega)) (by decide) rfl) rfl (zcu ?_)
     refine zco (rowE 3 1 (.slice (some ⟨g141, 0, none⟩) 2 2) 2 ([1, 2].map (Value.int .i64)) :: rowE 3 1 (.slice (some ⟨g145, 0, none⟩) 3 3) 3 ([1, 2, 0].map (Value.int .i64)) :: curE g a len cap :: rowE 38 3 (.slice (some ⟨g149, 0, none⟩) 1 1) 1 ([xhR144, xhR148, 0].map (Value.int .i64)) :: bigE ps6 :: rowE 38 3 v150 ((m6.ss ++ [Sg.mk 1 xhR148 0]).length) ((m6.ss ++ [Sg.mk 1 xhR148 0]).flatMap sgC) :: rowE 63 3 m6.iv m6.xs.length (m6.xs.flatMap ixC) :: rowE 94 4 m6.mv m6.ms.length (m6.ms.flatMap mmC) :: rowE 3 1 W2.1 W2.2.length (W2.2.map (Value.int .i64)) :: rowE 3 1 U6.1 U6.2.length (U6.2.map (Value.int .i64)) :: boxE b3 #[v150, m6.av, m6.iv, m6.mv] 35 :: boxE b2 #[.slice none 0 0, .slice none 0 0, .slice none 0 0, .slice none 0 0] 35 :: boxE b1 #[v] 26 :: l) (fun w hm => by rw [show m6.ss ++ [Sg.mk 1 xhR148 0] = (m6.ss ++ [(Sg.mk xhR144 xhR148 0)]).set (((m6.ss.length : Int)).toNat) { (m6.ss ++ [(Sg.mk xhR144 xhR148 0)]).getD (((m6.ss.length : Int)).toNat) sg0 with k := 1 } from (setK_last (by omega)).symm]; exact hm) ?_
     exact zde 1 (.inl rfl) (saQ rfl) (.refl _)
    refine ntQ (fsQ rfl ?_)
    exact zde xhR144 (lit12 xhR144m) (saQ rfl) (.refl _)
   intro kx hm153
   have hkx9 := hm153
   refine srQ ?_
   refine zgb (p := (∀ g9 ∈ m6.gs, g9.ov.oneCell' = true) ∧ v150.oneCell' = true ∧ m6.av.oneCell' = true ∧ m6.iv.oneCell' = true ∧ m6.mv.oneCell' = true) (fun w hm => ⟨fun g9 hg9 => ((hp6 w (hm.holds _ (zcj (i := 4) rfl))).2.1 g9 hg9).one, (zaj 5 rfl w hm).one, (hp6 w (hm.holds _ (zcj (i := 4) rfl))).1.one, (zaj 6 rfl w hm).one, (zaj 7 rfl w hm).one⟩) (fun ⟨hone9, ho9⟩ => ?_)
   refine zam 1 rfl (hvQ rfl (zax (cs := [v150, m6.av, m6.iv, m6.mv]) rfl rfl rfl rfl rfl (zat 10 rfl 0 rfl)) (zam 2 rfl ?_))
   refine zds (R := (fun u_ p_ => ∃ (v' ov : Value) (os : List Oq) (ps : List HP), u_ = .agg #[v150, v', m6.iv, m6.mv] ∧ p_ = bigE [curE g a len cap, bigE ps] ∧ (∀ w, (bigE ps).holds w → RdsW w v' 2 (m6.gs ++ [As.mk (m6.ss.length : Int) ov os]).length ((m6.gs ++ [As.mk (m6.ss.length : Int) ov os]).flatMap asC) ∧ RdsW w ov 3 os.length (os.flatMap oqC)) ∧ v'.oneCell' = true ∧ ov.oneCell' = true ∧ ExP (m6.ss.length : Int) 9 os)) 2 rfl rfl rfl rfl rfl (fun L w hX hm => zdz g a len cap z (m6.ss.length : Int) (Md.mk v150 m6.av m6.iv m6.mv (m6.ss ++ [Sg.mk kx xhR148 0]) m6.gs m6.xs m6.ms) (m6.ss.length : Int) U6.1 _ _ _ _ hm hb (fun w9 h9 => (zaj (l := (rowE 3 1 (.slice (some ⟨g141, 0, none⟩) 2 2) 2 ([1, 2].map (Value.int .i64)) :: rowE 3 1 (.slice (some ⟨g145, 0, none⟩) 3 3) 3 ([1, 2, 0].map (Value.int .i64)) :: rowE 38 3 (.slice (some ⟨g149, 0, none⟩) 1 1) 1 ([xhR144, xhR148, 0].map (Value.int .i64)) :: bigE ps6 :: rowE 38 3 v150 ((m6.ss ++ [Sg.mk kx xhR148 0]).length) ((m6.ss ++ [Sg.mk kx xhR148 0]).flatMap sgC) :: rowE 63 3 m6.iv m6.xs.length (m6.xs.flatMap ixC) :: rowE 94 4 m6.mv m6.ms.length (m6.ms.flatMap mmC) :: rowE 3 1 W2.1 W2.2.length (W2.2.map (Value.int .i64)) :: rowE 3 1 U6.1 U6.2.length (U6.2.map (Value.int .i64)) :: boxE b3 #[v150, m6.av, m6.iv, m6.mv] 35 :: boxE b2 #[.slice none 0 0, .slice none 0 0, .slice none 0 0, .slice none 0 0] 35 :: boxE b1 #[v] 26 :: l)) 8 rfl) w9 (hX w9 h9)) (fun x hx => h6.av x hx) (by have h9 := h6.na; omega) (fun w9 h9 => (hp6 w9 ((hX w9 h9).holds _ (zcj (i := 3) rfl))).1) (by have h9 := h6.ng; show m6.gs.length ≤ 1000; omega) hone9 ⟨ho9.1, ho9.2.1, ho9.2.2.1, ho9.2.2.2⟩) ?_
   intro v154 p155 hR156
   obtain ⟨avhR156, ovhR156, oshR156, aphR156, rfl, rfl, haphR156, oavhR156, oovhR156, hoshR156⟩ := hR156
   refine zcl (l' := (rowE 3 1 (.slice (some ⟨g141, 0, none⟩) 2 2) 2 ([1, 2].map (Value.int .i64)) :: rowE 3 1 (.slice (some ⟨g145, 0, none⟩) 3 3) 3 ([1, 2, 0].map (Value.int .i64)) :: bigE [curE g a len cap, bigE aphR156] :: rowE 38 3 (.slice (some ⟨g149, 0, none⟩) 1 1) 1 ([xhR144, xhR148, 0].map (Value.int .i64)) :: bigE ps6 :: rowE 38 3 v150 ((m6.ss ++ [Sg.mk kx xhR148 0]).length) ((m6.ss ++ [Sg.mk kx xhR148 0]).flatMap sgC) :: rowE 63 3 m6.iv m6.xs.length (m6.xs.flatMap ixC) :: rowE 94 4 m6.mv m6.ms.length (m6.ms.flatMap mmC) :: rowE 3 1 W2.1 W2.2.length (W2.2.map (Value.int .i64)) :: rowE 3 1 U6.1 U6.2.length (U6.2.map (Value.int .i64)) :: boxE b3 #[v150, m6.av, m6.iv, m6.mv] 35 :: boxE b2 #[.slice none 0 0, .slice none 0 0, .slice none 0 0, .slice none 0 0] 35 :: boxE b1 #[v] 26 :: l)) rfl ?_
   refine zbh (cs' := #[v150, avhR156, m6.iv, m6.mv]) (i := 10) (off := 0) (us := [v150, avhR156, m6.iv, m6.mv]) rfl rfl rfl rfl rfl rfl rfl (zab ho151 (zab oavhR156 (zab ho9.2.2.1 (zab ho9.2.2.2 zbc)))) rfl rfl rfl (ntQ (reQ 2 rfl ?_))
   refine zea rfl (zak (z := .int .i64 0) (s := 1) (cs := ([(m6.ss.length : Int)].map (Value.int .i64))) rfl Try.underlying48 rfl (by decide) rfl (by kernel_rfl) rfl) ?_
   intro g157
   refine zcs (i := 10) (z := .int .i64 0) (bytes := 8) rfl rfl rfl rfl Try.underlying48 (by kernel_rfl) rfl rfl rfl rfl (zaj 0 rfl) (zbx _) (by first | omega | (simp; done) | (simp; omega)) (zcc U6.2 ([(m6.ss.length : Int)])) (zcw U6.2 ([(m6.ss.length : Int)])) (fun _ => rfl) ?_
   intro v158
   refine enQ 1 rfl (zdh (reQ 1 rfl (hvQ rfl (vaQ rfl rfl rfl) (enQ 1 rfl ?_))))
   refine zbn 14 [13, 12, 11, 10, 9, 8, 7, 6, 5, 4, 2, 1, 0, 3] rfl rfl (by decide) ?_
   refine zco (curE g a len cap :: bigE aphR156 :: rowE 3 1 (.slice (some ⟨g157, 0, none⟩) 1 1) 1 ([(m6.ss.length : Int)].map (Value.int .i64)) :: rowE 3 1 (.slice (some ⟨g141, 0, none⟩) 2 2) 2 ([1, 2].map (Value.int .i64)) :: rowE 3 1 (.slice (some ⟨g145, 0, none⟩) 3 3) 3 ([1, 2, 0].map (Value.int .i64)) :: rowE 38 3 (.slice (some ⟨g149, 0, none⟩) 1 1) 1 ([xhR144, xhR148, 0].map (Value.int .i64)) :: bigE ps6 :: rowE 38 3 v150 ((m6.ss ++ [Sg.mk kx xhR148 0]).length) ((m6.ss ++ [Sg.mk kx xhR148 0]).flatMap sgC) :: rowE 63 3 m6.iv m6.xs.length (m6.xs.flatMap ixC) :: rowE 94 4 m6.mv m6.ms.length (m6.ms.flatMap mmC) :: rowE 3 1 W2.1 W2.2.length (W2.2.map (Value.int .i64)) :: rowE 3 1 v158 ((U6.2 ++ ([(m6.ss.length : Int)])).length) ((U6.2 ++ ([(m6.ss.length : Int)])).map (Value.int .i64)) :: boxE b3 #[v150, avhR156, m6.iv, m6.mv] 35 :: boxE b2 #[.slice none 0 0, .slice none 0 0, .slice none 0 0, .slice none 0 0] 35 :: boxE b1 #[v] 26 :: l) zdb ?_
   refine zbn 15 [14, 13, 12, 11, 10, 9, 8, 7, 5, 4, 3, 2, 0, 1, 6] rfl rfl (by decide) ?_
   refine zcd 2 rfl ?_
   refine zbn 14 [1, 13, 12, 11, 10, 9, 8, 7, 6, 0] rfl rfl (by decide) ?_
   exact zdq (k6 + 1) (Md.mk v150 avhR156 m6.iv m6.mv (m6.ss ++ [Sg.mk kx xhR148 0]) (m6.gs ++ [As.mk (m6.ss.length : Int) ovhR156 oshR156]) m6.xs m6.ms) (v158, U6.2 ++ ([(m6.ss.length : Int)])) [bigE ps6, bigE aphR156] ⟨by omega, (((h6.out _ hkx9 (by assumption) mem_app2).asg _ (List.mem_append_right _ List.mem_cons_self) _ hoshR156 (by show (m6.ss.length : Int) ≤ ((_ : List Sg).length : Int); rw [List.length_append]; omega) (mem_less h6.plt)).avl (last_in (m := m6) .nilFunc _) (e := 1) (by simp)).up (by omega) (by omega) (by omega) (by omega) (by omega) (by omega), fun w hw => ⟨(haphR156 w (zbi hw (List.mem_cons_of_mem _ List.mem_cons_self))).1, (hp6 w (zbi hw List.mem_cons_self)).2.1.app (haphR156 w (zbi hw (List.mem_cons_of_mem _ List.mem_cons_self))).2, (hp6 w (zbi hw List.mem_cons_self)).2.2⟩⟩ (by omega) (saQ rfl) (.refl _)
  refine ntQ (zap rfl ?_)
  refine zbj (zeb ?_)
  refine zal (zba (zag (zbg 1 rfl (zaz ?_))))
  refine lkQ3 (α := Nat) (β := Md) (γ := List HP) [0, 1, 3, 4, 5, 6, 7, 33, 55, 89, 233] rfl (fun k7 m7 ps7 => (bigE ps7 :: rowE 38 3 m7.sv m7.ss.length (m7.ss.flatMap sgC) :: rowE 63 3 m7.iv m7.xs.length (m7.xs.flatMap ixC) :: rowE 94 4 m7.mv m7.ms.length (m7.ms.flatMap mmC) :: rowE 3 1 W2.1 W2.2.length (W2.2.map (Value.int .i64)) :: rowE 3 1 U6.1 U6.2.length (U6.2.map (Value.int .i64)) :: boxE b3 #[m7.sv, m7.av, m7.iv, m7.mv] 35 :: boxE b2 #[.slice none 0 0, .slice none 0 0, .slice none 0 0, .slice none 0 0] 35 :: boxE b1 #[v] 26 :: curE g a len cap :: l)) (fun k7 m7 ps7 => [(24, .int .i64 (k7 : Int))]) (fun k7 m7 ps7 => k7 ≤ W2.2.length ∧ MI D m7 U6.2 (W2.2.drop k7) 18 (13 + k7) 2 1 4 15 ∧ ∀ w, (bigE ps7).holds w → RdP w m7) (fun k7 m7 ps7 => W2.2.length - k7) 0 m6 ps6 ⟨Nat.zero_le _, h6.up (by omega) (by omega) (by omega) (by omega) (by omega) (by omega), hp6⟩ (saQ rfl) (.refl _) ?_
  intro k7 m7 ps7 hi159
  obtain ⟨hk7, h7, hp7⟩ := hi159
  refine zag (zag (reQ 2 rfl (hvQ rfl (lnQ rfl rfl rfl (zaj 4 rfl)) ?_)))
  refine zbq rfl rfl rfl rfl rfl rfl (fun h160 => ?_) (fun h160 => ?_)
  ·
   refine ntQ (zah rfl (zcv (sbQ ?_)))
   refine hc_know (p := (∀ g9 ∈ m7.gs, g9.ov.oneCell' = true) ∧ m7.sv.oneCell' = true ∧ m7.av.oneCell' = true ∧ m7.iv.oneCell' = true ∧ m7.mv.oneCell' = true) (fun w hm => ⟨fun g9 hg9 => ((hp7 w (hm.holds _ (zcj (i := 0) rfl))).2.1 g9 hg9).one, (zaj 1 rfl w hm).one, (hp7 w (hm.holds _ (zcj (i := 0) rfl))).1.one, (zaj 2 rfl w hm).one, (zaj 3 rfl w hm).one⟩) (fun ⟨hone9, ho9⟩ => ?_)
   refine zey 10 [8, 7, 6, 5, 4, 3, 2, 1, 0, 9] rfl rfl (by decide) ?_
   refine zez (l := (bigE ps7 :: rowE 38 3 m7.sv m7.ss.length (m7.ss.flatMap sgC) :: rowE 63 3 m7.iv m7.xs.length (m7.xs.flatMap ixC) :: rowE 94 4 m7.mv m7.ms.length (m7.ms.flatMap mmC) :: rowE 3 1 W2.1 W2.2.length (W2.2.map (Value.int .i64)) :: rowE 3 1 U6.1 U6.2.length (U6.2.map (Value.int .i64)) :: boxE b3 #[m7.sv, m7.av, m7.iv, m7.mv] 35 :: boxE b2 #[.slice none 0 0, .slice none 0 0, .slice none 0 0, .slice none 0 0] 35 :: boxE b1 #[v] 26 :: l)) rfl 8 [0, 1, 2, 3, 4, 5, 6, 7] (List.take 8 _) (List.drop 8 _) [[], [], [], [], [2, 3], [4], [], [0, 1, 5, 6]] [273, 274, 275, 276, 277, 278, 279, 280] (fun i_ vs_ v_ p_ => match i_ with | 0 => v_ = .pointer (some ⟨g, 0, none⟩) ∧ p_ = [] | 1 => v_ = .agg #[m7.sv, m7.av, m7.iv, m7.mv] ∧ p_ = [] | 2 => v_ = W2.1 ∧ p_ = [] | 3 => v_ = .int .i64 (k7 : Int) ∧ p_ = [] | 4 => v_ = elP W2.1 (((k7 : Int)).toNat * 1) ∧ p_ = [] | 5 => v_ = .int .i64 (W2.2.getD k7 0) ∧ p_ = [] | 6 => v_ = U6.1 ∧ p_ = [] | 7 => (∃ pm_, p_ = [pm_] ∧ (fun u_ p_ => ∃ (v' ov : Value) (os : List Oq) (ps : List HP), u_ = .agg #[m7.sv, v', m7.iv, m7.mv] ∧ p_ = bigE [curE g a len cap, bigE ps] ∧ (∀ w, (bigE ps).holds w → RdsW w v' 2 (m7.gs ++ [As.mk (W2.2.getD k7 0) ov os]).length ((m7.gs ++ [As.mk (W2.2.getD k7 0) ov os]).flatMap asC) ∧ RdsW w ov 3 os.length (os.flatMap oqC)) ∧ v'.oneCell' = true ∧ ov.oneCell' = true ∧ ExP (m7.ss.length : Int) 9 os) v_ pm_) | _ => True) [[], [], [], [], [2, 3], [4], [], [0, 1, 5, 6]] [none, none, none, none, none, none, none, some 9] [curE g a len cap] [0, 1, 2, 3, 4, 5, 6, 7] 9 (List.take_append_drop 8 _).symm (by kernel_rfl) (by kernel_rfl) (by kernel_rfl) rfl rfl ?_ ?_
   ·
    refine ⟨?_, ?_, ?_, ?_, ?_, ?_, ?_, ?_, trivial⟩
    ·
     intro vf pf hmu hR
     refine dqQ [] [] rfl (zbo (zar [0] rfl) ?_)
     exact zbt (zau rfl)
    ·
     intro vf pf hmu hR
     refine dqQ [] [] rfl (zbe (zar [5] rfl) (List.sublist_append_right _ _) ?_)
     exact zbt (zax (cs := [m7.sv, m7.av, m7.iv, m7.mv]) rfl rfl rfl rfl rfl (zat 6 rfl 0 rfl))
    ·
     intro vf pf hmu hR
     refine dqQ [] [] rfl (zbo (zar [7] rfl) ?_)
     exact zbt (zau rfl)
    ·
     intro vf pf hmu hR
     refine dqQ [] [] rfl (zbo (zar [24] rfl) ?_)
     exact zbt (zau rfl)
    ·
     intro vf pf hmu hR
     have e2 := hR 2 (by decide)
     have e3 := hR 3 (by decide)
     refine dqQ [2, 3] [2, 3] rfl (zbe (sk 275 (congrArg some e2.1) (sk 276 (congrArg some e3.1) (zai _))) (List.sublist_append_right _ _) ?_)
     exact zbt (riQ 1 rfl rfl rfl rfl (zaj 4 rfl))
    ·
     intro vf pf hmu hR
     have e4 := hR 4 (by decide)
     refine dqQ [4] [4] rfl (zbe (sk 277 (congrArg some e4.1) (zai _)) (List.sublist_append_right _ _) ?_)
     exact zbt (liQ rfl rfl rfl (zaj 4 rfl))
    ·
     intro vf pf hmu hR
     refine dqQ [] [] rfl (zbo (zar [6] rfl) ?_)
     exact zbt (zau rfl)
    intro vf pf hmu hR
    have e0 := hR 0 (by decide)
    have e1 := hR 1 (by decide)
    have e5 := hR 5 (by decide)
    have e6 := hR 6 (by decide)
    refine Or.inl ⟨rfl, ?_⟩
    show RunM _ _ _ (pf 9) (([0, 1, 5, 6] : List Nat).flatMap pf ++ _) (envOf _ vf [0, 1, 5, 6] ++ _) _ _
    rw [hmu]
    refine zda (sk 273 (congrArg some e0.1) (sk 274 (congrArg some e1.1) (sk 278 (congrArg some e5.1) (sk 279 (congrArg some e6.1) (zai _))))) (by simp only [e0.2, e1.2, e5.2, e6.2, fS] <;> rfl) ?_
    exact zdp (R := (fun u_ p_ => ∃ (v' ov : Value) (os : List Oq) (ps : List HP), u_ = .agg #[m7.sv, v', m7.iv, m7.mv] ∧ p_ = bigE [curE g a len cap, bigE ps] ∧ (∀ w, (bigE ps).holds w → RdsW w v' 2 (m7.gs ++ [As.mk (W2.2.getD k7 0) ov os]).length ((m7.gs ++ [As.mk (W2.2.getD k7 0) ov os]).flatMap asC) ∧ RdsW w ov 3 os.length (os.flatMap oqC)) ∧ v'.oneCell' = true ∧ ov.oneCell' = true ∧ ExP (m7.ss.length : Int) 9 os)) rfl rfl (fun L w hX hm => zdz g a len cap z (m7.ss.length : Int) (Md.mk m7.sv m7.av m7.iv m7.mv m7.ss m7.gs m7.xs m7.ms) (W2.2.getD k7 0) U6.1 _ _ _ _ hm hb (fun w9 h9 => (zaj (l := (bigE ps7 :: rowE 38 3 m7.sv m7.ss.length (m7.ss.flatMap sgC) :: rowE 63 3 m7.iv m7.xs.length (m7.xs.flatMap ixC) :: rowE 94 4 m7.mv m7.ms.length (m7.ms.flatMap mmC) :: rowE 3 1 W2.1 W2.2.length (W2.2.map (Value.int .i64)) :: rowE 3 1 U6.1 U6.2.length (U6.2.map (Value.int .i64)) :: boxE b3 #[m7.sv, m7.av, m7.iv, m7.mv] 35 :: boxE b2 #[.slice none 0 0, .slice none 0 0, .slice none 0 0, .slice none 0 0] 35 :: boxE b1 #[v] 26 :: l)) 5 rfl) w9 (hX w9 h9)) (fun x hx => h7.av x hx) (by have h9 := h7.na; omega) (fun w9 h9 => (hp7 w9 ((hX w9 h9).holds _ (zcj (i := 0) rfl))).1) (by have h9 := h7.ng; show m7.gs.length ≤ 1000; omega) hone9 ⟨ho9.1, ho9.2.1, ho9.2.2.1, ho9.2.2.2⟩)
   intro vf pf hmu hR
   have e7 : (∃ pm_, (pf 7) = [pm_] ∧ (fun u_ p_ => ∃ (v' ov : Value) (os : List Oq) (ps : List HP), u_ = .agg #[m7.sv, v', m7.iv, m7.mv] ∧ p_ = bigE [curE g a len cap, bigE ps] ∧ (∀ w, (bigE ps).holds w → RdsW w v' 2 (m7.gs ++ [As.mk (W2.2.getD k7 0) ov os]).length ((m7.gs ++ [As.mk (W2.2.getD k7 0) ov os]).flatMap asC) ∧ RdsW w ov 3 os.length (os.flatMap oqC)) ∧ v'.oneCell' = true ∧ ov.oneCell' = true ∧ ExP (m7.ss.length : Int) 9 os) (vf 7) pm_) := hR 7 (by decide)
   obtain ⟨p162, pE7, hR163⟩ := e7
   obtain ⟨v161, vE7⟩ : ∃ x, vf 7 = x := ⟨_, rfl⟩
   rw [vE7] at hR163
   obtain ⟨avhR163, ovhR163, oshR163, aphR163, rfl, rfl, haphR163, oavhR163, oovhR163, hoshR163⟩ := hR163
   have q0 := hR 0 (by decide)
   have q1 := hR 1 (by decide)
   have q2 := hR 2 (by decide)
   have q3 := hR 3 (by decide)
   have q4 := hR 4 (by decide)
   have q5 := hR 5 (by decide)
   have q6 := hR 6 (by decide)
   refine zdf (zci [270, 233, 89, 55, 33, 24, 7, 6, 5, 4, 3, 1, 0] _ (sk 280 (congrArg some vE7) (zai _)) rfl) (by simp only [pE7, vE7, q0.2, q1.2, q2.2, q3.2, q4.2, q5.2, q6.2, fS] <;> rfl) ?_
   simp only [List.drop_succ_cons, List.drop_zero]
   refine zbh (cs' := #[m7.sv, avhR163, m7.iv, m7.mv]) (i := 7) (off := 0) (us := [m7.sv, avhR163, m7.iv, m7.mv]) rfl rfl rfl rfl rfl rfl rfl (zab ho9.1 (zab oavhR163 (zab ho9.2.2.1 (zab ho9.2.2.2 zbc)))) rfl rfl rfl (zcu (zdh (reQ 1 rfl (hvQ rfl (vaQ rfl rfl rfl) (enQ 1 rfl ?_)))))
   have hpd9 := pendR hW2 (show k7 < W2.2.length by omega)
   refine zbn 10 [9, 8, 7, 6, 5, 4, 3, 2, 1, 0] rfl rfl (by decide) ?_
   refine zco (curE g a len cap :: bigE aphR163 :: bigE ps7 :: rowE 38 3 m7.sv m7.ss.length (m7.ss.flatMap sgC) :: rowE 63 3 m7.iv m7.xs.length (m7.xs.flatMap ixC) :: rowE 94 4 m7.mv m7.ms.length (m7.ms.flatMap mmC) :: rowE 3 1 W2.1 W2.2.length (W2.2.map (Value.int .i64)) :: rowE 3 1 U6.1 U6.2.length (U6.2.map (Value.int .i64)) :: boxE b3 #[m7.sv, avhR163, m7.iv, m7.mv] 35 :: boxE b2 #[.slice none 0 0, .slice none 0 0, .slice none 0 0, .slice none 0 0] 35 :: boxE b1 #[v] 26 :: l) zdb ?_
   refine zbn 11 [10, 9, 8, 7, 6, 5, 4, 3, 0, 1, 2] rfl rfl (by decide) ?_
   refine zcd 2 rfl ?_
   refine zbn 10 [1, 9, 8, 7, 6, 5, 4, 3, 2, 0] rfl rfl (by decide) ?_
   exact zcq (k7 + 1) (Md.mk m7.sv avhR163 m7.iv m7.mv m7.ss (m7.gs ++ [As.mk (W2.2.getD k7 0) ovhR163 oshR163]) m7.xs m7.ms) [bigE ps7, bigE aphR163] ⟨by omega, (h7.asg _ hpd9.1 _ hoshR163 (by show (m7.ss.length : Int) ≤ (m7.ss.length : Int); omega) hpd9.2).up (by omega) (by omega) (by omega) (by omega) (by omega) (by omega), fun w hw => ⟨(haphR163 w (zbi hw (List.mem_cons_of_mem _ List.mem_cons_self))).1, (hp7 w (zbi hw List.mem_cons_self)).2.1.app (haphR163 w (zbi hw (List.mem_cons_of_mem _ List.mem_cons_self))).2, (hp7 w (zbi hw List.mem_cons_self)).2.2⟩⟩ (by omega) (saQ rfl) (.refl _)
  refine ntQ (zap rfl ?_)
  refine zbj (zeb ?_)
  refine zal (zba (srQ ?_))
  refine zgb (p := (∀ g9 ∈ m7.gs, g9.ov.oneCell' = true) ∧ m7.sv.oneCell' = true ∧ m7.av.oneCell' = true ∧ m7.iv.oneCell' = true ∧ m7.mv.oneCell' = true) (fun w hm => ⟨fun g9 hg9 => ((hp7 w (hm.holds _ (zcj (i := 0) rfl))).2.1 g9 hg9).one, (zaj 1 rfl w hm).one, (hp7 w (hm.holds _ (zcj (i := 0) rfl))).1.one, (zaj 2 rfl w hm).one, (zaj 3 rfl w hm).one⟩) (fun ⟨hone9, ho9⟩ => ?_)
  refine hvQ rfl (zax (cs := [m7.sv, m7.av, m7.iv, m7.mv]) rfl rfl rfl rfl rfl (zat 6 rfl 0 rfl)) (zbh (cs' := #[m7.sv, m7.av, m7.iv, m7.mv]) (i := 7) (off := 0) (us := [m7.sv, m7.av, m7.iv, m7.mv]) rfl rfl rfl rfl rfl rfl rfl (zab ho9.1 (zab ho9.2.1 (zab ho9.2.2.1 (zab ho9.2.2.2 zbc)))) rfl rfl rfl ?_)
  refine ntQ ?_
  refine zao (zft (p := m7.sv.oneCell' = true ∧ m7.av.oneCell' = true ∧ m7.iv.oneCell' = true ∧ m7.mv.oneCell' = true) (fun w hm => ⟨(zaj 1 rfl w hm).one, (hp7 w (hm.holds _ (zcj (i := 0) rfl))).1.one, (zaj 2 rfl w hm).one, (zaj 3 rfl w hm).one⟩) (fun ho9 => ?_))
  refine zbn 10 [9, 8, 7, 6, 5, 4, 0, 3, 2, 1] rfl rfl (by decide) ?_
  refine zcd 4 rfl ?_
  refine zbn 7 [5, 4, 3, 2, 1, 0, 6] rfl rfl (by decide) ?_
  refine zcd 2 rfl ?_
  exact zcx (rs := [.cell 4 35]) (vs := [.agg #[m7.sv, m7.av, m7.iv, m7.mv]]) rfl ⟨⟨b2, 0, [m7.sv, m7.av, m7.iv, m7.mv], rfl, rfl, by kernel_rfl, by kernel_rfl, zat 4 rfl 0 rfl⟩, trivial⟩ rfl (fun w hm => ⟨_, bigE [curE g a len cap, bigE [rowE 38 3 m7.sv m7.ss.length (m7.ss.flatMap sgC), rowE 63 3 m7.iv m7.xs.length (m7.xs.flatMap ixC), rowE 94 4 m7.mv m7.ms.length (m7.ms.flatMap mmC), bigE ps7]], rfl, ⟨m7, [rowE 38 3 m7.sv m7.ss.length (m7.ss.flatMap sgC), rowE 63 3 m7.iv m7.xs.length (m7.xs.flatMap ixC), rowE 94 4 m7.mv m7.ms.length (m7.ms.flatMap mmC), bigE ps7], rfl, rfl, fun w hw => ⟨zdk (zbi hw List.mem_cons_self), (hp7 w (zbi hw (List.mem_cons_of_mem _ (List.mem_cons_of_mem _ (List.mem_cons_of_mem _ List.mem_cons_self))))).1, (hp7 w (zbi hw (List.mem_cons_of_mem _ (List.mem_cons_of_mem _ (List.mem_cons_of_mem _ List.mem_cons_self))))).2.1, zdk (zbi hw (List.mem_cons_of_mem _ List.mem_cons_self)), (hp7 w (zbi hw (List.mem_cons_of_mem _ (List.mem_cons_of_mem _ (List.mem_cons_of_mem _ List.mem_cons_self))))).2.2, zdk (zbi hw (List.mem_cons_of_mem _ (List.mem_cons_of_mem _ List.mem_cons_self)))⟩, ho9, by have h9 := h7; rw [show k7 = W2.2.length by omega, List.drop_length] at h9; exact h9.fin (by omega) (by omega) (by omega) (by omega) (by omega)⟩, hm.sub (.cons_cons _ (.cons _ (.cons _ (.cons _ (.cons _ (.cons _ (.refl _)))))))⟩)
 refine zay 4 rfl (zap rfl ?_)
 refine zbj (zeb ?_)
 refine zal (zba ?_)
 refine hc_meet3 (α := Md) (β := Value × List Int) (γ := List HP) (fun m5 U5 ps5 => (bigE ps5 :: rowE 38 3 m5.sv m5.ss.length (m5.ss.flatMap sgC) :: rowE 63 3 m5.iv m5.xs.length (m5.xs.flatMap ixC) :: rowE 94 4 m5.mv m5.ms.length (m5.ms.flatMap mmC) :: rowE 3 1 W2.1 W2.2.length (W2.2.map (Value.int .i64)) :: rowE 3 1 U5.1 U5.2.length (U5.2.map (Value.int .i64)) :: boxE b3 #[m5.sv, m5.av, m5.iv, m5.mv] 35 :: boxE b2 #[.slice none 0 0, .slice none 0 0, .slice none 0 0, .slice none 0 0] 35 :: boxE b1 #[v] 26 :: curE g a len cap :: l)) (fun m5 U5 ps5 => [(0, .pointer (some ⟨g, 0, none⟩)), (1, .agg #[v]), (3, .pointer (some ⟨b1, 0, none⟩)), (4, .pointer (some ⟨b2, 0, none⟩)), (5, .pointer (some ⟨b3, 0, none⟩)), (6, U5.1), (7, W2.1), (11, .int .i64 (t : Int)), (33, .bool false), (55, .bool false), (89, .bool false)]) (fun m5 U5 ps5 => MI D m5 U5.2 W2.2 16 11 2 1 2 13 ∧ ∀ w, (bigE ps5).holds w → RdP w m5) ?_ ?_
 ·
  refine zag (reQ 1 rfl ?_)
  refine zcg (R := (fun u_ p_ => (∃ b : Bool, u_ = .bool b) ∧ p_ = curE g a len cap)) 9 rfl rfl rfl rfl rfl (fun l' w hm => once_mut hm hb (4) (by omega) (by omega)) ?_
  intro v164 p165 hR166
  obtain ⟨⟨xhR166, rfl⟩, rfl⟩ := hR166
  refine zcl (l' := (bigE ps3 :: rowE 38 3 m3.sv m3.ss.length (m3.ss.flatMap sgC) :: rowE 63 3 m3.iv m3.xs.length (m3.xs.flatMap ixC) :: rowE 94 4 m3.mv m3.ms.length (m3.ms.flatMap mmC) :: rowE 3 1 W2.1 W2.2.length (W2.2.map (Value.int .i64)) :: rowE 3 1 U3.1 U3.2.length (U3.2.map (Value.int .i64)) :: boxE b3 #[m3.sv, m3.av, m3.iv, m3.mv] 35 :: boxE b2 #[.slice none 0 0, .slice none 0 0, .slice none 0 0, .slice none 0 0] 35 :: boxE b1 #[v] 26 :: curE g a len cap :: l)) rfl ?_
  refine zbm (fun h167 => ?_) (fun h167 => ?_)
  ·
   refine ntQ (zah rfl (srQ (hvQ rfl (fdQ 0 rfl rfl rfl) (hvQ rfl (zac rfl rfl rfl (zaa 6 rfl rfl)) (hvQ rfl (lnQ rfl rfl rfl (zaj 1 rfl)) (zay 1 rfl (zag ?_)))))))
   refine reQ 1 rfl ?_
   refine zcg (R := (fun u_ p_ => (∃ x_ : Int, u_ = .int .i64 x_ ∧ 0 ≤ x_ ∧ x_ < 2) ∧ p_ = curE g a len cap)) 9 rfl rfl rfl rfl rfl (fun l' w hm => zby g a len cap z 2 _ _ _ hm hb (by constructor <;> omega)) ?_
   intro v168 p169 hR170
   obtain ⟨⟨xhR170, rfl, xhR1700, xhR1701⟩, rfl⟩ := hR170
   refine zcl (l' := (bigE ps3 :: rowE 38 3 m3.sv m3.ss.length (m3.ss.flatMap sgC) :: rowE 63 3 m3.iv m3.xs.length (m3.xs.flatMap ixC) :: rowE 94 4 m3.mv m3.ms.length (m3.ms.flatMap mmC) :: rowE 3 1 W2.1 W2.2.length (W2.2.map (Value.int .i64)) :: rowE 3 1 U3.1 U3.2.length (U3.2.map (Value.int .i64)) :: boxE b3 #[m3.sv, m3.av, m3.iv, m3.mv] 35 :: boxE b2 #[.slice none 0 0, .slice none 0 0, .slice none 0 0, .slice none 0 0] 35 :: boxE b1 #[v] 26 :: curE g a len cap :: l)) rfl ?_
   refine hvQ rfl (vaQ rfl rfl rfl) (zay 1 rfl (srQ (hvQ rfl (fdQ 0 rfl rfl rfl) (hvQ rfl (zac rfl rfl rfl (zaa 6 rfl rfl)) (hvQ rfl (zbk (cs := #[.int .i64 2, .int .i64 2, .int .i64 0]) rfl rfl rfl) (zam 1 rfl (hvQ rfl (zbk (cs := #[.int .i64 2, .int .i64 (1 + xhR170), .int .i64 0]) rfl rfl rfl) (hvQ rfl (zbk (cs := #[.int .i64 2, .int .i64 1, .int .i64 0]) rfl rfl rfl) (zam 1 rfl ?_)))))))))
   refine hvQ rfl (zbk (cs := #[.int .i64 2, .int .i64 (1 + xhR170), .int .i64 0]) rfl rfl rfl) (zea rfl (zak (z := .agg #[.int .i64 0, .int .i64 0, .int .i64 0]) (s := 3) (cs := ([2, 2, 0, 2, 1 + xhR170, 0, 2, 1, 0, 2, 1 + xhR170, 0].map (Value.int .i64))) rfl Try.underlying30 rfl (by decide) rfl (by kernel_rfl) rfl) ?_)
   intro g171
   refine zcs (i := 2) (z := .agg #[.int .i64 0, .int .i64 0, .int .i64 0]) (bytes := 24) (n' := (m3.ss ++ [Sg.mk 2 2 0, Sg.mk 2 (1 + xhR170) 0, Sg.mk 2 1 0, Sg.mk 2 (1 + xhR170) 0]).length) (xs' := ((m3.ss ++ [Sg.mk 2 2 0, Sg.mk 2 (1 + xhR170) 0, Sg.mk 2 1 0, Sg.mk 2 (1 + xhR170) 0]).flatMap sgC)) rfl rfl rfl rfl Try.underlying30 (by kernel_rfl) rfl rfl rfl rfl (zaj 0 rfl) (by simp [Value.oneCell']) (by omega) (zcc m3.ss ([Sg.mk 2 2 0, Sg.mk 2 (1 + xhR170) 0, Sg.mk 2 1 0, Sg.mk 2 (1 + xhR170) 0] : List Sg)) (flat_app sgC m3.ss [Sg.mk 2 2 0, Sg.mk 2 (1 + xhR170) 0, Sg.mk 2 1 0, Sg.mk 2 (1 + xhR170) 0]) (fun _ => rfl) ?_
   intro v172
   refine hvQ rfl (fdQ 0 rfl rfl rfl) (zct (i := 2) rfl (fun ho173 => ?_))
   refine zdo (i := 7) (cs' := #[v172, m3.av, m3.iv, m3.mv]) rfl rfl rfl rfl rfl rfl ho173 rfl rfl rfl rfl (zcu (zba (zag (zas (hvQ rfl (fdQ 3 rfl rfl rfl) (hvQ rfl (zac rfl rfl rfl (zaa 7 rfl rfl)) (zam 2 rfl (hvQ rfl (vaQ rfl rfl rfl) (zam 1 rfl (hvQ rfl (vaQ rfl rfl rfl) (zam 1 rfl (hvQ rfl (vaQ rfl rfl rfl) (hvQ rfl (zbk (cs := #[.int .i64 (m3.ss.length : Int), .int .i64 ((m3.ss.length : Int) + 1), .int .i64 ((m3.ss.length : Int) + 2), .int .i64 ((m3.ss.length : Int) + 3)]) rfl rfl rfl) ?_)))))))))))))
   refine zea rfl (zak (z := .agg #[.int .i64 0, .int .i64 0, .int .i64 0, .int .i64 0]) (s := 4) (cs := ([(m3.ss.length : Int), (m3.ss.length : Int) + 1, (m3.ss.length : Int) + 2, (m3.ss.length : Int) + 3].map (Value.int .i64))) rfl Try.underlying33 rfl (by decide) rfl (by kernel_rfl) rfl) ?_
   intro g174
   refine zcs (i := 5) (z := .agg #[.int .i64 0, .int .i64 0, .int .i64 0, .int .i64 0]) (bytes := 32) rfl rfl rfl rfl Try.underlying33 (by kernel_rfl) rfl rfl rfl rfl (zaj 0 rfl) (zbx _) (by first | omega | (simp only [List.length_append, List.length_cons, List.length_nil]; omega)) (zcc m3.ms [(Mm.mk (m3.ss.length : Int) ((m3.ss.length : Int) + 1) ((m3.ss.length : Int) + 2) ((m3.ss.length : Int) + 3))]) (zcz mmC m3.ms (Mm.mk (m3.ss.length : Int) ((m3.ss.length : Int) + 1) ((m3.ss.length : Int) + 2) ((m3.ss.length : Int) + 3)) _ rfl) (fun _ => rfl) ?_
   intro v175
   refine hvQ rfl (fdQ 3 rfl rfl rfl) (zct (i := 5) rfl (fun ho176 => ?_))
   refine zdo (i := 8) (cs' := #[v172, m3.av, m3.iv, v175]) rfl rfl rfl rfl rfl rfl ho176 rfl rfl rfl rfl (ntQ (zag (reQ 2 rfl (hvQ rfl (vaQ rfl rfl rfl) ?_))))
   refine zea rfl (zak (z := .int .i64 0) (s := 1) (cs := ([(m3.ss.length : Int) + 3].map (Value.int .i64))) rfl Try.underlying48 rfl (by decide) rfl (by kernel_rfl) rfl) ?_
   intro g177
   refine zcs (i := 8) (z := .int .i64 0) (bytes := 8) rfl rfl rfl rfl Try.underlying48 (by kernel_rfl) rfl rfl rfl rfl (zaj 0 rfl) (zbx _) (by first | omega | (simp; done) | (simp; omega)) (zcc U3.2 ([(m3.ss.length : Int) + 3])) (zcw U3.2 ([(m3.ss.length : Int) + 3])) (fun _ => rfl) ?_
   intro v178
   refine zay 1 rfl (zbg 1 rfl (zaz ?_))
   refine lkQ3 (α := Nat) (β := Md) (γ := List HP) [0, 1, 3, 4, 5, 6, 7, 11, 19, 20, 33, 55, 89, 181] rfl (fun j4 m4 ps4 => (bigE ps4 :: rowE 38 3 m4.sv m4.ss.length (m4.ss.flatMap sgC) :: rowE 63 3 m4.iv m4.xs.length (m4.xs.flatMap ixC) :: rowE 94 4 m4.mv m4.ms.length (m4.ms.flatMap mmC) :: rowE 3 1 W2.1 W2.2.length (W2.2.map (Value.int .i64)) :: rowE 3 1 v178 ((U3.2 ++ ([(m3.ss.length : Int) + 3])).length) ((U3.2 ++ ([(m3.ss.length : Int) + 3])).map (Value.int .i64)) :: boxE b3 #[m4.sv, m4.av, m4.iv, m4.mv] 35 :: boxE b2 #[.slice none 0 0, .slice none 0 0, .slice none 0 0, .slice none 0 0] 35 :: boxE b1 #[v] 26 :: curE g a len cap :: l)) (fun j4 m4 ps4 => [(21, .int .i64 (j4 : Int))]) (fun j4 m4 ps4 => j4 ≤ 3 ∧ MI D m4 (U3.2 ++ ([(m3.ss.length : Int) + 3])) (W2.2 ++ ([(m3.ss.length : Int), (m3.ss.length : Int) + 1, (m3.ss.length : Int) + 2] : List Int).drop j4) 16 (8 + j4) 2 1 2 13 ∧ ∀ w, (bigE ps4).holds w → RdP w m4) (fun j4 m4 ps4 => 3 - j4) 0 (Md.mk v172 m3.av m3.iv v175 (m3.ss ++ [Sg.mk 2 2 0, Sg.mk 2 (1 + xhR170) 0, Sg.mk 2 1 0, Sg.mk 2 (1 + xhR170) 0]) m3.gs m3.xs (m3.ms ++ [(Mm.mk (m3.ss.length : Int) ((m3.ss.length : Int) + 1) ((m3.ss.length : Int) + 2) ((m3.ss.length : Int) + 3))])) ps3 ⟨by omega, (h3.mm4 _ _ ⟨by omega, by omega⟩).up (by omega) (by omega) (by omega) (by omega) (by omega) (by omega), fun w hw => hp3 w hw⟩ (saQ rfl) (.cons _ (.cons _ (.cons _ (.refl _)))) ?_
   intro j4 m4 ps4 hi179
   obtain ⟨hj4, h4, hp4⟩ := hi179
   refine zag (zag (reQ 1 rfl ?_))
   refine zbq rfl rfl rfl rfl rfl rfl (fun h180 => ?_) (fun h180 => ?_)
   ·
    refine ntQ (zah rfl (zcv (sbQ (zas ?_))))
    have hpd9 := pend3 h3.plt (show j4 < 3 by omega)
    refine zgb (p := (∀ g9 ∈ m4.gs, g9.ov.oneCell' = true) ∧ m4.sv.oneCell' = true ∧ m4.av.oneCell' = true ∧ m4.iv.oneCell' = true ∧ m4.mv.oneCell' = true) (fun w hm => ⟨fun g9 hg9 => ((hp4 w (hm.holds _ (zcj (i := 0) rfl))).2.1 g9 hg9).one, (zaj 1 rfl w hm).one, (hp4 w (hm.holds _ (zcj (i := 0) rfl))).1.one, (zaj 2 rfl w hm).one, (zaj 3 rfl w hm).one⟩) (fun ⟨hone9, ho9⟩ => ?_)
    refine zam 1 rfl (hvQ rfl (zax (cs := [m4.sv, m4.av, m4.iv, m4.mv]) rfl rfl rfl rfl rfl (zat 6 rfl 0 rfl)) (zam 2 rfl (hvQ rfl (vaQ rfl rfl rfl) (zam 1 rfl ?_))))
    refine zds (R := (fun u_ p_ => ∃ (v' ov : Value) (os : List Oq) (ps : List HP), u_ = .agg #[m4.sv, v', m4.iv, m4.mv] ∧ p_ = bigE [curE g a len cap, bigE ps] ∧ (∀ w, (bigE ps).holds w → RdsW w v' 2 (m4.gs ++ [As.mk ((m3.ss.length : Int) + (j4 : Int)) ov os]).length ((m4.gs ++ [As.mk ((m3.ss.length : Int) + (j4 : Int)) ov os]).flatMap asC) ∧ RdsW w ov 3 os.length (os.flatMap oqC)) ∧ v'.oneCell' = true ∧ ov.oneCell' = true ∧ ExP (m4.ss.length : Int) 9 os)) 9 rfl rfl rfl rfl rfl (fun L w hX hm => zdz g a len cap z (m4.ss.length : Int) (Md.mk m4.sv m4.av m4.iv m4.mv m4.ss m4.gs m4.xs m4.ms) ((m3.ss.length : Int) + (j4 : Int)) v178 _ _ _ _ hm hb (fun w9 h9 => (zaj (l := (bigE ps4 :: rowE 38 3 m4.sv m4.ss.length (m4.ss.flatMap sgC) :: rowE 63 3 m4.iv m4.xs.length (m4.xs.flatMap ixC) :: rowE 94 4 m4.mv m4.ms.length (m4.ms.flatMap mmC) :: rowE 3 1 W2.1 W2.2.length (W2.2.map (Value.int .i64)) :: rowE 3 1 v178 ((U3.2 ++ ([(m3.ss.length : Int) + 3])).length) ((U3.2 ++ ([(m3.ss.length : Int) + 3])).map (Value.int .i64)) :: boxE b3 #[m4.sv, m4.av, m4.iv, m4.mv] 35 :: boxE b2 #[.slice none 0 0, .slice none 0 0, .slice none 0 0, .slice none 0 0] 35 :: boxE b1 #[v] 26 :: l)) 5 rfl) w9 (hX w9 h9)) (fun x hx => h4.av x hx) (by have h9 := h4.na; omega) (fun w9 h9 => (hp4 w9 ((hX w9 h9).holds _ (zcj (i := 0) rfl))).1) (by have h9 := h4.ng; show m4.gs.length ≤ 1000; omega) hone9 ⟨ho9.1, ho9.2.1, ho9.2.2.1, ho9.2.2.2⟩) ?_
    intro v181 p182 hR183
    obtain ⟨avhR183, ovhR183, oshR183, aphR183, rfl, rfl, haphR183, oavhR183, oovhR183, hoshR183⟩ := hR183
    refine zcl (l' := (bigE ps4 :: rowE 38 3 m4.sv m4.ss.length (m4.ss.flatMap sgC) :: rowE 63 3 m4.iv m4.xs.length (m4.xs.flatMap ixC) :: rowE 94 4 m4.mv m4.ms.length (m4.ms.flatMap mmC) :: rowE 3 1 W2.1 W2.2.length (W2.2.map (Value.int .i64)) :: rowE 3 1 v178 ((U3.2 ++ ([(m3.ss.length : Int) + 3])).length) ((U3.2 ++ ([(m3.ss.length : Int) + 3])).map (Value.int .i64)) :: boxE b3 #[m4.sv, m4.av, m4.iv, m4.mv] 35 :: boxE b2 #[.slice none 0 0, .slice none 0 0, .slice none 0 0, .slice none 0 0] 35 :: boxE b1 #[v] 26 :: bigE [curE g a len cap, bigE aphR183] :: l)) rfl ?_
    refine zbh (cs' := #[m4.sv, avhR183, m4.iv, m4.mv]) (i := 6) (off := 0) (us := [m4.sv, avhR183, m4.iv, m4.mv]) rfl rfl rfl rfl rfl rfl rfl (zab ho9.1 (zab oavhR183 (zab ho9.2.2.1 (zab ho9.2.2.2 zbc)))) rfl rfl rfl (zcu (zdh (reQ 1 rfl (hvQ rfl (vaQ rfl rfl rfl) (enQ 1 rfl ?_)))))
    refine zbn 10 [8, 7, 6, 5, 4, 3, 2, 1, 0, 9] rfl rfl (by decide) ?_
    refine zco (curE g a len cap :: bigE aphR183 :: bigE ps4 :: rowE 38 3 m4.sv m4.ss.length (m4.ss.flatMap sgC) :: rowE 63 3 m4.iv m4.xs.length (m4.xs.flatMap ixC) :: rowE 94 4 m4.mv m4.ms.length (m4.ms.flatMap mmC) :: rowE 3 1 W2.1 W2.2.length (W2.2.map (Value.int .i64)) :: rowE 3 1 v178 ((U3.2 ++ ([(m3.ss.length : Int) + 3])).length) ((U3.2 ++ ([(m3.ss.length : Int) + 3])).map (Value.int .i64)) :: boxE b3 #[m4.sv, avhR183, m4.iv, m4.mv] 35 :: boxE b2 #[.slice none 0 0, .slice none 0 0, .slice none 0 0, .slice none 0 0] 35 :: boxE b1 #[v] 26 :: l) zdb ?_
    refine zbn 11 [10, 9, 8, 7, 6, 5, 4, 3, 0, 1, 2] rfl rfl (by decide) ?_
    refine zcd 2 rfl ?_
    refine zbn 10 [1, 9, 8, 7, 6, 5, 4, 3, 2, 0] rfl rfl (by decide) ?_
    exact zcq (j4 + 1) (Md.mk m4.sv avhR183 m4.iv m4.mv m4.ss (m4.gs ++ [As.mk ((m3.ss.length : Int) + (j4 : Int)) ovhR183 oshR183]) m4.xs m4.ms) [bigE ps4, bigE aphR183] ⟨by omega, (h4.asg _ hpd9.1 _ hoshR183 (by show (m4.ss.length : Int) ≤ (m4.ss.length : Int); omega) hpd9.2).up (by omega) (by omega) (by omega) (by omega) (by omega) (by omega), fun w hw => ⟨(haphR183 w (zbi hw (List.mem_cons_of_mem _ List.mem_cons_self))).1, (hp4 w (zbi hw List.mem_cons_self)).2.1.app (haphR183 w (zbi hw (List.mem_cons_of_mem _ List.mem_cons_self))).2, (hp4 w (zbi hw List.mem_cons_self)).2.2⟩⟩ (by omega) (saQ rfl) (.refl _)
   refine ntQ (zap rfl ?_)
   refine zbj (zeb ?_)
   exact zal (hq_meet3 m4 (v178, U3.2 ++ ([(m3.ss.length : Int) + 3])) ps4 ⟨by have h9 := h4; rw [show j4 = 3 by omega] at h9; exact (by simpa using h9.up (show 16 ≤ 16 by omega) (show 8 + 3 ≤ 11 by omega) (show 2 ≤ 2 by omega) (show 1 ≤ 1 by omega) (show 2 ≤ 2 by omega) (show 13 ≤ 13 by omega)), hp4⟩ (saQ rfl) (.refl _))
  refine ntQ (fsQ rfl ?_)
  exact hq_meet3 m3 (U3.1, U3.2) ps3 ⟨h3.up (by omega) (by omega) (by omega) (by omega) (by omega) (by omega), hp3⟩ (saQ rfl) (.refl _)
 intro m5 U5 ps5 hm184
 obtain ⟨h5, hp5⟩ := hm184
 have hns5 := h5.ns
 have hna5 := h5.na
 refine zag (reQ 1 rfl ?_)
 refine zcg (R := (fun u_ p_ => (∃ x_ : Int, u_ = .int .i64 x_ ∧ 0 ≤ x_ ∧ x_ < 2) ∧ p_ = curE g a len cap)) 9 rfl rfl rfl rfl rfl (fun l' w hm => zby g a len cap z 2 _ _ _ hm hb (by constructor <;> omega)) ?_
 intro v185 p186 hR187
 obtain ⟨⟨xhR187, rfl, xhR1870, xhR1871⟩, rfl⟩ := hR187
 refine zcl (l' := (bigE ps5 :: rowE 38 3 m5.sv m5.ss.length (m5.ss.flatMap sgC) :: rowE 63 3 m5.iv m5.xs.length (m5.xs.flatMap ixC) :: rowE 94 4 m5.mv m5.ms.length (m5.ms.flatMap mmC) :: rowE 3 1 W2.1 W2.2.length (W2.2.map (Value.int .i64)) :: rowE 3 1 U5.1 U5.2.length (U5.2.map (Value.int .i64)) :: boxE b3 #[m5.sv, m5.av, m5.iv, m5.mv] 35 :: boxE b2 #[.slice none 0 0, .slice none 0 0, .slice none 0 0, .slice none 0 0] 35 :: boxE b1 #[v] 26 :: curE g a len cap :: l)) rfl ?_
 refine hvQ rfl (vaQ rfl rfl rfl) (zay 1 rfl (zag (zbg 1 rfl (zaz ?_))))
 refine lkQ4 (α := Nat) (β := Md) (γ := Value × List Int) (δ := List HP) [0, 1, 3, 4, 5, 7, 8, 33, 55, 89] rfl (fun k6 m6 U6 ps6 => (bigE ps6 :: rowE 38 3 m6.sv m6.ss.length (m6.ss.flatMap sgC) :: rowE 63 3 m6.iv m6.xs.length (m6.xs.flatMap ixC) :: rowE 94 4 m6.mv m6.ms.length (m6.ms.flatMap mmC) :: rowE 3 1 W2.1 W2.2.length (W2.2.map (Value.int .i64)) :: rowE 3 1 U6.1 U6.2.length (U6.2.map (Value.int .i64)) :: boxE b3 #[m6.sv, m6.av, m6.iv, m6.mv] 35 :: boxE b2 #[.slice none 0 0, .slice none 0 0, .slice none 0 0, .slice none 0 0] 35 :: boxE b1 #[v] 26 :: curE g a len cap :: l)) (fun k6 m6 U6 ps6 => [(6, U6.1), (22, .int .i64 (k6 : Int))]) (fun k6 m6 U6 ps6 => (k6 : Int) ≤ 1 + xhR187 ∧ MI D m6 U6.2 W2.2 (16 + k6) (11 + k6) 2 1 (2 + k6) (13 + k6) ∧ ∀ w, (bigE ps6).holds w → RdP w m6) (fun k6 m6 U6 ps6 => (1 + xhR187).toNat - k6) 0 m5 U5 ps5 ⟨by omega, h5.up (by omega) (by omega) (by omega) (by omega) (by omega) (by omega), hp5⟩ (saQ rfl) (.refl _) ?_
 intro k6 m6 U6 ps6 hi188
 obtain ⟨hk6, h6, hp6⟩ := hi188
 have hns6 := h6.ns
 have hna6 := h6.na
 refine zag (zag (reQ 2 rfl ?_))
 refine zbq rfl rfl rfl rfl rfl rfl (fun h189 => ?_) (fun h189 => ?_)
 ·
  refine ntQ (zah rfl (zcv (sbQ (srQ (hvQ rfl (fdQ 0 rfl rfl rfl) (hvQ rfl (zac rfl rfl rfl (zaa 6 rfl rfl)) (hvQ rfl (lnQ rfl rfl rfl (zaj 1 rfl)) (zam 1 rfl ?_))))))))
  refine ntQ (zag ?_)
  refine zey 10 [8, 7, 6, 5, 4, 3, 2, 1, 0, 9] rfl rfl (by decide) ?_
  refine zez (l := (bigE ps6 :: rowE 38 3 m6.sv m6.ss.length (m6.ss.flatMap sgC) :: rowE 63 3 m6.iv m6.xs.length (m6.xs.flatMap ixC) :: rowE 94 4 m6.mv m6.ms.length (m6.ms.flatMap mmC) :: rowE 3 1 W2.1 W2.2.length (W2.2.map (Value.int .i64)) :: rowE 3 1 U6.1 U6.2.length (U6.2.map (Value.int .i64)) :: boxE b3 #[m6.sv, m6.av, m6.iv, m6.mv] 35 :: boxE b2 #[.slice none 0 0, .slice none 0 0, .slice none 0 0, .slice none 0 0] 35 :: boxE b1 #[v] 26 :: l)) rfl 10 [0, 1, 2, 3, 4, 5, 6, 7, 8, 9] (List.take 10 _) (List.drop 10 _) [[], [0], [], [], [2, 3], [], [], [4, 5, 6], [4, 7], [4, 7, 8]] [239, 240, 241, 242, 243, 244, 245, 246, 247, 248] (fun i_ vs_ v_ p_ => match i_ with | 0 => v_ = .pointer (some ⟨b3, 0 + 0, none⟩) ∧ p_ = [] | 1 => v_ = m6.sv ∧ p_ = [] | 2 => v_ = .pointer (some ⟨g, 0, none⟩) ∧ p_ = [] | 3 => IsRow 3 1 2 ([1, 2].map (Value.int .i64)) v_ p_ | 4 => (∃ pm_, p_ = [pm_] ∧ (fun u_ p_ => (∃ x : Int, u_ = .int .i64 x ∧ x ∈ ([1, 2] : List Int)) ∧ p_ = curE g a len cap) v_ pm_) | 5 => v_ = .pointer (some ⟨g, 0, none⟩) ∧ p_ = [] | 6 => IsRow 3 1 3 ([1, 2, 0].map (Value.int .i64)) v_ p_ | 7 => (∃ pm_, p_ = [pm_] ∧ (fun u_ p_ => (∃ x : Int, u_ = .int .i64 x ∧ x ∈ ([1, 2, 0] : List Int)) ∧ p_ = curE g a len cap) v_ pm_) | 8 => v_ = .agg #[.int .i64 (intOf_o (List.getD vs_ 0 undef)), .int .i64 (intOf_o (List.getD vs_ 1 undef)), .int .i64 0] ∧ p_ = [] | 9 => IsRow 38 3 1 ([(intOf_o (List.getD vs_ 0 undef)), (intOf_o (List.getD vs_ 1 undef)), 0].map (Value.int .i64)) v_ p_ | _ => True) [[], [0], [], [], [2, 3], [], [], [5, 6], [7], [7, 8]] [none, none, none, none, some 13, none, none, some 4, none, none] [curE g a len cap] [0, 1, 2, 3, 5, 6, 7, 8, 9] 13 (List.take_append_drop 10 _).symm (by kernel_rfl) (by kernel_rfl) (by kernel_rfl) rfl rfl ?_ ?_
  ·
   refine ⟨?_, ?_, ?_, ?_, ?_, ?_, ?_, ?_, ?_, ?_, trivial⟩
   ·
    intro vf pf hmu hR
    refine dqQ [] [] rfl (zbo (zar [5] rfl) ?_)
    exact zbt (fdQ 0 rfl rfl rfl)
   ·
    intro vf pf hmu hR
    have e0 := hR 0 (by decide)
    refine dqQ [0] [0] rfl (zbe (sk 239 (congrArg some e0.1) (zai _)) (List.sublist_append_right _ _) ?_)
    exact zbt (zac rfl rfl rfl (zaa 6 rfl rfl))
   ·
    intro vf pf hmu hR
    refine dqQ [] [] rfl (zbo (zar [0] rfl) ?_)
    exact zbt (zau rfl)
   ·
    intro vf pf hmu hR
    refine dqQ [] [] rfl (zbe (zai _) (List.sublist_append_right _ _) ?_)
    exact zak (z := .int .i64 0) (s := 1) (cs := ([1, 2].map (Value.int .i64))) rfl Try.underlying48 rfl (by decide) rfl (by kernel_rfl) rfl
   ·
    intro vf pf hmu hR
    have e2 := hR 2 (by decide)
    have e3 : IsRow 3 1 2 ([1, 2].map (Value.int .i64)) (vf 3) (pf 3) := hR 3 (by decide)
    obtain ⟨g190, vE3, pE3⟩ := e3
    refine Or.inl ⟨rfl, ?_⟩
    show RunM _ _ _ (pf 13) (([2, 3] : List Nat).flatMap pf ++ _) (envOf _ vf [2, 3] ++ _) _ _
    rw [hmu]
    exact zda (sk 241 (congrArg some e2.1) (sk 242 (congrArg some vE3) (zai _))) (by simp only [pE3, vE3, e2.2, fS] <;> rfl) (zdp (R := (fun u_ p_ => (∃ x : Int, u_ = .int .i64 x ∧ x ∈ ([1, 2] : List Int)) ∧ p_ = curE g a len cap)) rfl rfl (fun L w hX hm => zdy g a len cap z (.slice (some ⟨g190, 0, none⟩) 2 2) [1, 2] _ _ _ hm hb (fun w hm => (zaj (l := (rowE 3 1 (.slice (some ⟨g190, 0, none⟩) 2 2) 2 ([1, 2].map (Value.int .i64)) :: bigE ps6 :: rowE 38 3 m6.sv m6.ss.length (m6.ss.flatMap sgC) :: rowE 63 3 m6.iv m6.xs.length (m6.xs.flatMap ixC) :: rowE 94 4 m6.mv m6.ms.length (m6.ms.flatMap mmC) :: rowE 3 1 W2.1 W2.2.length (W2.2.map (Value.int .i64)) :: rowE 3 1 U6.1 U6.2.length (U6.2.map (Value.int .i64)) :: boxE b3 #[m6.sv, m6.av, m6.iv, m6.mv] 35 :: boxE b2 #[.slice none 0 0, .slice none 0 0, .slice none 0 0, .slice none 0 0] 35 :: boxE b1 #[v] 26 :: l)) 0 rfl) w (hX w hm)) (by decide)))
   ·
    intro vf pf hmu hR
    refine dqQ [] [] rfl (zbo (zar [0] rfl) ?_)
    exact zbt (zau rfl)
   ·
    intro vf pf hmu hR
    refine dqQ [] [] rfl (zbe (zai _) (List.sublist_append_right _ _) ?_)
    exact zak (z := .int .i64 0) (s := 1) (cs := ([1, 2, 0].map (Value.int .i64))) rfl Try.underlying48 rfl (by decide) rfl (by kernel_rfl) rfl
   ·
    intro vf pf hmu hR
    have e4 : (∃ pm_, (pf 4) = [pm_] ∧ (fun u_ p_ => (∃ x : Int, u_ = .int .i64 x ∧ x ∈ ([1, 2] : List Int)) ∧ p_ = curE g a len cap) (vf 4) pm_) := hR 4 (by decide)
    obtain ⟨p192, pE4, hR193⟩ := e4
    obtain ⟨v191, vE4⟩ : ∃ x, vf 4 = x := ⟨_, rfl⟩
    rw [vE4] at hR193
    obtain ⟨⟨xhR193, rfl, xhR193m⟩, rfl⟩ := hR193
    have e5 := hR 5 (by decide)
    have e6 : IsRow 3 1 3 ([1, 2, 0].map (Value.int .i64)) (vf 6) (pf 6) := hR 6 (by decide)
    obtain ⟨g194, vE6, pE6⟩ := e6
    refine Or.inl ⟨rfl, ?_⟩
    show RunM _ _ _ (pf 4) (([5, 6] : List Nat).flatMap pf ++ _) (envOf _ vf [4, 5, 6] ++ _) _ _
    rw [pE4]
    exact zda (sk 244 (congrArg some e5.1) (sk 245 (congrArg some vE6) (zai _))) (by simp only [pE6, vE6, e5.2, fS] <;> rfl) (zdp (R := (fun u_ p_ => (∃ x : Int, u_ = .int .i64 x ∧ x ∈ ([1, 2, 0] : List Int)) ∧ p_ = curE g a len cap)) rfl rfl (fun L w hX hm => zdy g a len cap z (.slice (some ⟨g194, 0, none⟩) 3 3) [1, 2, 0] _ _ _ hm hb (fun w hm => (zaj (l := (rowE 3 1 (.slice (some ⟨g194, 0, none⟩) 3 3) 3 ([1, 2, 0].map (Value.int .i64)) :: bigE ps6 :: rowE 38 3 m6.sv m6.ss.length (m6.ss.flatMap sgC) :: rowE 63 3 m6.iv m6.xs.length (m6.xs.flatMap ixC) :: rowE 94 4 m6.mv m6.ms.length (m6.ms.flatMap mmC) :: rowE 3 1 W2.1 W2.2.length (W2.2.map (Value.int .i64)) :: rowE 3 1 U6.1 U6.2.length (U6.2.map (Value.int .i64)) :: boxE b3 #[m6.sv, m6.av, m6.iv, m6.mv] 35 :: boxE b2 #[.slice none 0 0, .slice none 0 0, .slice none 0 0, .slice none 0 0] 35 :: boxE b1 #[v] 26 :: l)) 0 rfl) w (hX w hm)) (by decide)))
   ·
    intro vf pf hmu hR
    have e4 : (∃ pm_, (pf 4) = [pm_] ∧ (fun u_ p_ => (∃ x : Int, u_ = .int .i64 x ∧ x ∈ ([1, 2] : List Int)) ∧ p_ = curE g a len cap) (vf 4) pm_) := hR 4 (by decide)
    obtain ⟨p192, pE4, hR193⟩ := e4
    obtain ⟨v191, vE4⟩ : ∃ x, vf 4 = x := ⟨_, rfl⟩
    rw [vE4] at hR193
    obtain ⟨⟨xhR193, rfl, xhR193m⟩, rfl⟩ := hR193
    have e7 : (∃ pm_, (pf 7) = [pm_] ∧ (fun u_ p_ => (∃ x : Int, u_ = .int .i64 x ∧ x ∈ ([1, 2, 0] : List Int)) ∧ p_ = curE g a len cap) (vf 7) pm_) := hR 7 (by decide)
    obtain ⟨p196, pE7, hR197⟩ := e7
    obtain ⟨v195, vE7⟩ : ∃ x, vf 7 = x := ⟨_, rfl⟩
    rw [vE7] at hR197
    obtain ⟨⟨xhR197, rfl, xhR197m⟩, rfl⟩ := hR197
    have xhR197w := lit4 xhR197m (by decide)
    refine dqQ [7] [4, 7] rfl (zcm (sk 243 (congrArg some vE4) (sk 246 (congrArg some vE7) (zai _))) (by simp only [pE7, vE7, fS] <;> rfl) ?_)
    exact zck (zbt (zbk (cs := #[.int .i64 xhR193, .int .i64 xhR197, .int .i64 0]) rfl rfl rfl)) (fun _ _ h => ⟨h.1.trans (by show _ = (.agg #[.int .i64 (intOf_o (vf 4)), .int .i64 (intOf_o (vf 7)), .int .i64 0] : Value); first | (rw [vE4, vE7]; done) | (rw [vE4, vE7]; rfl)), h.2⟩)
   intro vf pf hmu hR
   have e4 : (∃ pm_, (pf 4) = [pm_] ∧ (fun u_ p_ => (∃ x : Int, u_ = .int .i64 x ∧ x ∈ ([1, 2] : List Int)) ∧ p_ = curE g a len cap) (vf 4) pm_) := hR 4 (by decide)
   obtain ⟨p192, pE4, hR193⟩ := e4
   obtain ⟨v191, vE4⟩ : ∃ x, vf 4 = x := ⟨_, rfl⟩
   rw [vE4] at hR193
   obtain ⟨⟨xhR193, rfl, xhR193m⟩, rfl⟩ := hR193
   have e7 : (∃ pm_, (pf 7) = [pm_] ∧ (fun u_ p_ => (∃ x : Int, u_ = .int .i64 x ∧ x ∈ ([1, 2, 0] : List Int)) ∧ p_ = curE g a len cap) (vf 7) pm_) := hR 7 (by decide)
   obtain ⟨p196, pE7, hR197⟩ := e7
   obtain ⟨v195, vE7⟩ : ∃ x, vf 7 = x := ⟨_, rfl⟩
   rw [vE7] at hR197
   obtain ⟨⟨xhR197, rfl, xhR197m⟩, rfl⟩ := hR197
   have xhR197w := lit4 xhR197m (by decide)
   have e8 : (vf 8) = .agg #[.int .i64 (intOf_o (vf 4)), .int .i64 (intOf_o (vf 7)), .int .i64 0] ∧ (pf 8) = [] := hR 8 (by decide)
   rw [vE4, vE7] at e8
   refine dqQ [7, 8] [4, 7, 8] rfl (zcm (sk 247 (congrArg some e8.1) (zai _)) (by simp only [pE7, vE7, e8.2, fS] <;> rfl) ?_)
   exact zck (zak (z := .agg #[.int .i64 0, .int .i64 0, .int .i64 0]) (s := 3) (cs := ([xhR193, xhR197, 0].map (Value.int .i64))) rfl Try.underlying30 rfl (by decide) rfl (by kernel_rfl) rfl) (fun v_ p_ h => by show IsRow 38 3 1 ([(intOf_o (vf 4)), (intOf_o (vf 7)), 0].map (Value.int .i64)) v_ p_; rw [vE4, vE7]; exact h)
  intro vf pf hmu hR
  have e1 := hR 1 (by decide)
  have e3 : IsRow 3 1 2 ([1, 2].map (Value.int .i64)) (vf 3) (pf 3) := hR 3 (by decide)
  obtain ⟨g190, vE3, pE3⟩ := e3
  have e4 : (∃ pm_, (pf 4) = [pm_] ∧ (fun u_ p_ => (∃ x : Int, u_ = .int .i64 x ∧ x ∈ ([1, 2] : List Int)) ∧ p_ = curE g a len cap) (vf 4) pm_) := hR 4 (by decide)
  obtain ⟨p192, pE4, hR193⟩ := e4
  obtain ⟨v191, vE4⟩ : ∃ x, vf 4 = x := ⟨_, rfl⟩
  rw [vE4] at hR193
  obtain ⟨⟨xhR193, rfl, xhR193m⟩, rfl⟩ := hR193
  have e6 : IsRow 3 1 3 ([1, 2, 0].map (Value.int .i64)) (vf 6) (pf 6) := hR 6 (by decide)
  obtain ⟨g194, vE6, pE6⟩ := e6
  have e7 : (∃ pm_, (pf 7) = [pm_] ∧ (fun u_ p_ => (∃ x : Int, u_ = .int .i64 x ∧ x ∈ ([1, 2, 0] : List Int)) ∧ p_ = curE g a len cap) (vf 7) pm_) := hR 7 (by decide)
  obtain ⟨p196, pE7, hR197⟩ := e7
  obtain ⟨v195, vE7⟩ : ∃ x, vf 7 = x := ⟨_, rfl⟩
  rw [vE7] at hR197
  obtain ⟨⟨xhR197, rfl, xhR197m⟩, rfl⟩ := hR197
  have xhR197w := lit4 xhR197m (by decide)
  have e9 : IsRow 38 3 1 ([(intOf_o (vf 4)), (intOf_o (vf 7)), 0].map (Value.int .i64)) (vf 9) (pf 9) := hR 9 (by decide)
  rw [vE4, vE7] at e9
  obtain ⟨g198, vE9, pE9⟩ := e9
  have q0 := hR 0 (by decide)
  have q1 := hR 1 (by decide)
  have q2 := hR 2 (by decide)
  have q5 := hR 5 (by decide)
  have q8 := hR 8 (by decide)
  refine zdf (zci [233, 89, 55, 33, 23, 22, 8, 7, 6, 5, 4, 3, 1, 0] _ (sk 240 (congrArg some e1.1) (sk 248 (congrArg some vE9) (zai _))) rfl) (by simp only [pE3, vE3, pE6, vE6, pE7, vE7, pE9, vE9, q0.2, q1.2, q2.2, q5.2, q8.2, fS] <;> rfl) ?_
  simp only [List.drop_succ_cons, List.drop_zero]
  refine zcs (i := 5) (z := .agg #[.int .i64 0, .int .i64 0, .int .i64 0]) (bytes := 24) rfl rfl rfl rfl Try.underlying30 (by kernel_rfl) rfl rfl rfl rfl (zaj 3 rfl) (zbx _) (by first | omega | (simp only [List.length_append, List.length_cons, List.length_nil]; omega)) (zcc m6.ss [(Sg.mk xhR193 xhR197 0)]) (zcz sgC m6.ss (Sg.mk xhR193 xhR197 0) _ rfl) (fun _ => rfl) ?_
  intro v199
  refine hvQ rfl (fdQ 0 rfl rfl rfl) (zct (i := 5) rfl (fun ho200 => ?_))
  refine zdo (i := 10) (cs' := #[v199, m6.av, m6.iv, m6.mv]) rfl rfl rfl rfl rfl rfl ho200 rfl rfl rfl rfl (ntQ ?_)
  refine zfg (α := Int) (fun kx => (rowE 3 1 (.slice (some ⟨g190, 0, none⟩) 2 2) 2 ([1, 2].map (Value.int .i64)) :: rowE 3 1 (.slice (some ⟨g194, 0, none⟩) 3 3) 3 ([1, 2, 0].map (Value.int .i64)) :: curE g a len cap :: rowE 38 3 (.slice (some ⟨g198, 0, none⟩) 1 1) 1 ([xhR193, xhR197, 0].map (Value.int .i64)) :: bigE ps6 :: rowE 38 3 v199 ((m6.ss ++ [Sg.mk kx xhR197 0]).length) ((m6.ss ++ [Sg.mk kx xhR197 0]).flatMap sgC) :: rowE 63 3 m6.iv m6.xs.length (m6.xs.flatMap ixC) :: rowE 94 4 m6.mv m6.ms.length (m6.ms.flatMap mmC) :: rowE 3 1 W2.1 W2.2.length (W2.2.map (Value.int .i64)) :: rowE 3 1 U6.1 U6.2.length (U6.2.map (Value.int .i64)) :: boxE b3 #[v199, m6.av, m6.iv, m6.mv] 35 :: boxE b2 #[.slice none 0 0, .slice none 0 0, .slice none 0 0, .slice none 0 0] 35 :: boxE b1 #[v] 26 :: l)) (fun kx => [(0, .pointer (some ⟨g, 0, none⟩)), (1, .agg #[v]), (3, .pointer (some ⟨b1, 0, none⟩)), (4, .pointer (some ⟨b2, 0, none⟩)), (5, .pointer (some ⟨b3, 0, none⟩)), (6, U6.1), (7, W2.1), (8, .int .i64 (1 + xhR187)), (22, .int .i64 (k6 : Int)), (23, .int .i64 (m6.ss.length : Int)), (33, .bool false), (55, .bool false), (89, .bool false), (233, .bool true)]) (fun kx => kx = 1 ∨ kx = 2) ?_ ?_
  ·
   refine zag (reQ 1 rfl ?_)
   refine zbu rfl rfl rfl rfl rfl rfl (fun h201 => ?_) (fun h201 => ?_)
   ·
    refine ntQ (zah rfl (zas ?_))
    have hln9 : (m6.ss ++ [(Sg.mk xhR193 xhR197 0)]).length = m6.ss.length + 1 := by rw [List.length_append]; rfl
    refine hvQ rfl (fdQ 0 rfl rfl rfl) (hvQ rfl (zac rfl rfl rfl (zaa 10 rfl rfl)) (zam 1 rfl (hvQ rfl (riQ 3 rfl rfl rfl rfl (zaj 5 rfl)) (hvQ rfl (zaq (k0 := 0) rfl rfl rfl (zaj 5 rfl) (by omega)) ?_))))
    refine hl_stE (i := 5) (n' := ((m6.ss ++ [(Sg.mk xhR193 xhR197 0)]).set (((m6.ss.length : Int)).toNat) { (m6.ss ++ [(Sg.mk xhR193 xhR197 0)]).getD (((m6.ss.length : Int)).toNat) sg0 with k := 1 }).length) (xs' := (((m6.ss ++ [(Sg.mk xhR193 xhR197 0)]).set (((m6.ss.length : Int)).toNat) { (m6.ss ++ [(Sg.mk xhR193 xhR197 0)]).getD (((m6.ss.length : Int)).toNat) sg0 with k := 1 }).flatMap sgC)) rfl rfl rfl rfl rfl rfl rfl rfl (by first | omega | (simp only [List.length_set]; omega)) List.length_set.symm (flat_set sgC 3 (fun _ => rfl) _ sg0 _ (by first | omega | (simp only [List.length_set]; omega)) (by decide) rfl) rfl (zcu ?_)
    refine zco (rowE 3 1 (.slice (some ⟨g190, 0, none⟩) 2 2) 2 ([1, 2].map (Value.int .i64)) :: rowE 3 1 (.slice (some ⟨g194, 0, none⟩) 3 3) 3 ([1, 2, 0].map (Value.int .i64)) :: curE g a len cap :: rowE 38 3 (.slice (some ⟨g198, 0, none⟩) 1 1) 1 ([xhR193, xhR197, 0].map (Value.int .i64)) :: bigE ps6 :: rowE 38 3 v199 ((m6.ss ++ [Sg.mk 1 xhR197 0]).length) ((m6.ss ++ [Sg.mk 1 xhR197 0]).flatMap sgC) :: rowE 63 3 m6.iv m6.xs.length (m6.xs.flatMap ixC) :: rowE 94 4 m6.mv m6.ms.length (m6.ms.flatMap mmC) :: rowE 3 1 W2.1 W2.2.length (W2.2.map (Value.int .i64)) :: rowE 3 1 U6.1 U6.2.length (U6.2.map (Value.int .i64)) :: boxE b3 #[v199, m6.av, m6.iv, m6.mv] 35 :: boxE b2 #[.slice none 0 0, .slice none 0 0, .slice none 0 0, .slice none 0 0] 35 :: boxE b1 #[v] 26 :: l) (fun w hm => by rw [show m6.ss ++ [Sg.mk 1 xhR197 0] = (m6.ss ++ [(Sg.mk xhR193 xhR197 0)]).set (((m6.ss.length : Int)).toNat) { (m6.ss ++ [(Sg.mk xhR193 xhR197 0)]).getD (((m6.ss.length : Int)).toNat) sg0 with k := 1 } from (setK_last (by omega)).symm]; exact hm) ?_
    exact zde 1 (.inl rfl) (saQ rfl) (.refl _)
   refine ntQ (fsQ rfl ?_)
   exact zde xhR193 (lit12 xhR193m) (saQ rfl) (.refl _)
  intro kx hm202
  have hkx9 := hm202
  refine srQ ?_
  refine zgb (p := (∀ g9 ∈ m6.gs, g9.ov.oneCell' = true) ∧ v199.oneCell' = true ∧ m6.av.oneCell' = true ∧ m6.iv.oneCell' = true ∧ m6.mv.oneCell' = true) (fun w hm => ⟨fun g9 hg9 => ((hp6 w (hm.holds _ (zcj (i := 4) rfl))).2.1 g9 hg9).one, (zaj 5 rfl w hm).one, (hp6 w (hm.holds _ (zcj (i := 4) rfl))).1.one, (zaj 6 rfl w hm).one, (zaj 7 rfl w hm).one⟩) (fun ⟨hone9, ho9⟩ => ?_)
  refine zam 1 rfl (hvQ rfl (zax (cs := [v199, m6.av, m6.iv, m6.mv]) rfl rfl rfl rfl rfl (zat 10 rfl 0 rfl)) (zam 2 rfl ?_))
  refine zds (R := (fun u_ p_ => ∃ (v' ov : Value) (os : List Oq) (ps : List HP), u_ = .agg #[v199, v', m6.iv, m6.mv] ∧ p_ = bigE [curE g a len cap, bigE ps] ∧ (∀ w, (bigE ps).holds w → RdsW w v' 2 (m6.gs ++ [As.mk (m6.ss.length : Int) ov os]).length ((m6.gs ++ [As.mk (m6.ss.length : Int) ov os]).flatMap asC) ∧ RdsW w ov 3 os.length (os.flatMap oqC)) ∧ v'.oneCell' = true ∧ ov.oneCell' = true ∧ ExP (m6.ss.length : Int) 9 os)) 2 rfl rfl rfl rfl rfl (fun L w hX hm => zdz g a len cap z (m6.ss.length : Int) (Md.mk v199 m6.av m6.iv m6.mv (m6.ss ++ [Sg.mk kx xhR197 0]) m6.gs m6.xs m6.ms) (m6.ss.length : Int) U6.1 _ _ _ _ hm hb (fun w9 h9 => (zaj (l := (rowE 3 1 (.slice (some ⟨g190, 0, none⟩) 2 2) 2 ([1, 2].map (Value.int .i64)) :: rowE 3 1 (.slice (some ⟨g194, 0, none⟩) 3 3) 3 ([1, 2, 0].map (Value.int .i64)) :: rowE 38 3 (.slice (some ⟨g198, 0, none⟩) 1 1) 1 ([xhR193, xhR197, 0].map (Value.int .i64)) :: bigE ps6 :: rowE 38 3 v199 ((m6.ss ++ [Sg.mk kx xhR197 0]).length) ((m6.ss ++ [Sg.mk kx xhR197 0]).flatMap sgC) :: rowE 63 3 m6.iv m6.xs.length (m6.xs.flatMap ixC) :: rowE 94 4 m6.mv m6.ms.length (m6.ms.flatMap mmC) :: rowE 3 1 W2.1 W2.2.length (W2.2.map (Value.int .i64)) :: rowE 3 1 U6.1 U6.2.length (U6.2.map (Value.int .i64)) :: boxE b3 #[v199, m6.av, m6.iv, m6.mv] 35 :: boxE b2 #[.slice none 0 0, .slice none 0 0, .slice none 0 0, .slice none 0 0] 35 :: boxE b1 #[v] 26 :: l)) 8 rfl) w9 (hX w9 h9)) (fun x hx => h6.av x hx) (by have h9 := h6.na; omega) (fun w9 h9 => (hp6 w9 ((hX w9 h9).holds _ (zcj (i := 3) rfl))).1) (by have h9 := h6.ng; show m6.gs.length ≤ 1000; omega) hone9 ⟨ho9.1, ho9.2.1, ho9.2.2.1, ho9.2.2.2⟩) ?_
  intro v203 p204 hR205
  obtain ⟨avhR205, ovhR205, oshR205, aphR205, rfl, rfl, haphR205, oavhR205, oovhR205, hoshR205⟩ := hR205
  refine zcl (l' := (rowE 3 1 (.slice (some ⟨g190, 0, none⟩) 2 2) 2 ([1, 2].map (Value.int .i64)) :: rowE 3 1 (.slice (some ⟨g194, 0, none⟩) 3 3) 3 ([1, 2, 0].map (Value.int .i64)) :: bigE [curE g a len cap, bigE aphR205] :: rowE 38 3 (.slice (some ⟨g198, 0, none⟩) 1 1) 1 ([xhR193, xhR197, 0].map (Value.int .i64)) :: bigE ps6 :: rowE 38 3 v199 ((m6.ss ++ [Sg.mk kx xhR197 0]).length) ((m6.ss ++ [Sg.mk kx xhR197 0]).flatMap sgC) :: rowE 63 3 m6.iv m6.xs.length (m6.xs.flatMap ixC) :: rowE 94 4 m6.mv m6.ms.length (m6.ms.flatMap mmC) :: rowE 3 1 W2.1 W2.2.length (W2.2.map (Value.int .i64)) :: rowE 3 1 U6.1 U6.2.length (U6.2.map (Value.int .i64)) :: boxE b3 #[v199, m6.av, m6.iv, m6.mv] 35 :: boxE b2 #[.slice none 0 0, .slice none 0 0, .slice none 0 0, .slice none 0 0] 35 :: boxE b1 #[v] 26 :: l)) rfl ?_
  refine zbh (cs' := #[v199, avhR205, m6.iv, m6.mv]) (i := 10) (off := 0) (us := [v199, avhR205, m6.iv, m6.mv]) rfl rfl rfl rfl rfl rfl rfl (zab ho200 (zab oavhR205 (zab ho9.2.2.1 (zab ho9.2.2.2 zbc)))) rfl rfl rfl (ntQ (reQ 2 rfl ?_))
  refine zea rfl (zak (z := .int .i64 0) (s := 1) (cs := ([(m6.ss.length : Int)].map (Value.int .i64))) rfl Try.underlying48 rfl (by decide) rfl (by kernel_rfl) rfl) ?_
  intro g206
  refine zcs (i := 10) (z := .int .i64 0) (bytes := 8) rfl rfl rfl rfl Try.underlying48 (by kernel_rfl) rfl rfl rfl rfl (zaj 0 rfl) (zbx _) (by first | omega | (simp; done) | (simp; omega)) (zcc U6.2 ([(m6.ss.length : Int)])) (zcw U6.2 ([(m6.ss.length : Int)])) (fun _ => rfl) ?_
  intro v207
  refine enQ 1 rfl (zdh (reQ 1 rfl (hvQ rfl (vaQ rfl rfl rfl) (enQ 1 rfl ?_))))
  refine zbn 14 [13, 12, 11, 10, 9, 8, 7, 6, 5, 4, 2, 1, 0, 3] rfl rfl (by decide) ?_
  refine zco (curE g a len cap :: bigE aphR205 :: rowE 3 1 (.slice (some ⟨g206, 0, none⟩) 1 1) 1 ([(m6.ss.length : Int)].map (Value.int .i64)) :: rowE 3 1 (.slice (some ⟨g190, 0, none⟩) 2 2) 2 ([1, 2].map (Value.int .i64)) :: rowE 3 1 (.slice (some ⟨g194, 0, none⟩) 3 3) 3 ([1, 2, 0].map (Value.int .i64)) :: rowE 38 3 (.slice (some ⟨g198, 0, none⟩) 1 1) 1 ([xhR193, xhR197, 0].map (Value.int .i64)) :: bigE ps6 :: rowE 38 3 v199 ((m6.ss ++ [Sg.mk kx xhR197 0]).length) ((m6.ss ++ [Sg.mk kx xhR197 0]).flatMap sgC) :: rowE 63 3 m6.iv m6.xs.length (m6.xs.flatMap ixC) :: rowE 94 4 m6.mv m6.ms.length (m6.ms.flatMap mmC) :: rowE 3 1 W2.1 W2.2.length (W2.2.map (Value.int .i64)) :: rowE 3 1 v207 ((U6.2 ++ ([(m6.ss.length : Int)])).length) ((U6.2 ++ ([(m6.ss.length : Int)])).map (Value.int .i64)) :: boxE b3 #[v199, avhR205, m6.iv, m6.mv] 35 :: boxE b2 #[.slice none 0 0, .slice none 0 0, .slice none 0 0, .slice none 0 0] 35 :: boxE b1 #[v] 26 :: l) zdb ?_
  refine zbn 15 [14, 13, 12, 11, 10, 9, 8, 7, 5, 4, 3, 2, 0, 1, 6] rfl rfl (by decide) ?_
  refine zcd 2 rfl ?_
  refine zbn 14 [1, 13, 12, 11, 10, 9, 8, 7, 6, 0] rfl rfl (by decide) ?_
  exact zdq (k6 + 1) (Md.mk v199 avhR205 m6.iv m6.mv (m6.ss ++ [Sg.mk kx xhR197 0]) (m6.gs ++ [As.mk (m6.ss.length : Int) ovhR205 oshR205]) m6.xs m6.ms) (v207, U6.2 ++ ([(m6.ss.length : Int)])) [bigE ps6, bigE aphR205] ⟨by omega, (((h6.out _ hkx9 (by assumption) mem_app2).asg _ (List.mem_append_right _ List.mem_cons_self) _ hoshR205 (by show (m6.ss.length : Int) ≤ ((_ : List Sg).length : Int); rw [List.length_append]; omega) (mem_less h6.plt)).avl (last_in (m := m6) .nilFunc _) (e := 1) (by simp)).up (by omega) (by omega) (by omega) (by omega) (by omega) (by omega), fun w hw => ⟨(haphR205 w (zbi hw (List.mem_cons_of_mem _ List.mem_cons_self))).1, (hp6 w (zbi hw List.mem_cons_self)).2.1.app (haphR205 w (zbi hw (List.mem_cons_of_mem _ List.mem_cons_self))).2, (hp6 w (zbi hw List.mem_cons_self)).2.2⟩⟩ (by omega) (saQ rfl) (.refl _)
 refine ntQ (zap rfl ?_)
 refine zbj (zeb ?_)
 refine zal (zba (zag (zbg 1 rfl (zaz ?_))))
 refine lkQ3 (α := Nat) (β := Md) (γ := List HP) [0, 1, 3, 4, 5, 6, 7, 33, 55, 89, 233] rfl (fun k7 m7 ps7 => (bigE ps7 :: rowE 38 3 m7.sv m7.ss.length (m7.ss.flatMap sgC) :: rowE 63 3 m7.iv m7.xs.length (m7.xs.flatMap ixC) :: rowE 94 4 m7.mv m7.ms.length (m7.ms.flatMap mmC) :: rowE 3 1 W2.1 W2.2.length (W2.2.map (Value.int .i64)) :: rowE 3 1 U6.1 U6.2.length (U6.2.map (Value.int .i64)) :: boxE b3 #[m7.sv, m7.av, m7.iv, m7.mv] 35 :: boxE b2 #[.slice none 0 0, .slice none 0 0, .slice none 0 0, .slice none 0 0] 35 :: boxE b1 #[v] 26 :: curE g a len cap :: l)) (fun k7 m7 ps7 => [(24, .int .i64 (k7 : Int))]) (fun k7 m7 ps7 => k7 ≤ W2.2.length ∧ MI D m7 U6.2 (W2.2.drop k7) 18 (13 + k7) 2 1 4 15 ∧ ∀ w, (bigE ps7).holds w → RdP w m7) (fun k7 m7 ps7 => W2.2.length - k7) 0 m6 ps6 ⟨Nat.zero_le _, h6.up (by omega) (by omega) (by omega) (by omega) (by omega) (by omega), hp6⟩ (saQ rfl) (.refl _) ?_
 intro k7 m7 ps7 hi208
 obtain ⟨hk7, h7, hp7⟩ := hi208
 refine zag (zag (reQ 2 rfl (hvQ rfl (lnQ rfl rfl rfl (zaj 4 rfl)) ?_)))
 refine zbq rfl rfl rfl rfl rfl rfl (fun h209 => ?_) (fun h209 => ?_)
 ·
  refine ntQ (zah rfl (zcv (sbQ ?_)))
  refine hc_know (p := (∀ g9 ∈ m7.gs, g9.ov.oneCell' = true) ∧ m7.sv.oneCell' = true ∧ m7.av.oneCell' = true ∧ m7.iv.oneCell' = true ∧ m7.mv.oneCell' = true) (fun w hm => ⟨fun g9 hg9 => ((hp7 w (hm.holds _ (zcj (i := 0) rfl))).2.1 g9 hg9).one, (zaj 1 rfl w hm).one, (hp7 w (hm.holds _ (zcj (i := 0) rfl))).1.one, (zaj 2 rfl w hm).one, (zaj 3 rfl w hm).one⟩) (fun ⟨hone9, ho9⟩ => ?_)
  refine zey 10 [8, 7, 6, 5, 4, 3, 2, 1, 0, 9] rfl rfl (by decide) ?_
  refine zez (l := (bigE ps7 :: rowE 38 3 m7.sv m7.ss.length (m7.ss.flatMap sgC) :: rowE 63 3 m7.iv m7.xs.length (m7.xs.flatMap ixC) :: rowE 94 4 m7.mv m7.ms.length (m7.ms.flatMap mmC) :: rowE 3 1 W2.1 W2.2.length (W2.2.map (Value.int .i64)) :: rowE 3 1 U6.1 U6.2.length (U6.2.map (Value.int .i64)) :: boxE b3 #[m7.sv, m7.av, m7.iv, m7.mv] 35 :: boxE b2 #[.slice none 0 0, .slice none 0 0, .slice none 0 0, .slice none 0 0] 35 :: boxE b1 #[v] 26 :: l)) rfl 8 [0, 1, 2, 3, 4, 5, 6, 7] (List.take 8 _) (List.drop 8 _) [[], [], [], [], [2, 3], [4], [], [0, 1, 5, 6]] [273, 274, 275, 276, 277, 278, 279, 280] (fun i_ vs_ v_ p_ => match i_ with | 0 => v_ = .pointer (some ⟨g, 0, none⟩) ∧ p_ = [] | 1 => v_ = .agg #[m7.sv, m7.av, m7.iv, m7.mv] ∧ p_ = [] | 2 => v_ = W2.1 ∧ p_ = [] | 3 => v_ = .int .i64 (k7 : Int) ∧ p_ = [] | 4 => v_ = elP W2.1 (((k7 : Int)).toNat * 1) ∧ p_ = [] | 5 => v_ = .int .i64 (W2.2.getD k7 0) ∧ p_ = [] | 6 => v_ = U6.1 ∧ p_ = [] | 7 => (∃ pm_, p_ = [pm_] ∧ (fun u_ p_ => ∃ (v' ov : Value) (os : List Oq) (ps : List HP), u_ = .agg #[m7.sv, v', m7.iv, m7.mv] ∧ p_ = bigE [curE g a len cap, bigE ps] ∧ (∀ w, (bigE ps).holds w → RdsW w v' 2 (m7.gs ++ [As.mk (W2.2.getD k7 0) ov os]).length ((m7.gs ++ [As.mk (W2.2.getD k7 0) ov os]).flatMap asC) ∧ RdsW w ov 3 os.length (os.flatMap oqC)) ∧ v'.oneCell' = true ∧ ov.oneCell' = true ∧ ExP (m7.ss.length : Int) 9 os) v_ pm_) | _ => True) [[], [], [], [], [2, 3], [4], [], [0, 1, 5, 6]] [none, none, none, none, none, none, none, some 9] [curE g a len cap] [0, 1, 2, 3, 4, 5, 6, 7] 9 (List.take_append_drop 8 _).symm (by kernel_rfl) (by kernel_rfl) (by kernel_rfl) rfl rfl ?_ ?_
  ·
   refine ⟨?_, ?_, ?_, ?_, ?_, ?_, ?_, ?_, trivial⟩
   ·
    intro vf pf hmu hR
    refine dqQ [] [] rfl (zbo (zar [0] rfl) ?_)
    exact zbt (zau rfl)
   ·
    intro vf pf hmu hR
    refine dqQ [] [] rfl (zbe (zar [5] rfl) (List.sublist_append_right _ _) ?_)
    exact zbt (zax (cs := [m7.sv, m7.av, m7.iv, m7.mv]) rfl rfl rfl rfl rfl (zat 6 rfl 0 rfl))
   ·
    intro vf pf hmu hR
    refine dqQ [] [] rfl (zbo (zar [7] rfl) ?_)
    exact zbt (zau rfl)
   ·
    intro vf pf hmu hR
    refine dqQ [] [] rfl (zbo (zar [24] rfl) ?_)
    exact zbt (zau rfl)
   ·
    intro vf pf hmu hR
    have e2 := hR 2 (by decide)
    have e3 := hR 3 (by decide)
    refine dqQ [2, 3] [2, 3] rfl (zbe (sk 275 (congrArg some e2.1) (sk 276 (congrArg some e3.1) (zai _))) (List.sublist_append_right _ _) ?_)
    exact zbt (riQ 1 rfl rfl rfl rfl (zaj 4 rfl))
   ·
    intro vf pf hmu hR
    have e4 := hR 4 (by decide)
    refine dqQ [4] [4] rfl (zbe (sk 277 (congrArg some e4.1) (zai _)) (List.sublist_append_right _ _) ?_)
    exact zbt (liQ rfl rfl rfl (zaj 4 rfl))
   ·
    intro vf pf hmu hR
    refine dqQ [] [] rfl (zbo (zar [6] rfl) ?_)
    exact zbt (zau rfl)
   intro vf pf hmu hR
   have e0 := hR 0 (by decide)
   have e1 := hR 1 (by decide)
   have e5 := hR 5 (by decide)
   have e6 := hR 6 (by decide)
   refine Or.inl ⟨rfl, ?_⟩
   show RunM _ _ _ (pf 9) (([0, 1, 5, 6] : List Nat).flatMap pf ++ _) (envOf _ vf [0, 1, 5, 6] ++ _) _ _
   rw [hmu]
   refine zda (sk 273 (congrArg some e0.1) (sk 274 (congrArg some e1.1) (sk 278 (congrArg some e5.1) (sk 279 (congrArg some e6.1) (zai _))))) (by simp only [e0.2, e1.2, e5.2, e6.2, fS] <;> rfl) ?_
   exact zdp (R := (fun u_ p_ => ∃ (v' ov : Value) (os : List Oq) (ps : List HP), u_ = .agg #[m7.sv, v', m7.iv, m7.mv] ∧ p_ = bigE [curE g a len cap, bigE ps] ∧ (∀ w, (bigE ps).holds w → RdsW w v' 2 (m7.gs ++ [As.mk (W2.2.getD k7 0) ov os]).length ((m7.gs ++ [As.mk (W2.2.getD k7 0) ov os]).flatMap asC) ∧ RdsW w ov 3 os.length (os.flatMap oqC)) ∧ v'.oneCell' = true ∧ ov.oneCell' = true ∧ ExP (m7.ss.length : Int) 9 os)) rfl rfl (fun L w hX hm => zdz g a len cap z (m7.ss.length : Int) (Md.mk m7.sv m7.av m7.iv m7.mv m7.ss m7.gs m7.xs m7.ms) (W2.2.getD k7 0) U6.1 _ _ _ _ hm hb (fun w9 h9 => (zaj (l := (bigE ps7 :: rowE 38 3 m7.sv m7.ss.length (m7.ss.flatMap sgC) :: rowE 63 3 m7.iv m7.xs.length (m7.xs.flatMap ixC) :: rowE 94 4 m7.mv m7.ms.length (m7.ms.flatMap mmC) :: rowE 3 1 W2.1 W2.2.length (W2.2.map (Value.int .i64)) :: rowE 3 1 U6.1 U6.2.length (U6.2.map (Value.int .i64)) :: boxE b3 #[m7.sv, m7.av, m7.iv, m7.mv] 35 :: boxE b2 #[.slice none 0 0, .slice none 0 0, .slice none 0 0, .slice none 0 0] 35 :: boxE b1 #[v] 26 :: l)) 5 rfl) w9 (hX w9 h9)) (fun x hx => h7.av x hx) (by have h9 := h7.na; omega) (fun w9 h9 => (hp7 w9 ((hX w9 h9).holds _ (zcj (i := 0) rfl))).1) (by have h9 := h7.ng; show m7.gs.length ≤ 1000; omega) hone9 ⟨ho9.1, ho9.2.1, ho9.2.2.1, ho9.2.2.2⟩)
  intro vf pf hmu hR
  have e7 : (∃ pm_, (pf 7) = [pm_] ∧ (fun u_ p_ => ∃ (v' ov : Value) (os : List Oq) (ps : List HP), u_ = .agg #[m7.sv, v', m7.iv, m7.mv] ∧ p_ = bigE [curE g a len cap, bigE ps] ∧ (∀ w, (bigE ps).holds w → RdsW w v' 2 (m7.gs ++ [As.mk (W2.2.getD k7 0) ov os]).length ((m7.gs ++ [As.mk (W2.2.getD k7 0) ov os]).flatMap asC) ∧ RdsW w ov 3 os.length (os.flatMap oqC)) ∧ v'.oneCell' = true ∧ ov.oneCell' = true ∧ ExP (m7.ss.length : Int) 9 os) (vf 7) pm_) := hR 7 (by decide)
  obtain ⟨p211, pE7, hR212⟩ := e7
  obtain ⟨v210, vE7⟩ : ∃ x, vf 7 = x := ⟨_, rfl⟩
  rw [vE7] at hR212
  obtain ⟨avhR212, ovhR212, oshR212, aphR212, rfl, rfl, haphR212, oavhR212, oovhR212, hoshR212⟩ := hR212
  have q0 := hR 0 (by decide)
  have q1 := hR 1 (by decide)
  have q2 := hR 2 (by decide)
  have q3 := hR 3 (by decide)
  have q4 := hR 4 (by decide)
  have q5 := hR 5 (by decide)
  have q6 := hR 6 (by decide)
  refine zdf (zci [270, 233, 89, 55, 33, 24, 7, 6, 5, 4, 3, 1, 0] _ (sk 280 (congrArg some vE7) (zai _)) rfl) (by simp only [pE7, vE7, q0.2, q1.2, q2.2, q3.2, q4.2, q5.2, q6.2, fS] <;> rfl) ?_
  simp only [List.drop_succ_cons, List.drop_zero]
  refine zbh (cs' := #[m7.sv, avhR212, m7.iv, m7.mv]) (i := 7) (off := 0) (us := [m7.sv, avhR212, m7.iv, m7.mv]) rfl rfl rfl rfl rfl rfl rfl (zab ho9.1 (zab oavhR212 (zab ho9.2.2.1 (zab ho9.2.2.2 zbc)))) rfl rfl rfl (zcu (zdh (reQ 1 rfl (hvQ rfl (vaQ rfl rfl rfl) (enQ 1 rfl ?_)))))
  have hpd9 := pendR hW2 (show k7 < W2.2.length by omega)
  refine zbn 10 [9, 8, 7, 6, 5, 4, 3, 2, 1, 0] rfl rfl (by decide) ?_
  refine zco (curE g a len cap :: bigE aphR212 :: bigE ps7 :: rowE 38 3 m7.sv m7.ss.length (m7.ss.flatMap sgC) :: rowE 63 3 m7.iv m7.xs.length (m7.xs.flatMap ixC) :: rowE 94 4 m7.mv m7.ms.length (m7.ms.flatMap mmC) :: rowE 3 1 W2.1 W2.2.length (W2.2.map (Value.int .i64)) :: rowE 3 1 U6.1 U6.2.length (U6.2.map (Value.int .i64)) :: boxE b3 #[m7.sv, avhR212, m7.iv, m7.mv] 35 :: boxE b2 #[.slice none 0 0, .slice none 0 0, .slice none 0 0, .slice none 0 0] 35 :: boxE b1 #[v] 26 :: l) zdb ?_
  refine zbn 11 [10, 9, 8, 7, 6, 5, 4, 3, 0, 1, 2] rfl rfl (by decide) ?_
  refine zcd 2 rfl ?_
  refine zbn 10 [1, 9, 8, 7, 6, 5, 4, 3, 2, 0] rfl rfl (by decide) ?_
  exact zcq (k7 + 1) (Md.mk m7.sv avhR212 m7.iv m7.mv m7.ss (m7.gs ++ [As.mk (W2.2.getD k7 0) ovhR212 oshR212]) m7.xs m7.ms) [bigE ps7, bigE aphR212] ⟨by omega, (h7.asg _ hpd9.1 _ hoshR212 (by show (m7.ss.length : Int) ≤ (m7.ss.length : Int); omega) hpd9.2).up (by omega) (by omega) (by omega) (by omega) (by omega) (by omega), fun w hw => ⟨(haphR212 w (zbi hw (List.mem_cons_of_mem _ List.mem_cons_self))).1, (hp7 w (zbi hw List.mem_cons_self)).2.1.app (haphR212 w (zbi hw (List.mem_cons_of_mem _ List.mem_cons_self))).2, (hp7 w (zbi hw List.mem_cons_self)).2.2⟩⟩ (by omega) (saQ rfl) (.refl _)
 refine ntQ (zap rfl ?_)
 refine zbj (zeb ?_)
 refine zal (zba (srQ ?_))
 refine zgb (p := (∀ g9 ∈ m7.gs, g9.ov.oneCell' = true) ∧ m7.sv.oneCell' = true ∧ m7.av.oneCell' = true ∧ m7.iv.oneCell' = true ∧ m7.mv.oneCell' = true) (fun w hm => ⟨fun g9 hg9 => ((hp7 w (hm.holds _ (zcj (i := 0) rfl))).2.1 g9 hg9).one, (zaj 1 rfl w hm).one, (hp7 w (hm.holds _ (zcj (i := 0) rfl))).1.one, (zaj 2 rfl w hm).one, (zaj 3 rfl w hm).one⟩) (fun ⟨hone9, ho9⟩ => ?_)
 refine hvQ rfl (zax (cs := [m7.sv, m7.av, m7.iv, m7.mv]) rfl rfl rfl rfl rfl (zat 6 rfl 0 rfl)) (zbh (cs' := #[m7.sv, m7.av, m7.iv, m7.mv]) (i := 7) (off := 0) (us := [m7.sv, m7.av, m7.iv, m7.mv]) rfl rfl rfl rfl rfl rfl rfl (zab ho9.1 (zab ho9.2.1 (zab ho9.2.2.1 (zab ho9.2.2.2 zbc)))) rfl rfl rfl ?_)
 refine ntQ ?_
 refine zao (zft (p := m7.sv.oneCell' = true ∧ m7.av.oneCell' = true ∧ m7.iv.oneCell' = true ∧ m7.mv.oneCell' = true) (fun w hm => ⟨(zaj 1 rfl w hm).one, (hp7 w (hm.holds _ (zcj (i := 0) rfl))).1.one, (zaj 2 rfl w hm).one, (zaj 3 rfl w hm).one⟩) (fun ho9 => ?_))
 refine zbn 10 [9, 8, 7, 6, 5, 4, 0, 3, 2, 1] rfl rfl (by decide) ?_
 refine zcd 4 rfl ?_
 refine zbn 7 [5, 4, 3, 2, 1, 0, 6] rfl rfl (by decide) ?_
 refine zcd 2 rfl ?_
 exact zcx (rs := [.cell 4 35]) (vs := [.agg #[m7.sv, m7.av, m7.iv, m7.mv]]) rfl ⟨⟨b2, 0, [m7.sv, m7.av, m7.iv, m7.mv], rfl, rfl, by kernel_rfl, by kernel_rfl, zat 4 rfl 0 rfl⟩, trivial⟩ rfl (fun w hm => ⟨_, bigE [curE g a len cap, bigE [rowE 38 3 m7.sv m7.ss.length (m7.ss.flatMap sgC), rowE 63 3 m7.iv m7.xs.length (m7.xs.flatMap ixC), rowE 94 4 m7.mv m7.ms.length (m7.ms.flatMap mmC), bigE ps7]], rfl, ⟨m7, [rowE 38 3 m7.sv m7.ss.length (m7.ss.flatMap sgC), rowE 63 3 m7.iv m7.xs.length (m7.xs.flatMap ixC), rowE 94 4 m7.mv m7.ms.length (m7.ms.flatMap mmC), bigE ps7], rfl, rfl, fun w hw => ⟨zdk (zbi hw List.mem_cons_self), (hp7 w (zbi hw (List.mem_cons_of_mem _ (List.mem_cons_of_mem _ (List.mem_cons_of_mem _ List.mem_cons_self))))).1, (hp7 w (zbi hw (List.mem_cons_of_mem _ (List.mem_cons_of_mem _ (List.mem_cons_of_mem _ List.mem_cons_self))))).2.1, zdk (zbi hw (List.mem_cons_of_mem _ List.mem_cons_self)), (hp7 w (zbi hw (List.mem_cons_of_mem _ (List.mem_cons_of_mem _ (List.mem_cons_of_mem _ List.mem_cons_self))))).2.2, zdk (zbi hw (List.mem_cons_of_mem _ (List.mem_cons_of_mem _ List.mem_cons_self)))⟩, ho9, by have h9 := h7; rw [show k7 = W2.2.length by omega, List.drop_length] at h9; exact h9.fin (by omega) (by omega) (by omega) (by omega) (by omega)⟩, hm.sub (.cons_cons _ (.cons _ (.cons _ (.cons _ (.cons _ (.cons _ (.refl _)))))))⟩)
end Go.Proofs.Ytodiifjigjnalaa
