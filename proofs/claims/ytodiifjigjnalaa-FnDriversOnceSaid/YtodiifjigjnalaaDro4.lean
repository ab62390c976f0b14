/- Texts of the law FnDriversOnce, part 4: what it uses. -/
import Derived.Test.YtodiifjigjnalaaDro3
set_option linter.unusedVariables false
set_option linter.unusedSimpArgs false
set_option maxHeartbeats 4000000
set_option maxRecDepth 100000
namespace Go.Proofs.Ytodiifjigjnalaa
open Go.RowKit Go.ChangeShapes
open Go.RowKit
theorem InstanceOf_ret (D : List Md) (k : Nat) (v : Value) (w : World) (hd : RdsDs w v D) (hk : k < D.length) (hdes : DesP D) :
   Calls Try.prog 13 #[.agg #[v], .int .i64 (k : Int)] w (Ret w (fun u_ p_ => ∃ (E : List Md) (v' : Value) (ps : List HP), u_ = .tuple #[.agg #[v'], .bool true] ∧ p_ = [rowE 35 4 v' E.length (E.flatMap mdC), bigE ps] ∧ E.length = k + 1 ∧ (∀ q, q ≤ k → EqM (E.getD q md0) (D.getD q md0)) ∧ (∀ w, (bigE ps).holds w → ∀ m ∈ E, RdsMd w m) ∧ v'.oneCell' = true)) := by
 have hd9 := sml hd.row
 have hdl4 := hdes.1.2
 refine zcf (N := 41) (args := [.agg #[v], .int .i64 (k : Int)]) Try.func13 rfl rfl (srQ ?_)
 refine zdv rfl (zdp rfl rfl) ?_
 intro b1
 refine zdv rfl (zbj (z := .agg #[.slice none 0 0]) rfl rfl) ?_
 intro b2
 refine zba 1 rfl (ssrQ (hvQ rfl (zaw (cs := [v]) rfl rfl rfl rfl rfl (zau 1 rfl 0 rfl)) ?_))
 refine zdw rfl (zar rfl rfl (fun w hm => zav (by have h9 := specDesignOk_ans D v w (hd.below hm.bel); rw [zcz hdes] at h9; exact h9))) (zak 3 rfl ?_)
 refine zcb rfl rfl rfl rfl rfl rfl (fun h3 => ?_) (fun h3 => ?_)
 ·
  refine zba 8 rfl (zaj rfl (srQ (hvQ rfl (zax (cs := #[.slice none 0 0]) rfl rfl rfl) ?_)))
  refine zbn (cs' := #[.slice none 0 0]) (i := 0) (off := 0) (us := [.slice none 0 0]) rfl rfl rfl rfl rfl rfl rfl (zad rfl zbg) rfl rfl rfl (zba 1 rfl ?_)
  refine zal (zae ?_)
  exfalso; omega
 refine zak 3 rfl (hvQ rfl (fdQ 0 rfl rfl rfl) (hvQ rfl (zac rfl rfl rfl (zaa 1 rfl rfl)) (hvQ rfl (lnQ rfl rfl rfl (zag hd.row)) ?_)))
 refine hl_geq rfl rfl rfl rfl rfl rfl (fun h4 => ?_) (fun h4 => ?_)
 ·
  refine zba 1 rfl (zaj rfl (srQ (hvQ rfl (zax (cs := #[.slice none 0 0]) rfl rfl rfl) ?_)))
  refine zbn (cs' := #[.slice none 0 0]) (i := 0) (off := 0) (us := [.slice none 0 0]) rfl rfl rfl rfl rfl rfl rfl (zad rfl zbg) rfl rfl rfl (zba 1 rfl ?_)
  refine zal (zae ?_)
  exfalso; omega
 refine zba 1 rfl (zap rfl (zdi (srQ (hvQ rfl (zax (cs := #[.slice none 0 0]) rfl rfl rfl) ?_))))
 refine zdv rfl (zbj (z := .agg #[.slice none 0 0]) rfl rfl) ?_
 intro b5
 refine zbn (cs' := #[.slice none 0 0]) (i := 0) (off := 0) (us := [.slice none 0 0]) rfl rfl rfl rfl rfl rfl rfl (zad rfl zbg) rfl rfl rfl (ntQ (zah (zbk 1 rfl (zbh ?_))))
 refine zej [bigE [], rowE 35 4 (.slice none 0 0) (([] : List Md).length) (([] : List Md).flatMap mdC), boxE b5 #[.slice none 0 0] 26, boxE b2 #[.slice none 0 0] 26, boxE b1 #[v] 26] (fun w hm => Mem.big (ps := []) (hm.nilRow 35 4)) ?_
 refine lkQ4 (α := Nat) (β := List Md) (γ := Value) (δ := List HP) [0, 1, 2, 4, 5, 6, 21] rfl (fun i E v' ps => [bigE ps, rowE 35 4 v' E.length (E.flatMap mdC), boxE b5 #[v'] 26, boxE b2 #[.slice none 0 0] 26, boxE b1 #[v] 26]) (fun i E v' ps => [(7, .int .i64 (i : Int))]) (fun i E v' ps => i ≤ k + 1 ∧ E.length = i ∧ (∀ q, q < i → EqM (E.getD q md0) (D.getD q md0)) ∧ ∀ w, (bigE ps).holds w → ∀ m ∈ E, RdsMd w m) (fun i E v' ps => k + 1 - i) 0 [] _ [] ⟨by omega, rfl, fun q hq => absurd hq (by omega), fun w _ m hm => (by cases hm)⟩ (saQ rfl) (pfQ rfl) ?_
 intro i E v' ps hi6
 obtain ⟨hi, hel, heq, hp⟩ := hi6
 refine zah (zah (reQ 2 rfl ?_))
 refine hl_leq rfl rfl rfl rfl rfl rfl (fun h7 => ?_) (fun h7 => ?_)
 ·
  refine ntQ (zaj rfl (zdi (sbQ ?_)))
  refine hc_draw rfl 9 [0, 1, 2, 3, 4, 5, 6, 7, 8] (List.take 9 _) (List.drop 9 _) [[], [0], [], [2], [], [3, 4], [5], [6], [7]] [29, 30, 31, 32, 33, 34, 35, 36, 37] (fun i_ vs_ v_ p_ => match i_ with | 0 => v_ = .pointer (some ⟨b5, 0 + 0, none⟩) ∧ p_ = [] | 1 => v_ = v' ∧ p_ = [] | 2 => v_ = .pointer (some ⟨b1, 0 + 0, none⟩) ∧ p_ = [] | 3 => v_ = v ∧ p_ = [] | 4 => v_ = .int .i64 (i : Int) ∧ p_ = [] | 5 => v_ = elP v (((i : Int)).toNat * 4) ∧ p_ = [] | 6 => v_ = .agg #[(D.getD i md0).sv, (D.getD i md0).av, (D.getD i md0).iv, (D.getD i md0).mv] ∧ p_ = [] | 7 => (fun u_ p_ => ∃ (m' : Md) (ps : List HP), u_ = m'.agg ∧ p_ = [bigE ps] ∧ (∀ w, (bigE ps).holds w → RdsMd w m') ∧ MdOne m' ∧ EqM m' (D.getD i md0)) v_ p_ | 8 => IsRow 35 4 1 ([(agK 0 (List.getD vs_ 0 undef)), (agK 1 (List.getD vs_ 0 undef)), (agK 2 (List.getD vs_ 0 undef)), (agK 3 (List.getD vs_ 0 undef))]) v_ p_ | _ => True) (List.take_append_drop 9 _).symm (by kernel_rfl) (by kernel_rfl) rfl rfl ?_ ?_
  ·
   refine ⟨?_, ?_, ?_, ?_, ?_, ?_, ?_, ?_, ?_, trivial⟩
   ·
    intro vf pf hR
    exact ovQ rfl (zao [6] rfl) (zbq (fdQ 0 rfl rfl rfl))
   ·
    intro vf pf hR
    have e0 := hR 0 (by decide)
    exact olQ rfl (sk 29 (congrArg some e0.1) (zaf _)) (zbq (zac rfl rfl rfl (zaa 2 rfl rfl)))
   ·
    intro vf pf hR
    exact ovQ rfl (zao [2] rfl) (zbq (fdQ 0 rfl rfl rfl))
   ·
    intro vf pf hR
    have e2 := hR 2 (by decide)
    exact olQ rfl (sk 31 (congrArg some e2.1) (zaf _)) (zbq (zac rfl rfl rfl (zaa 4 rfl rfl)))
   ·
    intro vf pf hR
    exact ovQ rfl (zao [7] rfl) (zbq (zay rfl))
   ·
    intro vf pf hR
    have e3 := hR 3 (by decide)
    have e4 := hR 4 (by decide)
    exact olQ rfl (sk 32 (congrArg some e3.1) (sk 33 (congrArg some e4.1) (zaf _))) (zbq (riQ 4 rfl rfl rfl rfl (zag hd.row)))
   ·
    intro vf pf hR
    have e5 := hR 5 (by decide)
    exact olQ rfl (sk 34 (congrArg some e5.1) (zaf _)) (zbq (zbi (us := [(D.getD i md0).sv, (D.getD i md0).av, (D.getD i md0).iv, (D.getD i md0).mv]) rfl rfl rfl rfl (zag hd.row) (by omega) rfl (zca mdC 4 (fun _ => rfl) D md0 (show i < _ by omega) rfl)))
   ·
    intro vf pf hR
    have e6 := hR 6 (by decide)
    exact olQ rfl (sk 35 (congrArg some e6.1) (zaf _)) (zar rfl rfl (fun w hm => l06Copy_ret (D.getD i md0) w ((hd.at (k := i) (by omega)).below hm.bel) ((hdes.2 i (by omega)).cnt.md i (by omega)) (fun g9 hg9 => (gs_ok (hdes.2 i (by omega)) hg9).2.len) (fun x9 hx9 => ps_ok (hdes.2 i (by omega)) hx9)))
   intro vf pf hR
   have e7 : (fun u_ p_ => ∃ (m' : Md) (ps : List HP), u_ = m'.agg ∧ p_ = [bigE ps] ∧ (∀ w, (bigE ps).holds w → RdsMd w m') ∧ MdOne m' ∧ EqM m' (D.getD i md0)) (vf 7) (pf 7) := hR 7 (by decide)
   obtain ⟨v8, vE7⟩ : ∃ x, vf 7 = x := ⟨_, rfl⟩
   obtain ⟨p9, pE7⟩ : ∃ x, pf 7 = x := ⟨_, rfl⟩
   have hR10 := e7
   rw [vE7, pE7] at hR10
   obtain ⟨mhR10, mphR10, rfl, rfl, hmphR10, hmohR10, heqhR10⟩ := hR10
   refine Or.inl ⟨rfl, ?_⟩
   exact zcd (sk 36 (congrArg some vE7) (zaf _)) (by simp only [pE7, vE7, fS] <;> rfl) (zcc (zai (z := .agg #[.slice none 0 0, .slice none 0 0, .slice none 0 0, .slice none 0 0]) (s := 4) (cs := [mhR10.sv, mhR10.av, mhR10.iv, mhR10.mv]) rfl Try.underlying24 rfl (by decide) rfl (by kernel_rfl) rfl) (fun v_ p_ h => by show IsRow 35 4 1 ([(agK 0 (vf 7)), (agK 1 (vf 7)), (agK 2 (vf 7)), (agK 3 (vf 7))]) v_ p_; rw [vE7]; exact h))
  intro vf pf hR
  have e1 := hR 1 (by decide)
  have e7 : (fun u_ p_ => ∃ (m' : Md) (ps : List HP), u_ = m'.agg ∧ p_ = [bigE ps] ∧ (∀ w, (bigE ps).holds w → RdsMd w m') ∧ MdOne m' ∧ EqM m' (D.getD i md0)) (vf 7) (pf 7) := hR 7 (by decide)
  obtain ⟨v8, vE7⟩ : ∃ x, vf 7 = x := ⟨_, rfl⟩
  obtain ⟨p9, pE7⟩ : ∃ x, pf 7 = x := ⟨_, rfl⟩
  have hR10 := e7
  rw [vE7, pE7] at hR10
  obtain ⟨mhR10, mphR10, rfl, rfl, hmphR10, hmohR10, heqhR10⟩ := hR10
  have e8 : IsRow 35 4 1 ([(agK 0 (vf 7)), (agK 1 (vf 7)), (agK 2 (vf 7)), (agK 3 (vf 7))]) (vf 8) (pf 8) := hR 8 (by decide)
  rw [vE7] at e8
  obtain ⟨g11, vE8, pE8⟩ := e8
  have q0 := hR 0 (by decide)
  have q1 := hR 1 (by decide)
  have q2 := hR 2 (by decide)
  have q3 := hR 3 (by decide)
  have q4 := hR 4 (by decide)
  have q5 := hR 5 (by decide)
  have q6 := hR 6 (by decide)
  refine zcr (zcg [26, 21, 7, 6, 5, 4, 2, 1, 0] _ (sk 30 (congrArg some e1.1) (sk 37 (congrArg some vE8) (zaf _))) rfl) (by simp only [pE7, vE7, pE8, vE8, q0.2, q1.2, q2.2, q3.2, q4.2, q5.2, q6.2, fS] <;> rfl) ?_
  simp only [List.drop_succ_cons, List.drop_zero]
  refine zct (i := 3) (z := .agg #[.slice none 0 0, .slice none 0 0, .slice none 0 0, .slice none 0 0]) (bytes := 96) rfl rfl rfl rfl Try.underlying24 (by kernel_rfl) rfl rfl rfl rfl (zam 1 rfl) (zad hmohR10.1 (zad hmohR10.2.1 (zad hmohR10.2.2.1 (zad hmohR10.2.2.2 zbg)))) (by first | omega | (simp only [List.length_append, List.length_cons, List.length_nil]; omega)) (zcj E [mhR10]) (zdc mdC E mhR10 _ rfl) (fun _ => rfl) ?_
  intro v12
  refine hvQ rfl (fdQ 0 rfl rfl rfl) (zdb (i := 3) rfl (fun ho13 => ?_))
  refine zec (i := 4) (cs' := #[v12]) rfl rfl rfl rfl rfl rfl ho13 rfl rfl rfl rfl (zcx (zdq (reQ 1 rfl (hvQ rfl (vaQ rfl rfl rfl) (enQ 1 rfl ?_)))))
  refine zbd 7 [6, 5, 4, 3, 0, 2] rfl rfl (by decide) ?_
  refine zbu 2 rfl ?_
  exact zda (i + 1) (E ++ [mhR10]) v12 [bigE ps, bigE mphR10] ⟨by omega, by rw [List.length_append, List.length_singleton]; omega, fun q9 hq9 => by by_cases e9 : q9 < E.length; (rw [zew e9]; exact heq q9 (by omega)); (obtain rfl : q9 = E.length := by omega); (rw [gD_last, hel]; exact heqhR10), fun w hw m9 hm9 => (List.mem_append.1 hm9).elim (fun h8 => hp w (zas hw List.mem_cons_self) m9 h8) (fun h8 => by rw [List.mem_singleton] at h8; subst h8; exact hmphR10 w (zas hw (List.mem_cons_of_mem _ List.mem_cons_self)))⟩ (by omega) (saQ rfl) (pfQ rfl)
 refine ntQ (zap rfl ?_)
 refine zbv (zep ?_)
 refine zan (zbf (srQ (hvQ rfl (zaw (cs := [v']) rfl rfl rfl rfl rfl (zau 2 rfl 0 rfl)) ?_)))
 refine zdb (i := 1) rfl (fun ho14 => ?_)
 refine zbn (cs' := #[v']) (i := 3) (off := 0) (us := [v']) rfl rfl rfl rfl rfl rfl rfl (zad ho14 zbg) rfl rfl rfl (zba 1 rfl ?_)
 refine zal (hq_know (fun w hm => (zam 1 rfl w hm).one) (fun ho9 => ?_))
 refine zbd 5 [4, 3, 2, 0, 1] rfl rfl (by decide) ?_
 exact hq_retM (rs := [.cell 4 26, .tmp 5]) (vs := [.agg #[v'], .bool true]) (post := [rowE 35 4 v' E.length (E.flatMap mdC), bigE ps]) rfl ⟨⟨b2, 0, [v'], rfl, rfl, by kernel_rfl, by kernel_rfl, zau 3 rfl 0 rfl⟩, rfl, trivial⟩ rfl (slQ [0, 0] rfl) ⟨E, v', ps, rfl, rfl, by omega, fun q hq => heq q (by omega), hp, ho9⟩
section
variable {P : Program} {N : Nat} {w0 : World} {l l' : List HP} {env env' : List (Nat × Value)} {Q : Post} {o : Oper}
theorem hl_callMF {ops : Array Oper} {rest : List Oper} {d : Nat} {f : FuncId} {x : Operand} {xs : Array Operand} {ats : Array TypeId} {vs cs : List Value} {p : HP} {R : Value → HP → Prop} {ty : TypeId} {pos : String} {af : Array Edge} {gd : Option (Nat × Bool)} (i : Nat) (hN : Nat.blt d N = true) (hw : want ops env gd = some true)
    (hgo : goesB P f = true) (hx : ev env x = some (.func (.func f) #[] cs.toArray)) (hvs : evs env xs.toList = some vs) (hi : l[i]? = some p)
    (hc : ∀ L w, (∀ w, Mem w0 L w → Mem w0 (l.eraseIdx i) w) → Mem w0 (p :: L) w → Calls P f (vs ++ cs).toArray w fun e w' => ∃ v p', e = .returned v ∧ R v p' ∧ Mem w0 (p' :: L) w') (k : ∀ v p', R v p' → HL P N ops w0 (l.set i p') ((d, v) :: env) rest Q) : HL P N ops w0 l env ({ dst := some d, op := .call { callee := .value x, args := xs, argTypes := ats }, type := ty, pos := pos, after := af, guard := gd } :: rest) Q := fun a w st => wpList_step fun K hK => by
  have h1 := zey l i p hi
  have hil : i < l.length := (List.getElem?_eq_some_iff.1 hi).1
  rw [if_pos (st.wanted hw)]
  unfold Oper.wp
  have h3 := evs_map st _ _ hvs
  have e1 : xs.map a.eval = vs.toArray := by apply Array.toList_inj.1; simpa using h3
  have h2 : (execOp a.eval { dst := some d, op := .call { callee := .value x, args := xs, argTypes := ats }, type := ty, pos := pos, after := af, guard := gd }).run P w = (callFunc f (vs ++ cs).toArray).run P w := by
    simp [execOp, resolve, Deferred.ofValue, invoke, st.eval hx, e1]
  rw [h2, run_go hgo, Oper.upon_enter]
  refine (hc (l.eraseIdx i) w (fun w h => h) (st.mem.perm h1)).mono fun e w' h => ?_
  obtain ⟨v, p', rfl, hR, hm'⟩ := h
  have h4 := zey (l.set i p') i p' (List.getElem?_set_self hil)
  rw [List.eraseIdx_set_eq] at h4
  exact hK _ _ (k v p' hR _ _ (st.put hN (hm'.perm h4.symm)))
end
theorem implArity_ans (k : Int) (w : World)  :
   Calls Try.prog 112 #[.int .i64 k] w (Ans w (.int .i64 (arI k))) := by
 refine zcf (N := 15) (args := [.int .i64 k]) Try.func112 rfl rfl (zbk 1 rfl (sbQ (zah (reQ 1 rfl ?_))))
 refine zdw rfl (zar rfl rfl (fun w hm => zav (zdm (zbt _ _ _ w)))) (zbm (fun h1 => ?_) (fun h1 => ?_))
 ·
  obtain ⟨h1a, h1b⟩ := (zco _ _ _).1 h1
  refine zba 1 rfl (zaj rfl (zbk 1 rfl ?_))
  refine zal (zab ?_)
  exact zae (zaq rfl rfl (congrArg (Value.int .i64) (by unfold arI; (repeat' split) <;> first | rfl | (exfalso; omega))))
 have h1a := zck h1
 refine zba 1 rfl (zap rfl (zah (reQ 1 rfl ?_)))
 refine zby rfl rfl rfl rfl rfl rfl (fun h2 => ?_) (fun h2 => ?_)
 ·
  refine zba 1 rfl (zaj rfl (zbk 1 rfl ?_))
  refine zal (zab ?_)
  exact zae (zaq rfl rfl (congrArg (Value.int .i64) (by unfold arI; (repeat' split) <;> first | rfl | (exfalso; omega))))
 refine zba 1 rfl (zap rfl (zah (reQ 1 rfl ?_)))
 refine zdw rfl (zar rfl rfl (fun w hm => zav (zdm (zbt _ _ _ w)))) (zbm (fun h3 => ?_) (fun h3 => ?_))
 ·
  obtain ⟨h3a, h3b⟩ := (zco _ _ _).1 h3
  refine zba 1 rfl (zaj rfl (zbk 1 rfl ?_))
  refine zal (zab ?_)
  exact zae (zaq rfl rfl (congrArg (Value.int .i64) (by unfold arI; (repeat' split) <;> first | rfl | (exfalso; omega))))
 have h3a := zck h3
 refine zba 1 rfl (zap rfl (zah (reQ 1 rfl ?_)))
 refine zby rfl rfl rfl rfl rfl rfl (fun h4 => ?_) (fun h4 => ?_)
 ·
  refine zba 1 rfl (zaj rfl (zbk 1 rfl ?_))
  refine zal (zab ?_)
  exact zae (zaq rfl rfl (congrArg (Value.int .i64) (by unfold arI; (repeat' split) <;> first | rfl | (exfalso; omega))))
 refine zba 1 rfl (fsQ rfl (zdq (zbk 1 rfl ?_)))
 exact zal (zaq rfl rfl (congrArg (Value.int .i64) (by unfold arI; (repeat' split) <;> first | rfl | (exfalso; omega))))
theorem opOk_ans (o : Oq) (n : Int) (w : World)  :
   Calls Try.prog 111 #[.agg #[.int .i64 o.k, .int .i64 o.a, .int .i64 o.b], .int .i64 n] w (Ans w (.bool (pB (OqP n o)))) := by
 refine zcf (N := 67) (args := [.agg #[.int .i64 o.k, .int .i64 o.a, .int .i64 o.b], .int .i64 n]) Try.func111 rfl rfl (srQ ?_)
 refine zdv rfl (zdp rfl rfl) ?_
 intro b1
 refine zba 1 rfl (sbQ (srQ (hvQ rfl (fdQ 0 rfl rfl rfl) (hvQ rfl (zac rfl rfl rfl (zaa 0 rfl rfl)) ?_))))
 refine zby rfl rfl rfl rfl rfl rfl (fun h2 => ?_) (fun h2 => ?_)
 ·
  refine zba 1 rfl (zaj rfl (srQ (hvQ rfl (fdQ 1 rfl rfl rfl) (hvQ rfl (zac rfl rfl rfl (zaa 0 rfl rfl)) ?_))))
  refine zdw rfl (zar rfl rfl (fun w hm => zav (zdm (zbt _ _ _ w)))) (zbm (fun h3 => ?_) (fun h3 => ?_))
  ·
   obtain ⟨h3a, h3b⟩ := (zco _ _ _).1 h3
   refine zak 1 rfl (hvQ rfl (fdQ 2 rfl rfl rfl) (hvQ rfl (zac rfl rfl rfl (zaa 0 rfl rfl)) ?_))
   refine zby rfl rfl rfl rfl rfl rfl (fun h4 => ?_) (fun h4 => ?_)
   ·
    refine zba 2 rfl ?_
    refine zal (zab ?_)
    exact zae (zaq rfl rfl (congrArg _ (zcz (by first | exact .inl ⟨by omega, ⟨by omega, by omega⟩, by omega⟩ | exact .inr (.inl ⟨by omega, ⟨by omega, by omega⟩, by omega⟩) | exact .inr (.inr (.inl ⟨by omega, ⟨by omega, by omega⟩, by omega, by omega⟩)) | exact .inr (.inr (.inr ⟨by omega, by omega, by omega, by omega, by omega, by omega⟩)))).symm))
   refine zba 2 rfl ?_
   refine zal (zab ?_)
   exact zae (zaq rfl rfl (congrArg _ (zbx (fun hp => by first | (rcases hp with ⟨p1, p2, p3⟩ | ⟨p1, p2, p3⟩ | ⟨p1, p2, p3⟩ | ⟨p1, p2, p3, p4, p5, p6⟩ <;> omega))).symm))
  have h3a := zck h3
  refine zba 6 rfl ?_
  refine zal (zab ?_)
  exact zae (zaq rfl rfl (congrArg _ (zbx (fun hp => by first | (rcases hp with ⟨p1, p2, p3⟩ | ⟨p1, p2, p3⟩ | ⟨p1, p2, p3⟩ | ⟨p1, p2, p3, p4, p5, p6⟩ <;> omega))).symm))
 refine zba 1 rfl (zap rfl (srQ (hvQ rfl (fdQ 0 rfl rfl rfl) (hvQ rfl (zac rfl rfl rfl (zaa 0 rfl rfl)) ?_))))
 refine zby rfl rfl rfl rfl rfl rfl (fun h5 => ?_) (fun h5 => ?_)
 ·
  refine zba 1 rfl (zaj rfl (srQ (hvQ rfl (fdQ 1 rfl rfl rfl) (hvQ rfl (zac rfl rfl rfl (zaa 0 rfl rfl)) ?_))))
  refine hl_geq rfl rfl rfl rfl rfl rfl (fun h6 => ?_) (fun h6 => ?_)
  ·
   refine zak 1 rfl (hvQ rfl (fdQ 1 rfl rfl rfl) (hvQ rfl (zac rfl rfl rfl (zaa 0 rfl rfl)) (zak 1 rfl ?_)))
   refine zcb rfl rfl rfl rfl rfl rfl (fun h7 => ?_) (fun h7 => ?_)
   ·
    refine zak 2 rfl (hvQ rfl (fdQ 2 rfl rfl rfl) (hvQ rfl (zac rfl rfl rfl (zaa 0 rfl rfl)) ?_))
    refine zby rfl rfl rfl rfl rfl rfl (fun h8 => ?_) (fun h8 => ?_)
    ·
     refine zba 2 rfl ?_
     refine zal (zab ?_)
     exact zae (zaq rfl rfl (congrArg _ (zcz (by first | exact .inl ⟨by omega, ⟨by omega, by omega⟩, by omega⟩ | exact .inr (.inl ⟨by omega, ⟨by omega, by omega⟩, by omega⟩) | exact .inr (.inr (.inl ⟨by omega, ⟨by omega, by omega⟩, by omega, by omega⟩)) | exact .inr (.inr (.inr ⟨by omega, by omega, by omega, by omega, by omega, by omega⟩)))).symm))
    refine zba 2 rfl ?_
    refine zal (zab ?_)
    exact zae (zaq rfl rfl (congrArg _ (zbx (fun hp => by first | (rcases hp with ⟨p1, p2, p3⟩ | ⟨p1, p2, p3⟩ | ⟨p1, p2, p3⟩ | ⟨p1, p2, p3, p4, p5, p6⟩ <;> omega))).symm))
   refine zba 7 rfl ?_
   refine zal (zab ?_)
   exact zae (zaq rfl rfl (congrArg _ (zbx (fun hp => by first | (rcases hp with ⟨p1, p2, p3⟩ | ⟨p1, p2, p3⟩ | ⟨p1, p2, p3⟩ | ⟨p1, p2, p3, p4, p5, p6⟩ <;> omega))).symm))
  refine zba 12 rfl ?_
  refine zal (zab ?_)
  exact zae (zaq rfl rfl (congrArg _ (zbx (fun hp => by first | (rcases hp with ⟨p1, p2, p3⟩ | ⟨p1, p2, p3⟩ | ⟨p1, p2, p3⟩ | ⟨p1, p2, p3, p4, p5, p6⟩ <;> omega))).symm))
 refine zba 1 rfl (zap rfl (srQ (hvQ rfl (fdQ 0 rfl rfl rfl) (hvQ rfl (zac rfl rfl rfl (zaa 0 rfl rfl)) ?_))))
 refine zby rfl rfl rfl rfl rfl rfl (fun h9 => ?_) (fun h9 => ?_)
 ·
  refine zba 1 rfl (zaj rfl (srQ (hvQ rfl (fdQ 1 rfl rfl rfl) (hvQ rfl (zac rfl rfl rfl (zaa 0 rfl rfl)) ?_))))
  refine hl_geq rfl rfl rfl rfl rfl rfl (fun h10 => ?_) (fun h10 => ?_)
  ·
   refine zak 1 rfl (hvQ rfl (fdQ 1 rfl rfl rfl) (hvQ rfl (zac rfl rfl rfl (zaa 0 rfl rfl)) (zak 1 rfl ?_)))
   refine zcb rfl rfl rfl rfl rfl rfl (fun h11 => ?_) (fun h11 => ?_)
   ·
    refine zak 2 rfl (hvQ rfl (fdQ 2 rfl rfl rfl) (hvQ rfl (zac rfl rfl rfl (zaa 0 rfl rfl)) ?_))
    refine zdw rfl (zar rfl rfl (fun w hm => zav (zdm (zbt _ _ _ w)))) (zbm (fun h12 => ?_) (fun h12 => ?_))
    ·
     obtain ⟨h12a, h12b⟩ := (zco _ _ _).1 h12
     refine zba 2 rfl ?_
     refine zal (zab ?_)
     exact zae (zaq rfl rfl (congrArg _ (zcz (by first | exact .inl ⟨by omega, ⟨by omega, by omega⟩, by omega⟩ | exact .inr (.inl ⟨by omega, ⟨by omega, by omega⟩, by omega⟩) | exact .inr (.inr (.inl ⟨by omega, ⟨by omega, by omega⟩, by omega, by omega⟩)) | exact .inr (.inr (.inr ⟨by omega, by omega, by omega, by omega, by omega, by omega⟩)))).symm))
    have h12a := zck h12
    refine zba 2 rfl ?_
    refine zal (zab ?_)
    exact zae (zaq rfl rfl (congrArg _ (zbx (fun hp => by first | (rcases hp with ⟨p1, p2, p3⟩ | ⟨p1, p2, p3⟩ | ⟨p1, p2, p3⟩ | ⟨p1, p2, p3, p4, p5, p6⟩ <;> omega))).symm))
   refine zba 7 rfl ?_
   refine zal (zab ?_)
   exact zae (zaq rfl rfl (congrArg _ (zbx (fun hp => by first | (rcases hp with ⟨p1, p2, p3⟩ | ⟨p1, p2, p3⟩ | ⟨p1, p2, p3⟩ | ⟨p1, p2, p3, p4, p5, p6⟩ <;> omega))).symm))
  refine zba 12 rfl ?_
  refine zal (zab ?_)
  exact zae (zaq rfl rfl (congrArg _ (zbx (fun hp => by first | (rcases hp with ⟨p1, p2, p3⟩ | ⟨p1, p2, p3⟩ | ⟨p1, p2, p3⟩ | ⟨p1, p2, p3, p4, p5, p6⟩ <;> omega))).symm))
 refine zba 1 rfl (fsQ rfl (zdq (srQ (hvQ rfl (fdQ 0 rfl rfl rfl) (hvQ rfl (zac rfl rfl rfl (zaa 0 rfl rfl)) ?_)))))
 refine zdw rfl (zar rfl rfl (fun w hm => zav (implArity_ans o.k w))) (hl_geq rfl rfl rfl rfl rfl rfl (fun h13 => ?_) (fun h13 => ?_))
 ·
  refine zak 1 rfl (hvQ rfl (fdQ 1 rfl rfl rfl) (hvQ rfl (zac rfl rfl rfl (zaa 0 rfl rfl)) ?_))
  refine zby rfl rfl rfl rfl rfl rfl (fun h14 => ?_) (fun h14 => ?_)
  ·
   refine zak 2 rfl (hvQ rfl (fdQ 2 rfl rfl rfl) (hvQ rfl (zac rfl rfl rfl (zaa 0 rfl rfl)) ?_))
   refine zby rfl rfl rfl rfl rfl rfl (fun h15 => ?_) (fun h15 => ?_)
   ·
    refine zba 2 rfl ?_
    exact zal (zaq rfl rfl (congrArg _ (zcz (by first | exact .inl ⟨by omega, ⟨by omega, by omega⟩, by omega⟩ | exact .inr (.inl ⟨by omega, ⟨by omega, by omega⟩, by omega⟩) | exact .inr (.inr (.inl ⟨by omega, ⟨by omega, by omega⟩, by omega, by omega⟩)) | exact .inr (.inr (.inr ⟨by omega, by omega, by omega, by omega, by omega, by omega⟩)))).symm))
   refine zba 2 rfl ?_
   exact zal (zaq rfl rfl (congrArg _ (zbx (fun hp => by first | (rcases hp with ⟨p1, p2, p3⟩ | ⟨p1, p2, p3⟩ | ⟨p1, p2, p3⟩ | ⟨p1, p2, p3, p4, p5, p6⟩ <;> omega))).symm))
  refine zba 7 rfl ?_
  exact zal (zaq rfl rfl (congrArg _ (zbx (fun hp => by first | (rcases hp with ⟨p1, p2, p3⟩ | ⟨p1, p2, p3⟩ | ⟨p1, p2, p3⟩ | ⟨p1, p2, p3, p4, p5, p6⟩ <;> omega))).symm))
 refine zba 11 rfl ?_
 exact zal (zaq rfl rfl (congrArg _ (zbx (fun hp => by first | (rcases hp with ⟨p1, p2, p3⟩ | ⟨p1, p2, p3⟩ | ⟨p1, p2, p3⟩ | ⟨p1, p2, p3, p4, p5, p6⟩ <;> omega))).symm))
theorem implOpsOk_ans (os : List Oq) (n : Int) (v : Value) (w : World) (hv : RdsW w v 3 os.length (os.flatMap oqC)) :
   Calls Try.prog 55 #[v, .int .i64 n] w (Ans w (.bool (pB (OpsP n os)))) := by
 have hv9 := sml hv
 refine zcf (N := 39) (args := [v, .int .i64 n]) Try.func55 rfl rfl (zbk 1 rfl (zah (zah (reQ 1 rfl (hvQ rfl (lnQ rfl rfl rfl (zag hv)) ?_)))))
 refine zby rfl rfl rfl rfl rfl rfl (fun h1 => ?_) (fun h1 => ?_)
 ·
  refine zba 5 rfl (zaj rfl (zbk 1 rfl ?_))
  refine zal (zae ?_)
  exact zaq rfl rfl (congrArg _ (zbx (fun hp => by first | (have := hp.len; omega) | (have := hp.pos; omega) | (have := (hp.op i (by omega)).1; omega) | (exact absurd (hp.op i (by omega)).2 (by assumption)) | (have := hp.fin; rw [show os.length = i by omega] at this; omega))).symm)
 refine zak 2 rfl (hvQ rfl (lnQ rfl rfl rfl (zag hv)) ?_)
 refine zed rfl rfl rfl rfl rfl rfl (fun h2 => ?_) (fun h2 => ?_)
 ·
  refine zba 1 rfl (zaj rfl (zbk 1 rfl ?_))
  refine zal (zae ?_)
  exact zaq rfl rfl (congrArg _ (zbx (fun hp => by first | (have := hp.len; omega) | (have := hp.pos; omega) | (have := (hp.op i (by omega)).1; omega) | (exact absurd (hp.op i (by omega)).2 (by assumption)) | (have := hp.fin; rw [show os.length = i by omega] at this; omega))).symm)
 refine zba 1 rfl (zap rfl (zdi (zbk 1 rfl (zah ?_))))
 refine zah (reQ 1 rfl (hvQ rfl (lnQ rfl rfl rfl (zag hv)) (zba 1 rfl (zbh ?_))))
 refine lkQ2 (α := Nat) (β := Int) [0, 1, 4, 15, 16, 17] rfl (fun i c => []) (fun i c => [(5, .int .i64 c), (18, .int .i64 (i : Int))]) (fun i c => i ≤ os.length ∧ c = needK os i ∧ ∀ q, q < i → needK os q ≠ 0 ∧ OqP n (os.getD q oq0)) (fun i c => os.length - i) 0 1 ⟨Nat.zero_le _, rfl, fun q hq => absurd hq (by omega)⟩ (saQ rfl) (.slnil) ?_
 intro i c hi3
 obtain ⟨hi, hc, hall⟩ := hi3
 have hnr := needK_rng os i
 have har := arI_rng (os.getD i oq0).k
 refine srQ ?_
 refine zcb rfl rfl rfl rfl rfl rfl (fun h4 => ?_) (fun h4 => ?_)
 ·
  refine ntQ (tcQ rfl (zdi (sbQ (srQ (hvQ rfl (riQ 3 rfl rfl rfl rfl (zag hv)) ?_)))))
  refine hvQ rfl (zbi (us := [.int .i64 ((os.getD i oq0).k), .int .i64 ((os.getD i oq0).a), .int .i64 ((os.getD i oq0).b)]) rfl rfl rfl rfl (zag hv) (by omega) rfl (zca oqC 3 (fun _ => rfl) os oq0 (show i < _ by omega) rfl)) (zdv rfl (zbj (z := .agg #[.int .i64 0, .int .i64 0, .int .i64 0]) rfl rfl) ?_)
  intro b5
  refine zbn (cs' := #[.int .i64 ((os.getD i oq0).k), .int .i64 ((os.getD i oq0).a), .int .i64 ((os.getD i oq0).b)]) (i := 0) (off := 0) (us := [.int .i64 ((os.getD i oq0).k), .int .i64 ((os.getD i oq0).a), .int .i64 ((os.getD i oq0).b)]) rfl rfl rfl rfl rfl rfl rfl (zad rfl (zad rfl (zad rfl zbg))) rfl rfl rfl (ntQ (zah (zah (reQ 1 rfl ?_))))
  refine zby rfl rfl rfl rfl rfl rfl (fun h6 => ?_) (fun h6 => ?_)
  ·
   refine zba 6 rfl (zaj rfl (srQ (enQ 1 rfl ?_)))
   refine zbf (zal ?_)
   refine zae (zab ?_)
   refine zdx ?_
   refine zab (zae ?_)
   exact zaq rfl rfl (congrArg _ (zbx (fun hp => by first | (have := hp.len; omega) | (have := hp.pos; omega) | (have := (hp.op i (by omega)).1; omega) | (exact absurd (hp.op i (by omega)).2 (by assumption)) | (have := hp.fin; rw [show os.length = i by omega] at this; omega))).symm)
  refine zak 1 rfl (hvQ rfl (zaw (cs := [.int .i64 ((os.getD i oq0).k), .int .i64 ((os.getD i oq0).a), .int .i64 ((os.getD i oq0).b)]) rfl rfl rfl rfl rfl (zau 0 rfl 0 rfl)) (zak 1 rfl ?_))
  refine zdw rfl (zar rfl rfl (fun w hm => zav (opOk_ans (os.getD i oq0) n w))) (zbm (fun h7 => ?_) (fun h7 => ?_))
  ·
   have h7p := zfa h7
   refine zba 2 rfl (zap rfl (zdi (reQ 1 rfl (hvQ rfl (fdQ 0 rfl rfl rfl) (hvQ rfl (zac rfl rfl rfl (zaa 0 rfl rfl)) ?_)))))
   refine zdw rfl (zar rfl rfl (fun w hm => zav (implArity_ans ((os.getD i oq0).k) w))) (hvQ rfl (vsQ rfl rfl rfl) (hvQ rfl (vaQ rfl rfl rfl) (enQ 1 rfl (zdq (zbb (hvQ rfl (vaQ rfl rfl rfl) (enQ 1 rfl ?_)))))))
   exact zdy (i + 1) (c + ((arI ((os.getD i oq0).k)) - 1)) ⟨by omega, by show _ = needK os i + (arI (os.getD i oq0).k - 1); omega, fun q hq => by by_cases e : q = i; (subst e; exact ⟨by omega, by assumption⟩); exact hall q (by omega)⟩ (by omega) (saQ rfl) (slQ [] rfl)
  have h7p := zeg h7
  refine zba 2 rfl (zaj rfl (zbk 1 rfl ?_))
  refine zal (zae ?_)
  refine zab (zdx ?_)
  refine zab (zae ?_)
  exact zaq rfl rfl (congrArg _ (zbx (fun hp => by first | (have := hp.len; omega) | (have := hp.pos; omega) | (have := (hp.op i (by omega)).1; omega) | (exact absurd (hp.op i (by omega)).2 (by assumption)) | (have := hp.fin; rw [show os.length = i by omega] at this; omega))).symm)
 refine ntQ (fcQ rfl ?_)
 refine zbv (zep ?_)
 refine zan (zbf (zah (reQ 1 rfl ?_)))
 refine zby rfl rfl rfl rfl rfl rfl (fun h8 => ?_) (fun h8 => ?_)
 ·
  refine zba 1 rfl ?_
  exact zal (zaq rfl rfl (congrArg _ (zcz ⟨by omega, fun q hq => hall q (by omega), by rw [show os.length = i by omega]; omega⟩).symm))
 refine zba 1 rfl ?_
 exact zal (zaq rfl rfl (congrArg _ (zbx (fun hp => by first | (have := hp.len; omega) | (have := hp.pos; omega) | (have := (hp.op i (by omega)).1; omega) | (exact absurd (hp.op i (by omega)).2 (by assumption)) | (have := hp.fin; rw [show os.length = i by omega] at this; omega))).symm))
theorem zeh (m : Md) (w : World) (hr : RdsMd w m) :
   Calls Try.prog 107 #[.agg #[m.sv, m.av, m.iv, m.mv]] w (Ret w (fun v' post => post = [rowE 3 1 v' ((ptsK m)).length (((ptsK m)).map (Value.int .i64))])) := by
 have hs9 := sml hr.s
 refine zcf (N := 32) (args := [.agg #[m.sv, m.av, m.iv, m.mv]]) Try.func107 rfl rfl (srQ ?_)
 refine zdv rfl (zdp rfl rfl) ?_
 intro b1
 refine hl_nilRow 3 1 (zba 1 rfl (ssrQ (hvQ rfl (fdQ 0 rfl rfl rfl) (hvQ rfl (zac rfl rfl rfl (zaa 1 rfl rfl)) (hvQ rfl (lnQ rfl rfl rfl (zag ((hr).s))) ?_)))))
 refine zed rfl rfl rfl rfl rfl rfl (fun h3 => ?_) (fun h3 => ?_)
 ·
  refine ntQ (zaj rfl (srQ ?_))
  refine hl_nilRow 3 1 (zba 1 rfl ?_)
  refine zal (zae ?_)
  exact hq_retR (post := [rowE 3 1 (.slice none 0 0) 0 ([])]) rfl rfl (slQ [0] rfl) (by unfold ptsK; rw [if_neg (by omega)] <;> rfl)
 refine ntQ (zap rfl (zdi (srQ ?_)))
 refine hl_nilRow 3 1 (zba 1 rfl (ssrQ (hvQ rfl (fdQ 0 rfl rfl rfl) (hvQ rfl (zac rfl rfl rfl (zaa 2 rfl rfl)) (hvQ rfl (lnQ rfl rfl rfl (zag ((hr).s))) (zba 1 rfl ?_))))))
 refine zbh ?_
 refine lkQ3 (α := Nat) (β := Value) (γ := List Int) [0, 1, 2, 9, 11, 12] rfl (fun i gu zs => [rowE 3 1 gu zs.length (zs.map (Value.int .i64)), rowE 3 1 (.slice none 0 0) 0 ([]), boxE b1 #[m.sv, m.av, m.iv, m.mv] 35]) (fun i gu zs => [(3, gu), (13, .int .i64 (i : Int))]) (fun i gu zs => i ≤ m.ss.length ∧ zs = ptsA m.ss i) (fun i gu zs => m.ss.length - i) 0 _ [] ⟨Nat.zero_le _, rfl⟩ (saQ rfl) (pfQ rfl) ?_
 intro i gu zs hi6
 obtain ⟨hi, hz⟩ := hi6
 have hzl : zs.length ≤ i := by rw [hz]; exact ptsA_le _ _
 refine srQ ?_
 refine zcb rfl rfl rfl rfl rfl rfl (fun h7 => ?_) (fun h7 => ?_)
 ·
  refine ntQ (tcQ rfl (zdi (sbQ (zah (reQ 1 rfl (hvQ rfl (riQ 3 rfl rfl rfl rfl (zag ((hr).s))) ?_))))))
  refine hvQ rfl (zbi (us := [.int .i64 ((m.ss.getD i sg0).k), .int .i64 ((m.ss.getD i sg0).w), .int .i64 ((m.ss.getD i sg0).i)]) rfl rfl rfl rfl (zag ((hr).s)) (by omega) rfl (zca sgC 3 (fun _ => rfl) m.ss sg0 (show i < _ by omega) rfl)) (zdv rfl (zbj (z := .agg #[.int .i64 0, .int .i64 0, .int .i64 0]) rfl rfl) ?_)
  intro b8
  refine zak 1 rfl (zbn (cs' := #[.int .i64 ((m.ss.getD i sg0).k), .int .i64 ((m.ss.getD i sg0).w), .int .i64 ((m.ss.getD i sg0).i)]) (i := 0) (off := 0) (us := [.int .i64 ((m.ss.getD i sg0).k), .int .i64 ((m.ss.getD i sg0).w), .int .i64 ((m.ss.getD i sg0).i)]) rfl rfl rfl rfl rfl rfl rfl (zad rfl (zad rfl (zad rfl zbg))) rfl rfl rfl ?_)
  refine ntQ (srQ (hvQ rfl (fdQ 0 rfl rfl rfl) (hvQ rfl (zac rfl rfl rfl (zaa 0 rfl rfl)) ?_)))
  refine zby rfl rfl rfl rfl rfl rfl (fun h9 => ?_) (fun h9 => ?_)
  ·
   refine zba 5 rfl (zaj rfl (reQ 2 rfl ?_))
   refine zeb rfl (zai (z := .int .i64 0) (s := 1) (cs := ([(i : Int)].map (Value.int .i64))) rfl Try.underlying48 rfl (by decide) rfl (by kernel_rfl) rfl) ?_
   intro g10
   refine zct (i := 2) (z := .int .i64 0) (bytes := 8) rfl rfl rfl rfl Try.underlying48 (by kernel_rfl) rfl rfl rfl rfl (zam 0 rfl) (zcn _) (by first | omega | (simp; done) | (simp; omega)) (zcj zs ([(i : Int)])) (zdh zs ([(i : Int)])) (fun _ => rfl) ?_
   intro v11
   refine enQ 1 rfl (zdq (zbb (hvQ rfl (vaQ rfl rfl rfl) (enQ 1 rfl ?_))))
   exact zdt (i + 1) v11 (zs ++ ([(i : Int)])) ⟨by omega, by rw [hz]; exact ptsA_yes (by omega)⟩ (by omega) (saQ rfl) (slQ [2, 0, 0] rfl)
  refine zak 1 rfl (hvQ rfl (fdQ 0 rfl rfl rfl) (hvQ rfl (zac rfl rfl rfl (zaa 0 rfl rfl)) ?_))
  refine zby rfl rfl rfl rfl rfl rfl (fun h12 => ?_) (fun h12 => ?_)
  ·
   refine zba 1 rfl (zaj rfl (reQ 2 rfl ?_))
   refine zeb rfl (zai (z := .int .i64 0) (s := 1) (cs := ([(i : Int)].map (Value.int .i64))) rfl Try.underlying48 rfl (by decide) rfl (by kernel_rfl) rfl) ?_
   intro g13
   refine zct (i := 2) (z := .int .i64 0) (bytes := 8) rfl rfl rfl rfl Try.underlying48 (by kernel_rfl) rfl rfl rfl rfl (zam 0 rfl) (zcn _) (by first | omega | (simp; done) | (simp; omega)) (zcj zs ([(i : Int)])) (zdh zs ([(i : Int)])) (fun _ => rfl) ?_
   intro v14
   refine enQ 1 rfl (zdq (zbb (hvQ rfl (vaQ rfl rfl rfl) (enQ 1 rfl ?_))))
   exact zdt (i + 1) v14 (zs ++ ([(i : Int)])) ⟨by omega, by rw [hz]; exact ptsA_yes (by omega)⟩ (by omega) (saQ rfl) (slQ [2, 0, 0] rfl)
  refine zba 1 rfl (fsQ rfl (zdq (zbb (hvQ rfl (vaQ rfl rfl rfl) (enQ 1 rfl ?_)))))
  exact zdt (i + 1) gu zs ⟨by omega, hz.trans (ptsA_no (by omega))⟩ (by omega) (saQ rfl) (slQ [1, 0, 0] rfl)
 refine ntQ (fcQ rfl ?_)
 refine zbv (zep ?_)
 refine zan (zbf (zbk 2 rfl ?_))
 exact zal (hq_retR (post := [rowE 3 1 gu zs.length (zs.map (Value.int .i64))]) rfl rfl (slQ [0] rfl) (by rw [hz, show i = m.ss.length by omega]; unfold ptsK; rw [if_pos (by omega)]))
theorem countsOk_ans (D : List Md) (v : Value) (w : World) (hd : RdsDs w v D) :
   Calls Try.prog 48 #[.agg #[v]] w (Ans w (.bool (pB (CntP D)))) := by
 have hd9 := sml hd.row
 have hm9 : ∀ q, q < D.length → (D.getD q md0).ss.length ≤ 9223372036854775807 := fun q hq => by have := sml (hd.at hq).s; omega
 refine zcf (N := 39) (args := [.agg #[v]]) Try.func48 rfl rfl (srQ ?_)
 refine zdv rfl (zdp rfl rfl) ?_
 intro b1
 refine zba 1 rfl (ssrQ (hvQ rfl (fdQ 0 rfl rfl rfl) (hvQ rfl (zac rfl rfl rfl (zaa 0 rfl rfl)) (hvQ rfl (lnQ rfl rfl rfl (zag hd.row)) ?_))))
 refine zed rfl rfl rfl rfl rfl rfl (fun h2 => ?_) (fun h2 => ?_)
 ·
  refine ntQ (zaj rfl (zbk 1 rfl ?_))
  refine zal (zae ?_)
  exact zaq rfl rfl (congrArg _ (zbx (fun hp => by first | (have := hp.len; omega) | (obtain ⟨h1, h2, h3, h4⟩ := hp.md i (by omega); omega))).symm)
 refine ntQ (zap rfl (zdi (ssrQ (hvQ rfl (fdQ 0 rfl rfl rfl) (hvQ rfl (zac rfl rfl rfl (zaa 0 rfl rfl)) (hvQ rfl (lnQ rfl rfl rfl (zag hd.row)) (zak 1 rfl (?_))))))))
 refine ntQ (zbh ?_)
 refine lkQ1 (α := Nat) [0, 1, 2, 8, 10, 11] rfl (fun i => [boxE b1 #[v] 26]) (fun i => [(12, .int .i64 (i : Int))]) (fun i => i ≤ D.length ∧ ∀ q, q < i → LenP (D.getD q md0)) (fun i => D.length - i) 0 ⟨Nat.zero_le _, fun q hq => absurd hq (by omega)⟩ (saQ rfl) (pfQ rfl) ?_
 intro i hi3
 obtain ⟨hi, hall⟩ := hi3
 refine srQ ?_
 refine zcb rfl rfl rfl rfl rfl rfl (fun h4 => ?_) (fun h4 => ?_)
 ·
  refine ntQ (tcQ rfl (zdi (sbQ (srQ (hvQ rfl (riQ 4 rfl rfl rfl rfl (zag hd.row)) ?_)))))
  refine hvQ rfl (zbi (us := [(D.getD i md0).sv, (D.getD i md0).av, (D.getD i md0).iv, (D.getD i md0).mv]) rfl rfl rfl rfl (zag hd.row) (by omega) rfl (zca mdC 4 (fun _ => rfl) D md0 (show i < _ by omega) rfl)) (zdv rfl (zbj (z := .agg #[.slice none 0 0, .slice none 0 0, .slice none 0 0, .slice none 0 0]) rfl rfl) ?_)
  intro b5
  refine zbn (cs' := #[(D.getD i md0).sv, (D.getD i md0).av, (D.getD i md0).iv, (D.getD i md0).mv]) (i := 0) (off := 0) (us := [(D.getD i md0).sv, (D.getD i md0).av, (D.getD i md0).iv, (D.getD i md0).mv]) rfl rfl rfl rfl rfl rfl rfl (zad (hd.at (k := i) (by omega)).s.one (zad (hd.at (k := i) (by omega)).g.one (zad (hd.at (k := i) (by omega)).x.one (zad (hd.at (k := i) (by omega)).m.one zbg)))) rfl rfl rfl (ntQ (srQ (hvQ rfl (fdQ 0 rfl rfl rfl) (hvQ rfl (zac rfl rfl rfl (zaa 0 rfl rfl)) (hvQ rfl (lnQ rfl rfl rfl (zag ((hd.at (k := i) (by omega)).s))) ?_)))))
  refine zed rfl rfl rfl rfl rfl rfl (fun h6 => ?_) (fun h6 => ?_)
  ·
   refine zba 18 rfl (zaj rfl (zbk 1 rfl ?_))
   refine zal (zab ?_)
   refine zdx ?_
   refine zab (zae ?_)
   exact zaq rfl rfl (congrArg _ (zbx (fun hp => by first | (have := hp.len; omega) | (obtain ⟨h1, h2, h3, h4⟩ := hp.md i (by omega); omega))).symm)
  refine zak 1 rfl (hvQ rfl (fdQ 1 rfl rfl rfl) (hvQ rfl (zac rfl rfl rfl (zaa 0 rfl rfl)) (hvQ rfl (lnQ rfl rfl rfl (zag ((hd.at (k := i) (by omega)).g))) ?_)))
  refine zed rfl rfl rfl rfl rfl rfl (fun h7 => ?_) (fun h7 => ?_)
  ·
   refine zba 13 rfl ?_
   refine zaj rfl (zbk 1 rfl ?_)
   refine zal (zab ?_)
   refine zdx ?_
   refine zab (zae ?_)
   exact zaq rfl rfl (congrArg _ (zbx (fun hp => by first | (have := hp.len; omega) | (obtain ⟨h1, h2, h3, h4⟩ := hp.md i (by omega); omega))).symm)
  refine zak 2 rfl (hvQ rfl (fdQ 2 rfl rfl rfl) (hvQ rfl (zac rfl rfl rfl (zaa 0 rfl rfl)) (hvQ rfl (lnQ rfl rfl rfl (zag ((hd.at (k := i) (by omega)).x))) ?_)))
  refine zed rfl rfl rfl rfl rfl rfl (fun h8 => ?_) (fun h8 => ?_)
  ·
   refine zba 7 rfl (zaj rfl (zah (reQ 1 rfl (?_))))
   refine ntQ ?_
   refine zal (zab ?_)
   refine zdx ?_
   refine zab (zae ?_)
   exact zaq rfl rfl (congrArg _ (zbx (fun hp => by first | (have := hp.len; omega) | (obtain ⟨h1, h2, h3, h4⟩ := hp.md i (by omega); omega))).symm)
  refine zak 2 rfl (hvQ rfl (fdQ 3 rfl rfl rfl) (hvQ rfl (zac rfl rfl rfl (zaa 0 rfl rfl)) (hvQ rfl (lnQ rfl rfl rfl (zag ((hd.at (k := i) (by omega)).m))) ?_)))
  refine zed rfl rfl rfl rfl rfl rfl (fun h9 => ?_) (fun h9 => ?_)
  ·
   refine zba 1 rfl (zaj rfl (zbk 1 rfl ?_))
   refine zal (zab ?_)
   refine zdx ?_
   refine zab (zae ?_)
   exact zaq rfl rfl (congrArg _ (zbx (fun hp => by first | (have := hp.len; omega) | (obtain ⟨h1, h2, h3, h4⟩ := hp.md i (by omega); omega))).symm)
  refine zba 1 rfl (fsQ rfl (zdq (zbb (hvQ rfl (vaQ rfl rfl rfl) (enQ 1 rfl ?_)))))
  exact zbw (i + 1) ⟨by omega, fun q hq => by by_cases e : q = i; (subst e; exact ⟨by omega, by omega, by omega, by omega⟩); exact hall q (by omega)⟩ (by omega) (saQ rfl) (slQ [1] rfl)
 refine ntQ (fcQ rfl ?_)
 refine zbv (zep ?_)
 refine zan (zbf (zbk 1 rfl ?_))
 exact zal (zaq rfl rfl (congrArg _ (zcz ⟨by omega, fun q hq => hall q (by omega)⟩).symm))
theorem instsOk_ans (D : List Md) (k : Nat) (v : Value) (w : World) (hd : RdsDs w v D) (hk : k < D.length) :
   Calls Try.prog 49 #[.agg #[v], .int .i64 (k : Int)] w (Ans w (.bool (pB (InsP D k)))) := by
 have hd9 := sml hd.row
 have hm9 : ∀ q, q < D.length → (D.getD q md0).ss.length ≤ 9223372036854775807 := fun q hq => by have := sml (hd.at hq).s; omega
 have hx9 := sml (hd.at hk).x
 refine zcf (N := 39) (args := [.agg #[v], .int .i64 (k : Int)]) Try.func49 rfl rfl (srQ ?_)
 refine zdv rfl (zdp rfl rfl) ?_
 intro b1
 refine zba 1 rfl (ssrQ (hvQ rfl (fdQ 0 rfl rfl rfl) (hvQ rfl (zac rfl rfl rfl (zaa 0 rfl rfl)) (zak 1 rfl (hvQ rfl (riQ 4 rfl rfl rfl rfl (zag hd.row)) (hvQ rfl (zbe (k0 := 2) rfl rfl rfl (zag hd.row) (by omega)) ?_))))))
 refine hvQ rfl (zat (u := (D.getD k md0).iv) rfl rfl rfl (zag hd.row) ((zce mdC 4 (fun _ => rfl) D md0 (show k < _ by omega) (by decide)).trans rfl)) (hvQ rfl (lnQ rfl rfl rfl (zag ((hd.at (k := k) (by omega)).x))) (zba 1 rfl (zbh ?_)))
 refine lkQ1 (α := Nat) [0, 1, 2, 4, 12, 13] rfl (fun i => [boxE b1 #[v] 26]) (fun i => [(14, .int .i64 (i : Int))]) (fun i => i ≤ (D.getD k md0).xs.length ∧ ∀ q, q < i → InsOk D k q) (fun i => (D.getD k md0).xs.length - i) 0 ⟨Nat.zero_le _, fun q hq => absurd hq (by omega)⟩ (saQ rfl) (pfQ rfl) ?_
 intro i hi2
 obtain ⟨hi, hins⟩ := hi2
 refine srQ ?_
 refine zcb rfl rfl rfl rfl rfl rfl (fun h3 => ?_) (fun h3 => ?_)
 ·
  refine ntQ (tcQ rfl (zdi (sbQ (srQ (hvQ rfl (riQ 3 rfl rfl rfl rfl (zag ((hd.at (k := k) (by omega)).x))) ?_)))))
  refine hvQ rfl (zbi (us := [.int .i64 ((((D.getD k md0).xs).getD i ix0).m), .int .i64 ((((D.getD k md0).xs).getD i ix0).p), (((D.getD k md0).xs).getD i ix0).pv]) rfl rfl rfl rfl (zag ((hd.at (k := k) (by omega)).x)) (by omega) rfl (zca ixC 3 (fun _ => rfl) ((D.getD k md0).xs) ix0 (show i < _ by omega) rfl)) (zdv rfl (zbj (z := .agg #[.int .i64 0, .int .i64 0, .slice none 0 0]) rfl rfl) ?_)
  intro b4
  refine zbn (cs' := #[.int .i64 ((((D.getD k md0).xs).getD i ix0).m), .int .i64 ((((D.getD k md0).xs).getD i ix0).p), (((D.getD k md0).xs).getD i ix0).pv]) (i := 0) (off := 0) (us := [.int .i64 ((((D.getD k md0).xs).getD i ix0).m), .int .i64 ((((D.getD k md0).xs).getD i ix0).p), (((D.getD k md0).xs).getD i ix0).pv]) rfl rfl rfl rfl rfl rfl rfl (zad rfl (zad rfl (zad ((hd.at (k := k) (by omega)).p.at (k := i) (by omega)).one zbg))) rfl rfl rfl (ntQ (zah ?_))
  rcases Bool.eq_false_or_eq_true (inR ((((D.getD k md0).xs).getD i ix0).m) 0 ((k : Int) - 1)) with hb5 | hb5
  ·
   obtain ⟨hb5a, hb5b⟩ := (zco _ _ _).1 hb5
   rcases Bool.eq_false_or_eq_true ((((((D.getD k md0).xs).getD i ix0).ps).length : Int) != ((ptsK (D.getD (((((D.getD k md0).xs).getD i ix0).m).toNat) md0)).length : Int)) with hb9 | hb9
   ·
    have hb9p : (((((D.getD k md0).xs).getD i ix0).ps).length : Int) ≠ ((ptsK (D.getD (((((D.getD k md0).xs).getD i ix0).m).toNat) md0)).length : Int) := bne_iff_ne.1 hb9
    refine hc_draw rfl 20 [0, 1, 2, 3, 4, 5, 6, 7, 8, 9, 10, 11, 12, 13, 14, 15, 16, 17, 18, 19] (List.take 20 _) (List.drop 20 _) [[], [0], [], [2], [1, 3], [4], [5], [6], [6, 7], [6, 8], [6], [6, 10], [6], [6, 12], [6, 11, 13], [6, 14], [6, 15], [6, 16], [6, 9, 16, 17], [6, 18]] [18, 19, 20, 21, 22, 23, 24, 25, 26, 27, 28, 29, 30, 31, 32, 33, 34, 35, 36, 37] (fun i_ vs_ v_ p_ => match i_ with | 0 => v_ = .pointer (some ⟨b4, 0 + 0, none⟩) ∧ p_ = [] | 1 => v_ = .int .i64 ((((D.getD k md0).xs).getD i ix0).m) ∧ p_ = [] | 2 => v_ = .int .i64 (k : Int) ∧ p_ = [] | 3 => v_ = .int .i64 ((k : Int) - 1) ∧ p_ = [] | 4 => v_ = .bool true ∧ p_ = [] | 5 => v_ = .bool false ∧ p_ = [] | 6 => v_ = .bool false ∧ p_ = [] | 7 => v_ = .pointer (some ⟨b4, 0 + 2, none⟩) ∧ p_ = [] | 8 => v_ = (((D.getD k md0).xs).getD i ix0).pv ∧ p_ = [] | 9 => v_ = .int .i64 (((((D.getD k md0).xs).getD i ix0).ps).length : Int) ∧ p_ = [] | 10 => v_ = .pointer (some ⟨b1, 0 + 0, none⟩) ∧ p_ = [] | 11 => v_ = v ∧ p_ = [] | 12 => v_ = .pointer (some ⟨b4, 0 + 0, none⟩) ∧ p_ = [] | 13 => v_ = .int .i64 ((((D.getD k md0).xs).getD i ix0).m) ∧ p_ = [] | 14 => v_ = elP v (((((D.getD k md0).xs).getD i ix0).m).toNat * 4) ∧ p_ = [] | 15 => v_ = .agg #[(D.getD (((((D.getD k md0).xs).getD i ix0).m).toNat) md0).sv, (D.getD (((((D.getD k md0).xs).getD i ix0).m).toNat) md0).av, (D.getD (((((D.getD k md0).xs).getD i ix0).m).toNat) md0).iv, (D.getD (((((D.getD k md0).xs).getD i ix0).m).toNat) md0).mv] ∧ p_ = [] | 16 => (fun v' post => post = [rowE 3 1 v' ((ptsK (D.getD (((((D.getD k md0).xs).getD i ix0).m).toNat) md0))).length (((ptsK (D.getD (((((D.getD k md0).xs).getD i ix0).m).toNat) md0))).map (Value.int .i64))]) v_ p_ | 17 => v_ = .int .i64 ((ptsK (D.getD (((((D.getD k md0).xs).getD i ix0).m).toNat) md0)).length : Int) ∧ p_ = [] | 18 => v_ = .bool true ∧ p_ = [] | 19 => v_ = .bool true ∧ p_ = [] | _ => True) (List.take_append_drop 20 _).symm (by kernel_rfl) (by kernel_rfl) rfl rfl ?_ ?_
    ·
     refine ⟨?_, ?_, ?_, ?_, ?_, ?_, ?_, ?_, ?_, ?_, ?_, ?_, ?_, ?_, ?_, ?_, ?_, ?_, ?_, ?_, trivial⟩
     ·
      intro vf pf hR
      exact ovQ rfl (zao [6] rfl) (zbq (fdQ 0 rfl rfl rfl))
     ·
      intro vf pf hR
      have e0 := hR 0 (by decide)
      exact olQ rfl (sk 18 (congrArg some e0.1) (zaf _)) (zbq (zac rfl rfl rfl (zaa 0 rfl rfl)))
     ·
      intro vf pf hR
      exact ovQ rfl (zao [1] rfl) (zbq (zay rfl))
     ·
      intro vf pf hR
      have e2 := hR 2 (by decide)
      exact ovQ rfl (sk 20 (congrArg some e2.1) (zaf _)) (zbq (vsQ rfl rfl rfl))
     ·
      intro vf pf hR
      have e1 := hR 1 (by decide)
      have e3 := hR 3 (by decide)
      exact olQ rfl (sk 19 (congrArg some e1.1) (sk 21 (congrArg some e3.1) (zaf _))) (zcc (zar rfl rfl (fun w hm => zav (zdm (zbt _ _ _ w)))) (fun _ _ h => ⟨h.1.trans (congrArg Value.bool hb5), h.2⟩))
     ·
      intro vf pf hR
      have e4 := hR 4 (by decide)
      exact ovQ rfl (sk 22 (congrArg some e4.1) (zaf _)) (zbq (zay rfl))
     ·
      intro vf pf hR
      have e5 := hR 5 (by decide)
      exact ovQ rfl (sk 23 (congrArg some e5.1) (zaf _)) (zbq (zay rfl))
     ·
      intro vf pf hR
      have e6 := hR 6 (by decide)
      refine Or.inl ⟨zbo (congrArg some e6.1) rfl, ?_⟩
      exact zbr (zao [6] rfl) (zbq (fdQ 2 rfl rfl rfl))
     ·
      intro vf pf hR
      have e6 := hR 6 (by decide)
      have e7 := hR 7 (by decide)
      refine Or.inl ⟨zbo (congrArg some e6.1) rfl, ?_⟩
      exact zaz (sk 25 (congrArg some e7.1) (zaf _)) (List.sublist_append_right _ _) (zbq (zac rfl rfl rfl (zaa 0 rfl rfl)))
     ·
      intro vf pf hR
      have e6 := hR 6 (by decide)
      have e8 := hR 8 (by decide)
      refine Or.inl ⟨zbo (congrArg some e6.1) rfl, ?_⟩
      exact zaz (sk 26 (congrArg some e8.1) (zaf _)) (List.sublist_append_right _ _) (zbq (lnQ rfl rfl rfl (zag ((hd.at (k := k) (by omega)).p.at (k := i) (by omega)))))
     ·
      intro vf pf hR
      have e6 := hR 6 (by decide)
      refine Or.inl ⟨zbo (congrArg some e6.1) rfl, ?_⟩
      exact zbr (zao [2] rfl) (zbq (fdQ 0 rfl rfl rfl))
     ·
      intro vf pf hR
      have e6 := hR 6 (by decide)
      have e10 := hR 10 (by decide)
      refine Or.inl ⟨zbo (congrArg some e6.1) rfl, ?_⟩
      exact zaz (sk 28 (congrArg some e10.1) (zaf _)) (List.sublist_append_right _ _) (zbq (zac rfl rfl rfl (zaa 1 rfl rfl)))
     ·
      intro vf pf hR
      have e6 := hR 6 (by decide)
      refine Or.inl ⟨zbo (congrArg some e6.1) rfl, ?_⟩
      exact zbr (zao [6] rfl) (zbq (fdQ 0 rfl rfl rfl))
     ·
      intro vf pf hR
      have e6 := hR 6 (by decide)
      have e12 := hR 12 (by decide)
      refine Or.inl ⟨zbo (congrArg some e6.1) rfl, ?_⟩
      exact zaz (sk 30 (congrArg some e12.1) (zaf _)) (List.sublist_append_right _ _) (zbq (zac rfl rfl rfl (zaa 0 rfl rfl)))
     ·
      intro vf pf hR
      have e6 := hR 6 (by decide)
      have e11 := hR 11 (by decide)
      have e13 := hR 13 (by decide)
      refine Or.inl ⟨zbo (congrArg some e6.1) rfl, ?_⟩
      exact zaz (sk 29 (congrArg some e11.1) (sk 31 (congrArg some e13.1) (zaf _))) (List.sublist_append_right _ _) (zbq (riQ 4 rfl rfl rfl rfl (zag hd.row)))
     ·
      intro vf pf hR
      have e6 := hR 6 (by decide)
      have e14 := hR 14 (by decide)
      refine Or.inl ⟨zbo (congrArg some e6.1) rfl, ?_⟩
      exact zaz (sk 32 (congrArg some e14.1) (zaf _)) (List.sublist_append_right _ _) (zbq (zbi (us := [(D.getD (((((D.getD k md0).xs).getD i ix0).m).toNat) md0).sv, (D.getD (((((D.getD k md0).xs).getD i ix0).m).toNat) md0).av, (D.getD (((((D.getD k md0).xs).getD i ix0).m).toNat) md0).iv, (D.getD (((((D.getD k md0).xs).getD i ix0).m).toNat) md0).mv]) rfl rfl rfl rfl (zag hd.row) (by omega) rfl (zca mdC 4 (fun _ => rfl) D md0 (show ((((D.getD k md0).xs).getD i ix0).m).toNat < _ by omega) rfl)))
     ·
      intro vf pf hR
      have e6 := hR 6 (by decide)
      have e15 := hR 15 (by decide)
      refine Or.inl ⟨zbo (congrArg some e6.1) rfl, ?_⟩
      exact zaz (sk 33 (congrArg some e15.1) (zaf _)) (List.sublist_append_right _ _) (zar rfl rfl (fun w hm => zeh (D.getD (((((D.getD k md0).xs).getD i ix0).m).toNat) md0) w ((hd.at (by omega)).below hm.bel)))
     ·
      intro vf pf hR
      have e6 := hR 6 (by decide)
      have e16 : (fun v' post => post = [rowE 3 1 v' ((ptsK (D.getD (((((D.getD k md0).xs).getD i ix0).m).toNat) md0))).length (((ptsK (D.getD (((((D.getD k md0).xs).getD i ix0).m).toNat) md0))).map (Value.int .i64))]) (vf 16) (pf 16) := hR 16 (by decide)
      obtain ⟨v10, vE16⟩ : ∃ x, vf 16 = x := ⟨_, rfl⟩
      obtain ⟨p11, pE16⟩ : ∃ x, pf 16 = x := ⟨_, rfl⟩
      have hR12 := e16
      rw [vE16, pE16] at hR12
      subst hR12
      refine Or.inl ⟨zbo (congrArg some e6.1) rfl, ?_⟩
      exact zcd (sk 34 (congrArg some vE16) (zaf _)) (by simp only [pE16, vE16, e6.2, fS] <;> rfl) (zbq (lnQ rfl rfl rfl (zam 0 rfl)))
     ·
      intro vf pf hR
      have e6 := hR 6 (by decide)
      have e9 := hR 9 (by decide)
      have e16 : (fun v' post => post = [rowE 3 1 v' ((ptsK (D.getD (((((D.getD k md0).xs).getD i ix0).m).toNat) md0))).length (((ptsK (D.getD (((((D.getD k md0).xs).getD i ix0).m).toNat) md0))).map (Value.int .i64))]) (vf 16) (pf 16) := hR 16 (by decide)
      obtain ⟨v10, vE16⟩ : ∃ x, vf 16 = x := ⟨_, rfl⟩
      obtain ⟨p11, pE16⟩ : ∃ x, pf 16 = x := ⟨_, rfl⟩
      have hR12 := e16
      rw [vE16, pE16] at hR12
      subst hR12
      have e17 := hR 17 (by decide)
      refine Or.inl ⟨zbo (congrArg some e6.1) rfl, ?_⟩
      exact zcd (sk 27 (congrArg some e9.1) (sk 35 (congrArg some e17.1) (zaf _))) (by simp only [pE16, vE16, e6.2, e9.2, e17.2, fS] <;> rfl) (zcc (zbq (zcu rfl rfl rfl rfl)) (fun _ _ h => ⟨h.1.trans (congrArg Value.bool hb9), h.2⟩))
     intro vf pf hR
     have e6 := hR 6 (by decide)
     have e18 := hR 18 (by decide)
     exact ovQ rfl (sk 24 (congrArg some e6.1) (sk 36 (congrArg some e18.1) (zaf _))) (zbq (zay rfl))
    intro vf pf hR
    have e16 : (fun v' post => post = [rowE 3 1 v' ((ptsK (D.getD (((((D.getD k md0).xs).getD i ix0).m).toNat) md0))).length (((ptsK (D.getD (((((D.getD k md0).xs).getD i ix0).m).toNat) md0))).map (Value.int .i64))]) (vf 16) (pf 16) := hR 16 (by decide)
    obtain ⟨v10, vE16⟩ : ∃ x, vf 16 = x := ⟨_, rfl⟩
    obtain ⟨p11, pE16⟩ : ∃ x, pf 16 = x := ⟨_, rfl⟩
    have hR12 := e16
    rw [vE16, pE16] at hR12
    subst hR12
    have e19 := hR 19 (by decide)
    have q0 := hR 0 (by decide)
    have q1 := hR 1 (by decide)
    have q2 := hR 2 (by decide)
    have q3 := hR 3 (by decide)
    have q4 := hR 4 (by decide)
    have q5 := hR 5 (by decide)
    have q6 := hR 6 (by decide)
    have q7 := hR 7 (by decide)
    have q8 := hR 8 (by decide)
    have q9 := hR 9 (by decide)
    have q10 := hR 10 (by decide)
    have q11 := hR 11 (by decide)
    have q12 := hR 12 (by decide)
    have q13 := hR 13 (by decide)
    have q14 := hR 14 (by decide)
    have q15 := hR 15 (by decide)
    have q17 := hR 17 (by decide)
    have q18 := hR 18 (by decide)
    have q19 := hR 19 (by decide)
    refine zcr (zcg [15, 14, 13, 12, 6, 4, 2, 1, 0] _ (sk 37 (congrArg some e19.1) (zaf _)) rfl) (by simp only [pE16, vE16, q0.2, q1.2, q2.2, q3.2, q4.2, q5.2, q6.2, q7.2, q8.2, q9.2, q10.2, q11.2, q12.2, q13.2, q14.2, q15.2, q17.2, q18.2, q19.2, fS] <;> rfl) ?_
    simp only [List.drop_succ_cons, List.drop_zero]
    refine ntQ (zaj rfl (zbk 1 rfl ?_))
    refine zal (zab ?_)
    refine zdx ?_
    refine zab (zae ?_)
    exact zaq rfl rfl (congrArg _ (zbx (fun hp => by first | (obtain ⟨⟨h1, h2⟩, h3⟩ := hp i (by omega); omega))).symm)
   have hb9p : (((((D.getD k md0).xs).getD i ix0).ps).length : Int) = ((ptsK (D.getD (((((D.getD k md0).xs).getD i ix0).m).toNat) md0)).length : Int) := (bne_eq_false_iff_eq.1 hb9)
   refine hc_draw rfl 20 [0, 1, 2, 3, 4, 5, 6, 7, 8, 9, 10, 11, 12, 13, 14, 15, 16, 17, 18, 19] (List.take 20 _) (List.drop 20 _) [[], [0], [], [2], [1, 3], [4], [5], [6], [6, 7], [6, 8], [6], [6, 10], [6], [6, 12], [6, 11, 13], [6, 14], [6, 15], [6, 16], [6, 9, 16, 17], [6, 18]] [18, 19, 20, 21, 22, 23, 24, 25, 26, 27, 28, 29, 30, 31, 32, 33, 34, 35, 36, 37] (fun i_ vs_ v_ p_ => match i_ with | 0 => v_ = .pointer (some ⟨b4, 0 + 0, none⟩) ∧ p_ = [] | 1 => v_ = .int .i64 ((((D.getD k md0).xs).getD i ix0).m) ∧ p_ = [] | 2 => v_ = .int .i64 (k : Int) ∧ p_ = [] | 3 => v_ = .int .i64 ((k : Int) - 1) ∧ p_ = [] | 4 => v_ = .bool true ∧ p_ = [] | 5 => v_ = .bool false ∧ p_ = [] | 6 => v_ = .bool false ∧ p_ = [] | 7 => v_ = .pointer (some ⟨b4, 0 + 2, none⟩) ∧ p_ = [] | 8 => v_ = (((D.getD k md0).xs).getD i ix0).pv ∧ p_ = [] | 9 => v_ = .int .i64 (((((D.getD k md0).xs).getD i ix0).ps).length : Int) ∧ p_ = [] | 10 => v_ = .pointer (some ⟨b1, 0 + 0, none⟩) ∧ p_ = [] | 11 => v_ = v ∧ p_ = [] | 12 => v_ = .pointer (some ⟨b4, 0 + 0, none⟩) ∧ p_ = [] | 13 => v_ = .int .i64 ((((D.getD k md0).xs).getD i ix0).m) ∧ p_ = [] | 14 => v_ = elP v (((((D.getD k md0).xs).getD i ix0).m).toNat * 4) ∧ p_ = [] | 15 => v_ = .agg #[(D.getD (((((D.getD k md0).xs).getD i ix0).m).toNat) md0).sv, (D.getD (((((D.getD k md0).xs).getD i ix0).m).toNat) md0).av, (D.getD (((((D.getD k md0).xs).getD i ix0).m).toNat) md0).iv, (D.getD (((((D.getD k md0).xs).getD i ix0).m).toNat) md0).mv] ∧ p_ = [] | 16 => (fun v' post => post = [rowE 3 1 v' ((ptsK (D.getD (((((D.getD k md0).xs).getD i ix0).m).toNat) md0))).length (((ptsK (D.getD (((((D.getD k md0).xs).getD i ix0).m).toNat) md0))).map (Value.int .i64))]) v_ p_ | 17 => v_ = .int .i64 ((ptsK (D.getD (((((D.getD k md0).xs).getD i ix0).m).toNat) md0)).length : Int) ∧ p_ = [] | 18 => v_ = .bool false ∧ p_ = [] | 19 => v_ = .bool false ∧ p_ = [] | _ => True) (List.take_append_drop 20 _).symm (by kernel_rfl) (by kernel_rfl) rfl rfl ?_ ?_
   ·
    refine ⟨?_, ?_, ?_, ?_, ?_, ?_, ?_, ?_, ?_, ?_, ?_, ?_, ?_, ?_, ?_, ?_, ?_, ?_, ?_, ?_, trivial⟩
    ·
     intro vf pf hR
     exact ovQ rfl (zao [6] rfl) (zbq (fdQ 0 rfl rfl rfl))
    ·
     intro vf pf hR
     have e0 := hR 0 (by decide)
     exact olQ rfl (sk 18 (congrArg some e0.1) (zaf _)) (zbq (zac rfl rfl rfl (zaa 0 rfl rfl)))
    ·
     intro vf pf hR
     exact ovQ rfl (zao [1] rfl) (zbq (zay rfl))
    ·
     intro vf pf hR
     have e2 := hR 2 (by decide)
     exact ovQ rfl (sk 20 (congrArg some e2.1) (zaf _)) (zbq (vsQ rfl rfl rfl))
    ·
     intro vf pf hR
     have e1 := hR 1 (by decide)
     have e3 := hR 3 (by decide)
     exact olQ rfl (sk 19 (congrArg some e1.1) (sk 21 (congrArg some e3.1) (zaf _))) (zcc (zar rfl rfl (fun w hm => zav (zdm (zbt _ _ _ w)))) (fun _ _ h => ⟨h.1.trans (congrArg Value.bool hb5), h.2⟩))
    ·
     intro vf pf hR
     have e4 := hR 4 (by decide)
     exact ovQ rfl (sk 22 (congrArg some e4.1) (zaf _)) (zbq (zay rfl))
    ·
     intro vf pf hR
     have e5 := hR 5 (by decide)
     exact ovQ rfl (sk 23 (congrArg some e5.1) (zaf _)) (zbq (zay rfl))
    ·
     intro vf pf hR
     have e6 := hR 6 (by decide)
     refine Or.inl ⟨zbo (congrArg some e6.1) rfl, ?_⟩
     exact zbr (zao [6] rfl) (zbq (fdQ 2 rfl rfl rfl))
    ·
     intro vf pf hR
     have e6 := hR 6 (by decide)
     have e7 := hR 7 (by decide)
     refine Or.inl ⟨zbo (congrArg some e6.1) rfl, ?_⟩
     exact zaz (sk 25 (congrArg some e7.1) (zaf _)) (List.sublist_append_right _ _) (zbq (zac rfl rfl rfl (zaa 0 rfl rfl)))
    ·
     intro vf pf hR
     have e6 := hR 6 (by decide)
     have e8 := hR 8 (by decide)
     refine Or.inl ⟨zbo (congrArg some e6.1) rfl, ?_⟩
     exact zaz (sk 26 (congrArg some e8.1) (zaf _)) (List.sublist_append_right _ _) (zbq (lnQ rfl rfl rfl (zag ((hd.at (k := k) (by omega)).p.at (k := i) (by omega)))))
    ·
     intro vf pf hR
     have e6 := hR 6 (by decide)
     refine Or.inl ⟨zbo (congrArg some e6.1) rfl, ?_⟩
     exact zbr (zao [2] rfl) (zbq (fdQ 0 rfl rfl rfl))
    ·
     intro vf pf hR
     have e6 := hR 6 (by decide)
     have e10 := hR 10 (by decide)
     refine Or.inl ⟨zbo (congrArg some e6.1) rfl, ?_⟩
     exact zaz (sk 28 (congrArg some e10.1) (zaf _)) (List.sublist_append_right _ _) (zbq (zac rfl rfl rfl (zaa 1 rfl rfl)))
    ·
     intro vf pf hR
     have e6 := hR 6 (by decide)
     refine Or.inl ⟨zbo (congrArg some e6.1) rfl, ?_⟩
     exact zbr (zao [6] rfl) (zbq (fdQ 0 rfl rfl rfl))
    ·
     intro vf pf hR
     have e6 := hR 6 (by decide)
     have e12 := hR 12 (by decide)
     refine Or.inl ⟨zbo (congrArg some e6.1) rfl, ?_⟩
     exact zaz (sk 30 (congrArg some e12.1) (zaf _)) (List.sublist_append_right _ _) (zbq (zac rfl rfl rfl (zaa 0 rfl rfl)))
    ·
     intro vf pf hR
     have e6 := hR 6 (by decide)
     have e11 := hR 11 (by decide)
     have e13 := hR 13 (by decide)
     refine Or.inl ⟨zbo (congrArg some e6.1) rfl, ?_⟩
     exact zaz (sk 29 (congrArg some e11.1) (sk 31 (congrArg some e13.1) (zaf _))) (List.sublist_append_right _ _) (zbq (riQ 4 rfl rfl rfl rfl (zag hd.row)))
    ·
     intro vf pf hR
     have e6 := hR 6 (by decide)
     have e14 := hR 14 (by decide)
     refine Or.inl ⟨zbo (congrArg some e6.1) rfl, ?_⟩
     exact zaz (sk 32 (congrArg some e14.1) (zaf _)) (List.sublist_append_right _ _) (zbq (zbi (us := [(D.getD (((((D.getD k md0).xs).getD i ix0).m).toNat) md0).sv, (D.getD (((((D.getD k md0).xs).getD i ix0).m).toNat) md0).av, (D.getD (((((D.getD k md0).xs).getD i ix0).m).toNat) md0).iv, (D.getD (((((D.getD k md0).xs).getD i ix0).m).toNat) md0).mv]) rfl rfl rfl rfl (zag hd.row) (by omega) rfl (zca mdC 4 (fun _ => rfl) D md0 (show ((((D.getD k md0).xs).getD i ix0).m).toNat < _ by omega) rfl)))
    ·
     intro vf pf hR
     have e6 := hR 6 (by decide)
     have e15 := hR 15 (by decide)
     refine Or.inl ⟨zbo (congrArg some e6.1) rfl, ?_⟩
     exact zaz (sk 33 (congrArg some e15.1) (zaf _)) (List.sublist_append_right _ _) (zar rfl rfl (fun w hm => zeh (D.getD (((((D.getD k md0).xs).getD i ix0).m).toNat) md0) w ((hd.at (by omega)).below hm.bel)))
    ·
     intro vf pf hR
     have e6 := hR 6 (by decide)
     have e16 : (fun v' post => post = [rowE 3 1 v' ((ptsK (D.getD (((((D.getD k md0).xs).getD i ix0).m).toNat) md0))).length (((ptsK (D.getD (((((D.getD k md0).xs).getD i ix0).m).toNat) md0))).map (Value.int .i64))]) (vf 16) (pf 16) := hR 16 (by decide)
     obtain ⟨v13, vE16⟩ : ∃ x, vf 16 = x := ⟨_, rfl⟩
     obtain ⟨p14, pE16⟩ : ∃ x, pf 16 = x := ⟨_, rfl⟩
     have hR15 := e16
     rw [vE16, pE16] at hR15
     subst hR15
     refine Or.inl ⟨zbo (congrArg some e6.1) rfl, ?_⟩
     exact zcd (sk 34 (congrArg some vE16) (zaf _)) (by simp only [pE16, vE16, e6.2, fS] <;> rfl) (zbq (lnQ rfl rfl rfl (zam 0 rfl)))
    ·
     intro vf pf hR
     have e6 := hR 6 (by decide)
     have e9 := hR 9 (by decide)
     have e16 : (fun v' post => post = [rowE 3 1 v' ((ptsK (D.getD (((((D.getD k md0).xs).getD i ix0).m).toNat) md0))).length (((ptsK (D.getD (((((D.getD k md0).xs).getD i ix0).m).toNat) md0))).map (Value.int .i64))]) (vf 16) (pf 16) := hR 16 (by decide)
     obtain ⟨v13, vE16⟩ : ∃ x, vf 16 = x := ⟨_, rfl⟩
     obtain ⟨p14, pE16⟩ : ∃ x, pf 16 = x := ⟨_, rfl⟩
     have hR15 := e16
     rw [vE16, pE16] at hR15
     subst hR15
     have e17 := hR 17 (by decide)
     refine Or.inl ⟨zbo (congrArg some e6.1) rfl, ?_⟩
     exact zcd (sk 27 (congrArg some e9.1) (sk 35 (congrArg some e17.1) (zaf _))) (by simp only [pE16, vE16, e6.2, e9.2, e17.2, fS] <;> rfl) (zcc (zbq (zcu rfl rfl rfl rfl)) (fun _ _ h => ⟨h.1.trans (congrArg Value.bool hb9), h.2⟩))
    intro vf pf hR
    have e6 := hR 6 (by decide)
    have e18 := hR 18 (by decide)
    exact ovQ rfl (sk 24 (congrArg some e6.1) (sk 36 (congrArg some e18.1) (zaf _))) (zbq (zay rfl))
   intro vf pf hR
   have e16 : (fun v' post => post = [rowE 3 1 v' ((ptsK (D.getD (((((D.getD k md0).xs).getD i ix0).m).toNat) md0))).length (((ptsK (D.getD (((((D.getD k md0).xs).getD i ix0).m).toNat) md0))).map (Value.int .i64))]) (vf 16) (pf 16) := hR 16 (by decide)
   obtain ⟨v13, vE16⟩ : ∃ x, vf 16 = x := ⟨_, rfl⟩
   obtain ⟨p14, pE16⟩ : ∃ x, pf 16 = x := ⟨_, rfl⟩
   have hR15 := e16
   rw [vE16, pE16] at hR15
   subst hR15
   have e19 := hR 19 (by decide)
   have q0 := hR 0 (by decide)
   have q1 := hR 1 (by decide)
   have q2 := hR 2 (by decide)
   have q3 := hR 3 (by decide)
   have q4 := hR 4 (by decide)
   have q5 := hR 5 (by decide)
   have q6 := hR 6 (by decide)
   have q7 := hR 7 (by decide)
   have q8 := hR 8 (by decide)
   have q9 := hR 9 (by decide)
   have q10 := hR 10 (by decide)
   have q11 := hR 11 (by decide)
   have q12 := hR 12 (by decide)
   have q13 := hR 13 (by decide)
   have q14 := hR 14 (by decide)
   have q15 := hR 15 (by decide)
   have q17 := hR 17 (by decide)
   have q18 := hR 18 (by decide)
   have q19 := hR 19 (by decide)
   refine zcr (zcg [15, 14, 13, 12, 6, 4, 2, 1, 0] _ (sk 37 (congrArg some e19.1) (zaf _)) rfl) (by simp only [pE16, vE16, q0.2, q1.2, q2.2, q3.2, q4.2, q5.2, q6.2, q7.2, q8.2, q9.2, q10.2, q11.2, q12.2, q13.2, q14.2, q15.2, q17.2, q18.2, q19.2, fS] <;> rfl) ?_
   simp only [List.drop_succ_cons, List.drop_zero]
   refine ntQ (fsQ rfl (zdq (zbb (hvQ rfl (vaQ rfl rfl rfl) (enQ 1 rfl ?_)))))
   exact zbw (i + 1) ⟨by omega, fun q hq => by by_cases e : q = i; (subst e; exact ⟨⟨by omega, by omega⟩, by omega⟩); exact hins q (by omega)⟩ (by omega) (saQ rfl) (slQ [2] rfl)
  have hb5a := zck hb5
  refine zcs 20 [[], [0], [], [2], [1, 3], [4], [5], [6], [6], [6], [6], [6], [6], [6], [6], [6], [6], [6], [6], [6, 18]] [18, 19, 20, 21, 22, 23, 24, 25, 26, 27, 28, 29, 30, 31, 32, 33, 34, 35, 36, 37] [.pointer (some ⟨b4, 0 + 0, none⟩), .int .i64 ((((D.getD k md0).xs).getD i ix0).m), .int .i64 (k : Int), .int .i64 ((k : Int) - 1), .bool false, .bool true, .bool true, undef, undef, undef, undef, undef, undef, undef, undef, undef, undef, undef, undef, .bool true] (by kernel_rfl) rfl ?_ ?_
  ·
   exact ⟨iaQ rfl (fdQ 0 rfl rfl rfl) rfl, iaQ rfl (zac rfl rfl rfl (zaa 0 rfl rfl)) rfl, iaQ rfl (zay rfl) rfl, iaQ rfl (vsQ rfl rfl rfl) rfl, .inl ⟨rfl, rq_cb (zar rfl rfl (fun w hm => zav (zdm (zbt _ _ _ w)))) hb5⟩, iaQ rfl (zay rfl) rfl, iaQ rfl (zay rfl) rfl, .inr ⟨rfl, rfl⟩, .inr ⟨rfl, rfl⟩, .inr ⟨rfl, rfl⟩, .inr ⟨rfl, rfl⟩, .inr ⟨rfl, rfl⟩, .inr ⟨rfl, rfl⟩, .inr ⟨rfl, rfl⟩, .inr ⟨rfl, rfl⟩, .inr ⟨rfl, rfl⟩, .inr ⟨rfl, rfl⟩, .inr ⟨rfl, rfl⟩, .inr ⟨rfl, rfl⟩, iaQ rfl (zay rfl) rfl, trivial⟩
  simp only [List.drop_succ_cons, List.drop_zero]
  refine ntQ (zaj rfl (zbk 1 rfl ?_))
  refine zal (zab ?_)
  refine zdx ?_
  refine zab (zae ?_)
  exact zaq rfl rfl (congrArg _ (zbx (fun hp => by first | (obtain ⟨⟨h1, h2⟩, h3⟩ := hp i (by omega); omega))).symm)
 refine ntQ (fcQ rfl ?_)
 refine zbv (zep ?_)
 refine zan (zbf (zbk 1 rfl ?_))
 exact zal (zaq rfl rfl (congrArg _ (zcz (fun q hq => hins q (by omega))).symm))
theorem zfe (b : Nat) (v : Value) (zs : List Int) (s : Int) (w0 : World) (l : List HP) (w : World) (hm0 : Mem w0 (bigE [boxE b #[v] 48, rowE 3 1 v zs.length (zs.map (Value.int .i64))] :: l) w) (hz1 : zs.length ≤ 1000000) (hz2 : ∀ q, 0 ≤ zs.getD q 0 ∧ zs.getD q 0 ≤ 1000000) :
   Calls Try.prog 108 #[.int .i64 s, .pointer (some ⟨b, 0, none⟩)] w (fun e_ w_ => ∃ v_ p_, e_ = .returned v_ ∧ (fun u_ p_ => u_ = .tuple #[] ∧ p_ = bigE [boxE b #[v] 48, rowE 3 1 v (incZ zs s).length ((incZ zs s).map (Value.int .i64))]) v_ p_ ∧ Mem w0 (p_ :: l) w_) := by
 refine zer (N := 14) (args := [.int .i64 s, .pointer (some ⟨b, 0, none⟩)]) Try.func108 rfl rfl hm0 (srQ ?_)
 refine hl_conv (boxE b #[v] 48 :: rowE 3 1 v zs.length (zs.map (Value.int .i64)) :: l) zcw ?_
 refine zak 1 rfl (hvQ rfl (zac rfl rfl rfl (zaa 0 rfl rfl)) (hvQ rfl (lnQ rfl rfl rfl (zam 1 rfl)) (hvQ rfl (vsQ rfl rfl rfl) ?_)))
 refine zdw rfl (zar rfl rfl (fun w hm => zav (zdm (zbt _ _ _ w)))) (zbm (fun h1 => ?_) (fun h1 => ?_))
 ·
  obtain ⟨h1a, h1b⟩ := (zco _ _ _).1 h1
  refine ntQ (zaj rfl (zbb ?_))
  have hz3 := hz2 s.toNat
  refine hvQ rfl (zac rfl rfl rfl (zaa 0 rfl rfl)) (zak 1 rfl (hvQ rfl (riQ 1 rfl rfl rfl rfl (zam 1 rfl)) (hvQ rfl (lzQ rfl rfl rfl (zam 1 rfl)) (hvQ rfl (vaQ rfl rfl rfl) (hvQ rfl (riQ 1 rfl rfl rfl rfl (zam 1 rfl)) ?_)))))
  refine hl_stE (i := 1) (n' := (zs.set ((s).toNat) ((zs.getD ((s).toNat) 0) + 1)).length) (xs' := ((zs.set ((s).toNat) ((zs.getD ((s).toNat) 0) + 1)).map (Value.int .i64))) rfl rfl rfl rfl rfl rfl rfl rfl (by first | omega | (simp only [List.length_set]; omega)) List.length_set.symm (ints_set _ _ _) rfl (zcx ?_)
  refine hq_normal (zbd 2 [1, 0] rfl rfl (by decide) ?_)
  refine zdl (bigE [boxE b #[v] 48, rowE 3 1 v ((zs.set ((s).toNat) ((zs.getD ((s).toNat) 0) + 1)).length) ((zs.set ((s).toNat) ((zs.getD ((s).toNat) 0) + 1)).map (Value.int .i64))] :: l) (conv_big (ps := [boxE b #[v] 48, rowE 3 1 v ((zs.set ((s).toNat) ((zs.getD ((s).toNat) 0) + 1)).length) ((zs.set ((s).toNat) ((zs.getD ((s).toNat) 0) + 1)).map (Value.int .i64))])) ?_
  refine zcv (rs := []) (vs := []) rfl trivial rfl (fun w hm => ⟨_, _, rfl, ⟨rfl, by unfold incZ; rw [if_pos ⟨by omega, by omega⟩]⟩, hm.sub (.refl _)⟩)
 have h1a := zck h1
 refine ntQ (fsQ rfl ?_)
 refine hq_normal (zbd 2 [1, 0] rfl rfl (by decide) ?_)
 refine zdl (bigE [boxE b #[v] 48, rowE 3 1 v zs.length (zs.map (Value.int .i64))] :: l) (conv_big (ps := [boxE b #[v] 48, rowE 3 1 v zs.length (zs.map (Value.int .i64))])) ?_
 refine zcv (rs := []) (vs := []) rfl trivial rfl (fun w hm => ⟨_, _, rfl, ⟨rfl, by unfold incZ; rw [if_neg (by omega)]⟩, hm.sub (.refl _)⟩)
theorem driverCounts_ret (D : List Md) (k : Nat) (v : Value) (w : World) (hd : RdsDs w v D) (hc : CtsP D k) :
   Calls Try.prog 50 #[.agg #[v], .int .i64 (k : Int)] w (Ret w (fun v' post => post = [rowE 3 1 v' ((cntZ (D.getD k md0).ss.length (drvL D (D.getD k md0)))).length (((cntZ (D.getD k md0).ss.length (drvL D (D.getD k md0)))).map (Value.int .i64))])) := by
 have hd9 := sml hd.row
 obtain ⟨hkl, hcnt, hins⟩ := hc
 obtain ⟨hn1, hn2, hn3, hn4⟩ := hcnt.md k hkl
 have hdl := hcnt.len
 refine zcf (N := 89) (args := [.agg #[v], .int .i64 (k : Int)]) Try.func50 rfl rfl (srQ ?_)
 refine zdv rfl (zdp rfl rfl) ?_
 intro b1
 refine zba 1 rfl (srQ (hvQ rfl (fdQ 0 rfl rfl rfl) (hvQ rfl (zac rfl rfl rfl (zaa 0 rfl rfl)) (zak 1 rfl (hvQ rfl (riQ 4 rfl rfl rfl rfl (zag hd.row)) ?_)))))
 refine hvQ rfl (zbi (us := [(D.getD k md0).sv, (D.getD k md0).av, (D.getD k md0).iv, (D.getD k md0).mv]) rfl rfl rfl rfl (zag hd.row) (by omega) rfl (zca mdC 4 (fun _ => rfl) D md0 (show k < _ by omega) rfl)) (zdv rfl (zbj (z := .agg #[.slice none 0 0, .slice none 0 0, .slice none 0 0, .slice none 0 0]) rfl rfl) ?_)
 intro b2
 refine zbn (cs' := #[(D.getD k md0).sv, (D.getD k md0).av, (D.getD k md0).iv, (D.getD k md0).mv]) (i := 0) (off := 0) (us := [(D.getD k md0).sv, (D.getD k md0).av, (D.getD k md0).iv, (D.getD k md0).mv]) rfl rfl rfl rfl rfl rfl rfl (zad (hd.at (k := k) (by omega)).s.one (zad (hd.at (k := k) (by omega)).g.one (zad (hd.at (k := k) (by omega)).x.one (zad (hd.at (k := k) (by omega)).m.one zbg)))) rfl rfl rfl (ntQ (srQ (hvQ rfl (fdQ 0 rfl rfl rfl) (hvQ rfl (zac rfl rfl rfl (zaa 0 rfl rfl)) (hvQ rfl (lnQ rfl rfl rfl (zag ((hd.at (k := k) (by omega)).s))) ?_)))))
 refine zeb rfl (rq_make (z := .int .i64 0) (s := 1) (bytes := 8) (n := (List.replicate (((D.getD k md0).ss).length) (0 : Int)).length) (cs := ((List.replicate (((D.getD k md0).ss).length) (0 : Int)).map (Value.int .i64))) rfl Try.underlying48 rfl (by decide) rfl rfl (by first | (rw [List.length_replicate]; done) | (rw [List.length_replicate]; omega)) (by first | (rw [List.length_replicate]; done) | (rw [List.length_replicate]; omega)) (by rw [List.length_replicate]; omega) (ints_make _)) ?_
 intro g3
 refine zdv rfl (zbj (z := .slice none 0 0) rfl rfl) ?_
 intro b4
 refine zec (i := 0) (cs' := #[.slice (some ⟨g3, 0, none⟩) ((List.replicate (((D.getD k md0).ss).length) (0 : Int)).length) ((List.replicate (((D.getD k md0).ss).length) (0 : Int)).length)]) rfl rfl rfl rfl rfl rfl rfl rfl rfl rfl rfl (ntQ (srQ (hvQ rfl (rv_makeFunc (us := []) (vs := [.pointer (some ⟨b4, 0, none⟩)]) rfl rfl rfl) (zba 1 rfl (ssrQ ?_)))))
 refine hl_pick 4 [3, 2, 1, 0] rfl rfl (by decide) ?_
 refine hl_conv [bigE [boxE b4 #[.slice (some ⟨g3, 0, none⟩) ((List.replicate (((D.getD k md0).ss).length) (0 : Int)).length) ((List.replicate (((D.getD k md0).ss).length) (0 : Int)).length)] 48, rowE 3 1 (.slice (some ⟨g3, 0, none⟩) ((List.replicate (((D.getD k md0).ss).length) (0 : Int)).length) ((List.replicate (((D.getD k md0).ss).length) (0 : Int)).length)) ((List.replicate (((D.getD k md0).ss).length) (0 : Int)).length) ((List.replicate (((D.getD k md0).ss).length) (0 : Int)).map (Value.int .i64))], boxE b2 #[(D.getD k md0).sv, (D.getD k md0).av, (D.getD k md0).iv, (D.getD k md0).mv] 35, boxE b1 #[v] 26] (conv_big (ps := [boxE b4 #[.slice (some ⟨g3, 0, none⟩) ((List.replicate (((D.getD k md0).ss).length) (0 : Int)).length) ((List.replicate (((D.getD k md0).ss).length) (0 : Int)).length)] 48, rowE 3 1 (.slice (some ⟨g3, 0, none⟩) ((List.replicate (((D.getD k md0).ss).length) (0 : Int)).length) ((List.replicate (((D.getD k md0).ss).length) (0 : Int)).length)) ((List.replicate (((D.getD k md0).ss).length) (0 : Int)).length) ((List.replicate (((D.getD k md0).ss).length) (0 : Int)).map (Value.int .i64))])) ?_
 rw [cntZ_nil]
 refine hvQ rfl (fdQ 1 rfl rfl rfl) (hvQ rfl (zac rfl rfl rfl (zaa 1 rfl rfl)) (hvQ rfl (lnQ rfl rfl rfl (zag ((hd.at (k := k) (by omega)).g))) (zba 1 rfl (zbh ?_))))
 refine zej [bigE [boxE b4 #[.slice (some ⟨g3, 0, none⟩) ((cntZ (D.getD k md0).ss.length ([] : List Int)).length) ((cntZ (D.getD k md0).ss.length ([] : List Int)).length)] 48, rowE 3 1 (.slice (some ⟨g3, 0, none⟩) ((cntZ (D.getD k md0).ss.length ([] : List Int)).length) ((cntZ (D.getD k md0).ss.length ([] : List Int)).length)) (cntZ (D.getD k md0).ss.length (((D.getD k md0).gs.take 0).map As.t)).length ((cntZ (D.getD k md0).ss.length (((D.getD k md0).gs.take 0).map As.t)).map (Value.int .i64))], boxE b2 #[(D.getD k md0).sv, (D.getD k md0).av, (D.getD k md0).iv, (D.getD k md0).mv] 35, boxE b1 #[v] 26] (fun w hm => by rw [show ((D.getD k md0).gs.take 0).map As.t = ([] : List Int) from rfl]; exact hm) ?_
 refine lkQ1 (α := Nat) [0, 1, 2, 4, 5, 6, 7, 28, 29] rfl (fun i => [bigE [boxE b4 #[.slice (some ⟨g3, 0, none⟩) ((cntZ (D.getD k md0).ss.length ([] : List Int)).length) ((cntZ (D.getD k md0).ss.length ([] : List Int)).length)] 48, rowE 3 1 (.slice (some ⟨g3, 0, none⟩) ((cntZ (D.getD k md0).ss.length ([] : List Int)).length) ((cntZ (D.getD k md0).ss.length ([] : List Int)).length)) (cntZ (D.getD k md0).ss.length (((D.getD k md0).gs.take i).map As.t)).length ((cntZ (D.getD k md0).ss.length (((D.getD k md0).gs.take i).map As.t)).map (Value.int .i64))], boxE b2 #[(D.getD k md0).sv, (D.getD k md0).av, (D.getD k md0).iv, (D.getD k md0).mv] 35, boxE b1 #[v] 26]) (fun i => [(30, .int .i64 (i : Int))]) (fun i => i ≤ (D.getD k md0).gs.length) (fun i => (D.getD k md0).gs.length - i) 0 (Nat.zero_le _) (saQ rfl) (pfQ rfl) ?_
 intro i hi5
 have hi := hi5
 refine srQ ?_
 refine zcb rfl rfl rfl rfl rfl rfl (fun h6 => ?_) (fun h6 => ?_)
 ·
  refine ntQ (tcQ rfl (zdi (sbQ (srQ (hvQ rfl (riQ 2 rfl rfl rfl rfl (zag ((hd.at (k := k) (by omega)).g))) ?_)))))
  refine hvQ rfl (zbi (us := [.int .i64 ((((D.getD k md0).gs).getD i as0).t), (((D.getD k md0).gs).getD i as0).ov]) rfl rfl rfl rfl (zag ((hd.at (k := k) (by omega)).g)) (by omega) rfl (zca asC 2 (fun _ => rfl) ((D.getD k md0).gs) as0 (show i < _ by omega) rfl)) (zdv rfl (zbj (z := .agg #[.int .i64 0, .slice none 0 0]) rfl rfl) ?_)
  intro b7
  refine zbn (cs' := #[.int .i64 ((((D.getD k md0).gs).getD i as0).t), (((D.getD k md0).gs).getD i as0).ov]) (i := 0) (off := 0) (us := [.int .i64 ((((D.getD k md0).gs).getD i as0).t), (((D.getD k md0).gs).getD i as0).ov]) rfl rfl rfl rfl rfl rfl rfl (zad rfl (zad ((hd.at (k := k) (by omega)).o.at (k := i) (by omega)).one zbg)) rfl rfl rfl (ntQ (reQ 1 rfl (hvQ rfl (fdQ 0 rfl rfl rfl) (hvQ rfl (zac rfl rfl rfl (zaa 0 rfl rfl)) ?_))))
  refine hl_callMF (R := (fun u_ p_ => u_ = .tuple #[] ∧ p_ = bigE [boxE b4 #[.slice (some ⟨g3, 0, none⟩) ((cntZ (D.getD k md0).ss.length ([] : List Int)).length) ((cntZ (D.getD k md0).ss.length ([] : List Int)).length)] 48, rowE 3 1 (.slice (some ⟨g3, 0, none⟩) ((cntZ (D.getD k md0).ss.length ([] : List Int)).length) ((cntZ (D.getD k md0).ss.length ([] : List Int)).length)) (incZ (cntZ (D.getD k md0).ss.length (((D.getD k md0).gs.take i).map As.t)) ((((D.getD k md0).gs).getD i as0).t)).length ((incZ (cntZ (D.getD k md0).ss.length (((D.getD k md0).gs.take i).map As.t)) ((((D.getD k md0).gs).getD i as0).t)).map (Value.int .i64))])) 1 rfl rfl rfl rfl rfl rfl (fun L w hX hm => zfe b4 (.slice (some ⟨g3, 0, none⟩) ((cntZ (D.getD k md0).ss.length ([] : List Int)).length) ((cntZ (D.getD k md0).ss.length ([] : List Int)).length)) (cntZ (D.getD k md0).ss.length (((D.getD k md0).gs.take i).map As.t)) ((((D.getD k md0).gs).getD i as0).t) _ L w hm (by rw [zdo]; omega) (fun q => by have h9 := cntZ_le (n := (D.getD k md0).ss.length) (L := ((D.getD k md0).gs.take i).map As.t) (M := 1000) (by simp only [List.length_append, List.length_map, List.length_take]; omega) q; omega)) ?_
  intro v8 p9 hR10
  obtain ⟨rfl, rfl⟩ := hR10
  rw [cntZ_inc]
  refine zci (l' := [boxE b7 #[.int .i64 ((((D.getD k md0).gs).getD i as0).t), (((D.getD k md0).gs).getD i as0).ov] 89, bigE [boxE b4 #[.slice (some ⟨g3, 0, none⟩) ((cntZ (D.getD k md0).ss.length ([] : List Int)).length) ((cntZ (D.getD k md0).ss.length ([] : List Int)).length)] 48, rowE 3 1 (.slice (some ⟨g3, 0, none⟩) ((cntZ (D.getD k md0).ss.length ([] : List Int)).length) ((cntZ (D.getD k md0).ss.length ([] : List Int)).length)) (cntZ (D.getD k md0).ss.length (((D.getD k md0).gs.take i).map As.t ++ [(((D.getD k md0).gs).getD i as0).t])).length ((cntZ (D.getD k md0).ss.length (((D.getD k md0).gs.take i).map As.t ++ [(((D.getD k md0).gs).getD i as0).t])).map (Value.int .i64))], boxE b2 #[(D.getD k md0).sv, (D.getD k md0).av, (D.getD k md0).iv, (D.getD k md0).mv] 35, boxE b1 #[v] 26]) rfl ?_
  refine zcx (zdq (zbb (hvQ rfl (vaQ rfl rfl rfl) (enQ 1 rfl ?_))))
  refine zdl [boxE b7 #[.int .i64 ((((D.getD k md0).gs).getD i as0).t), (((D.getD k md0).gs).getD i as0).ov] 89, bigE [boxE b4 #[.slice (some ⟨g3, 0, none⟩) ((cntZ (D.getD k md0).ss.length ([] : List Int)).length) ((cntZ (D.getD k md0).ss.length ([] : List Int)).length)] 48, rowE 3 1 (.slice (some ⟨g3, 0, none⟩) ((cntZ (D.getD k md0).ss.length ([] : List Int)).length) ((cntZ (D.getD k md0).ss.length ([] : List Int)).length)) (cntZ (D.getD k md0).ss.length (((D.getD k md0).gs.take (i + 1)).map As.t)).length ((cntZ (D.getD k md0).ss.length (((D.getD k md0).gs.take (i + 1)).map As.t)).map (Value.int .i64))], boxE b2 #[(D.getD k md0).sv, (D.getD k md0).av, (D.getD k md0).iv, (D.getD k md0).mv] 35, boxE b1 #[v] 26] (fun w hm => by rw [show ((D.getD k md0).gs.take (i + 1)).map As.t = ((D.getD k md0).gs.take i).map As.t ++ [(((D.getD k md0).gs).getD i as0).t] from take_map As.t as0 (by omega)]; exact hm) ?_
  exact zbw (i + 1) (by omega) (by omega) (saQ rfl) (slQ [1, 0, 0] rfl)
 refine ntQ (fcQ rfl ?_)
 refine zbv (zep ?_)
 refine zan (zbf (ssrQ (hvQ rfl (fdQ 3 rfl rfl rfl) (hvQ rfl (zac rfl rfl rfl (zaa 1 rfl rfl)) (hvQ rfl (lnQ rfl rfl rfl (zag ((hd.at (k := k) (by omega)).m))) (zba 1 rfl (zbh ?_)))))))
 refine zej [bigE [boxE b4 #[.slice (some ⟨g3, 0, none⟩) ((cntZ (D.getD k md0).ss.length ([] : List Int)).length) ((cntZ (D.getD k md0).ss.length ([] : List Int)).length)] 48, rowE 3 1 (.slice (some ⟨g3, 0, none⟩) ((cntZ (D.getD k md0).ss.length ([] : List Int)).length) ((cntZ (D.getD k md0).ss.length ([] : List Int)).length)) (cntZ (D.getD k md0).ss.length ((D.getD k md0).gs.map As.t ++ ((D.getD k md0).ms.take 0).map Mm.o)).length ((cntZ (D.getD k md0).ss.length ((D.getD k md0).gs.map As.t ++ ((D.getD k md0).ms.take 0).map Mm.o)).map (Value.int .i64))], boxE b2 #[(D.getD k md0).sv, (D.getD k md0).av, (D.getD k md0).iv, (D.getD k md0).mv] 35, boxE b1 #[v] 26] (fun w hm => by rw [show (D.getD k md0).gs.map As.t ++ ((D.getD k md0).ms.take 0).map Mm.o = ((D.getD k md0).gs.take i).map As.t by rw [List.take_zero, List.map_nil, List.append_nil, show i = (D.getD k md0).gs.length by omega, List.take_length]]; exact hm) ?_
 refine lkQ1 (α := Nat) [0, 1, 2, 4, 5, 6, 7, 31, 40, 41] rfl (fun i => [bigE [boxE b4 #[.slice (some ⟨g3, 0, none⟩) ((cntZ (D.getD k md0).ss.length ([] : List Int)).length) ((cntZ (D.getD k md0).ss.length ([] : List Int)).length)] 48, rowE 3 1 (.slice (some ⟨g3, 0, none⟩) ((cntZ (D.getD k md0).ss.length ([] : List Int)).length) ((cntZ (D.getD k md0).ss.length ([] : List Int)).length)) (cntZ (D.getD k md0).ss.length ((D.getD k md0).gs.map As.t ++ ((D.getD k md0).ms.take i).map Mm.o)).length ((cntZ (D.getD k md0).ss.length ((D.getD k md0).gs.map As.t ++ ((D.getD k md0).ms.take i).map Mm.o)).map (Value.int .i64))], boxE b2 #[(D.getD k md0).sv, (D.getD k md0).av, (D.getD k md0).iv, (D.getD k md0).mv] 35, boxE b1 #[v] 26]) (fun i => [(42, .int .i64 (i : Int))]) (fun i => i ≤ (D.getD k md0).ms.length) (fun i => (D.getD k md0).ms.length - i) 0 (Nat.zero_le _) (saQ rfl) (pfQ rfl) ?_
 intro i hi11
 have hi := hi11
 refine srQ ?_
 refine zcb rfl rfl rfl rfl rfl rfl (fun h12 => ?_) (fun h12 => ?_)
 ·
  refine ntQ (tcQ rfl (zdi (sbQ (srQ (hvQ rfl (riQ 4 rfl rfl rfl rfl (zag ((hd.at (k := k) (by omega)).m))) ?_)))))
  refine hvQ rfl (zbi (us := [.int .i64 ((((D.getD k md0).ms).getD i mm0).a), .int .i64 ((((D.getD k md0).ms).getD i mm0).d), .int .i64 ((((D.getD k md0).ms).getD i mm0).w), .int .i64 ((((D.getD k md0).ms).getD i mm0).o)]) rfl rfl rfl rfl (zag ((hd.at (k := k) (by omega)).m)) (by omega) rfl (zca mmC 4 (fun _ => rfl) ((D.getD k md0).ms) mm0 (show i < _ by omega) rfl)) (zdv rfl (zbj (z := .agg #[.int .i64 0, .int .i64 0, .int .i64 0, .int .i64 0]) rfl rfl) ?_)
  intro b13
  refine zbn (cs' := #[.int .i64 ((((D.getD k md0).ms).getD i mm0).a), .int .i64 ((((D.getD k md0).ms).getD i mm0).d), .int .i64 ((((D.getD k md0).ms).getD i mm0).w), .int .i64 ((((D.getD k md0).ms).getD i mm0).o)]) (i := 0) (off := 0) (us := [.int .i64 ((((D.getD k md0).ms).getD i mm0).a), .int .i64 ((((D.getD k md0).ms).getD i mm0).d), .int .i64 ((((D.getD k md0).ms).getD i mm0).w), .int .i64 ((((D.getD k md0).ms).getD i mm0).o)]) rfl rfl rfl rfl rfl rfl rfl (zad rfl (zad rfl (zad rfl (zad rfl zbg)))) rfl rfl rfl (ntQ (reQ 1 rfl (hvQ rfl (fdQ 3 rfl rfl rfl) (hvQ rfl (zac rfl rfl rfl (zaa 0 rfl rfl)) ?_))))
  refine hl_callMF (R := (fun u_ p_ => u_ = .tuple #[] ∧ p_ = bigE [boxE b4 #[.slice (some ⟨g3, 0, none⟩) ((cntZ (D.getD k md0).ss.length ([] : List Int)).length) ((cntZ (D.getD k md0).ss.length ([] : List Int)).length)] 48, rowE 3 1 (.slice (some ⟨g3, 0, none⟩) ((cntZ (D.getD k md0).ss.length ([] : List Int)).length) ((cntZ (D.getD k md0).ss.length ([] : List Int)).length)) (incZ (cntZ (D.getD k md0).ss.length ((D.getD k md0).gs.map As.t ++ ((D.getD k md0).ms.take i).map Mm.o)) ((((D.getD k md0).ms).getD i mm0).o)).length ((incZ (cntZ (D.getD k md0).ss.length ((D.getD k md0).gs.map As.t ++ ((D.getD k md0).ms.take i).map Mm.o)) ((((D.getD k md0).ms).getD i mm0).o)).map (Value.int .i64))])) 1 rfl rfl rfl rfl rfl rfl (fun L w hX hm => zfe b4 (.slice (some ⟨g3, 0, none⟩) ((cntZ (D.getD k md0).ss.length ([] : List Int)).length) ((cntZ (D.getD k md0).ss.length ([] : List Int)).length)) (cntZ (D.getD k md0).ss.length ((D.getD k md0).gs.map As.t ++ ((D.getD k md0).ms.take i).map Mm.o)) ((((D.getD k md0).ms).getD i mm0).o) _ L w hm (by rw [zdo]; omega) (fun q => by have h9 := cntZ_le (n := (D.getD k md0).ss.length) (L := (D.getD k md0).gs.map As.t ++ ((D.getD k md0).ms.take i).map Mm.o) (M := 1000) (by simp only [List.length_append, List.length_map, List.length_take]; omega) q; omega)) ?_
  intro v14 p15 hR16
  obtain ⟨rfl, rfl⟩ := hR16
  rw [cntZ_inc]
  refine zci (l' := [boxE b13 #[.int .i64 ((((D.getD k md0).ms).getD i mm0).a), .int .i64 ((((D.getD k md0).ms).getD i mm0).d), .int .i64 ((((D.getD k md0).ms).getD i mm0).w), .int .i64 ((((D.getD k md0).ms).getD i mm0).o)] 94, bigE [boxE b4 #[.slice (some ⟨g3, 0, none⟩) ((cntZ (D.getD k md0).ss.length ([] : List Int)).length) ((cntZ (D.getD k md0).ss.length ([] : List Int)).length)] 48, rowE 3 1 (.slice (some ⟨g3, 0, none⟩) ((cntZ (D.getD k md0).ss.length ([] : List Int)).length) ((cntZ (D.getD k md0).ss.length ([] : List Int)).length)) (cntZ (D.getD k md0).ss.length ((D.getD k md0).gs.map As.t ++ ((D.getD k md0).ms.take i).map Mm.o ++ [(((D.getD k md0).ms).getD i mm0).o])).length ((cntZ (D.getD k md0).ss.length ((D.getD k md0).gs.map As.t ++ ((D.getD k md0).ms.take i).map Mm.o ++ [(((D.getD k md0).ms).getD i mm0).o])).map (Value.int .i64))], boxE b2 #[(D.getD k md0).sv, (D.getD k md0).av, (D.getD k md0).iv, (D.getD k md0).mv] 35, boxE b1 #[v] 26]) rfl ?_
  refine zcx (zdq (zbb (hvQ rfl (vaQ rfl rfl rfl) (enQ 1 rfl ?_))))
  refine zdl [boxE b13 #[.int .i64 ((((D.getD k md0).ms).getD i mm0).a), .int .i64 ((((D.getD k md0).ms).getD i mm0).d), .int .i64 ((((D.getD k md0).ms).getD i mm0).w), .int .i64 ((((D.getD k md0).ms).getD i mm0).o)] 94, bigE [boxE b4 #[.slice (some ⟨g3, 0, none⟩) ((cntZ (D.getD k md0).ss.length ([] : List Int)).length) ((cntZ (D.getD k md0).ss.length ([] : List Int)).length)] 48, rowE 3 1 (.slice (some ⟨g3, 0, none⟩) ((cntZ (D.getD k md0).ss.length ([] : List Int)).length) ((cntZ (D.getD k md0).ss.length ([] : List Int)).length)) (cntZ (D.getD k md0).ss.length ((D.getD k md0).gs.map As.t ++ ((D.getD k md0).ms.take (i + 1)).map Mm.o)).length ((cntZ (D.getD k md0).ss.length ((D.getD k md0).gs.map As.t ++ ((D.getD k md0).ms.take (i + 1)).map Mm.o)).map (Value.int .i64))], boxE b2 #[(D.getD k md0).sv, (D.getD k md0).av, (D.getD k md0).iv, (D.getD k md0).mv] 35, boxE b1 #[v] 26] (fun w hm => by rw [show (D.getD k md0).gs.map As.t ++ ((D.getD k md0).ms.take (i + 1)).map Mm.o = (D.getD k md0).gs.map As.t ++ ((D.getD k md0).ms.take i).map Mm.o ++ [(((D.getD k md0).ms).getD i mm0).o] by rw [take_map Mm.o mm0 (by omega), List.append_assoc]]; exact hm) ?_
  exact zbw (i + 1) (by omega) (by omega) (saQ rfl) (slQ [1, 0, 0] rfl)
 refine ntQ (fcQ rfl ?_)
 refine zbv (zep ?_)
 refine zan (zbf (ssrQ (hvQ rfl (fdQ 2 rfl rfl rfl) (hvQ rfl (zac rfl rfl rfl (zaa 1 rfl rfl)) (hvQ rfl (lnQ rfl rfl rfl (zag ((hd.at (k := k) (by omega)).x))) (zba 1 rfl (zbh ?_)))))))
 refine zej [bigE [boxE b4 #[.slice (some ⟨g3, 0, none⟩) ((cntZ (D.getD k md0).ss.length ([] : List Int)).length) ((cntZ (D.getD k md0).ss.length ([] : List Int)).length)] 48, rowE 3 1 (.slice (some ⟨g3, 0, none⟩) ((cntZ (D.getD k md0).ss.length ([] : List Int)).length) ((cntZ (D.getD k md0).ss.length ([] : List Int)).length)) (cntZ (D.getD k md0).ss.length ((D.getD k md0).gs.map As.t ++ (D.getD k md0).ms.map Mm.o ++ ((D.getD k md0).xs.take 0).flatMap (xoK D))).length ((cntZ (D.getD k md0).ss.length ((D.getD k md0).gs.map As.t ++ (D.getD k md0).ms.map Mm.o ++ ((D.getD k md0).xs.take 0).flatMap (xoK D))).map (Value.int .i64))], boxE b2 #[(D.getD k md0).sv, (D.getD k md0).av, (D.getD k md0).iv, (D.getD k md0).mv] 35, boxE b1 #[v] 26] (fun w hm => by rw [show (D.getD k md0).gs.map As.t ++ (D.getD k md0).ms.map Mm.o ++ ((D.getD k md0).xs.take 0).flatMap (xoK D) = (D.getD k md0).gs.map As.t ++ ((D.getD k md0).ms.take i).map Mm.o by rw [List.take_zero, List.flatMap_nil, List.append_nil, show i = (D.getD k md0).ms.length by omega, List.take_length]]; exact hm) ?_
 refine lkQ1 (α := Nat) [0, 1, 2, 4, 5, 6, 7, 31, 43, 52, 53] rfl (fun i => [bigE [boxE b4 #[.slice (some ⟨g3, 0, none⟩) ((cntZ (D.getD k md0).ss.length ([] : List Int)).length) ((cntZ (D.getD k md0).ss.length ([] : List Int)).length)] 48, rowE 3 1 (.slice (some ⟨g3, 0, none⟩) ((cntZ (D.getD k md0).ss.length ([] : List Int)).length) ((cntZ (D.getD k md0).ss.length ([] : List Int)).length)) (cntZ (D.getD k md0).ss.length ((D.getD k md0).gs.map As.t ++ (D.getD k md0).ms.map Mm.o ++ ((D.getD k md0).xs.take i).flatMap (xoK D))).length ((cntZ (D.getD k md0).ss.length ((D.getD k md0).gs.map As.t ++ (D.getD k md0).ms.map Mm.o ++ ((D.getD k md0).xs.take i).flatMap (xoK D))).map (Value.int .i64))], boxE b2 #[(D.getD k md0).sv, (D.getD k md0).av, (D.getD k md0).iv, (D.getD k md0).mv] 35, boxE b1 #[v] 26]) (fun i => [(54, .int .i64 (i : Int))]) (fun i => i ≤ (D.getD k md0).xs.length) (fun i => (D.getD k md0).xs.length - i) 0 (Nat.zero_le _) (saQ rfl) (pfQ rfl) ?_
 intro i hi17
 have hi := hi17
 have hfx := flatX_le (D := D) (L := (D.getD k md0).xs) i hi
 refine srQ ?_
 refine zcb rfl rfl rfl rfl rfl rfl (fun h18 => ?_) (fun h18 => ?_)
 ·
  refine ntQ (tcQ rfl (zdi (sbQ (srQ (hvQ rfl (riQ 3 rfl rfl rfl rfl (zag ((hd.at (k := k) (by omega)).x))) ?_)))))
  refine hvQ rfl (zbi (us := [.int .i64 ((((D.getD k md0).xs).getD i ix0).m), .int .i64 ((((D.getD k md0).xs).getD i ix0).p), (((D.getD k md0).xs).getD i ix0).pv]) rfl rfl rfl rfl (zag ((hd.at (k := k) (by omega)).x)) (by omega) rfl (zca ixC 3 (fun _ => rfl) ((D.getD k md0).xs) ix0 (show i < _ by omega) rfl)) (zdv rfl (zbj (z := .agg #[.int .i64 0, .int .i64 0, .slice none 0 0]) rfl rfl) ?_)
  intro b19
  refine zbn (cs' := #[.int .i64 ((((D.getD k md0).xs).getD i ix0).m), .int .i64 ((((D.getD k md0).xs).getD i ix0).p), (((D.getD k md0).xs).getD i ix0).pv]) (i := 0) (off := 0) (us := [.int .i64 ((((D.getD k md0).xs).getD i ix0).m), .int .i64 ((((D.getD k md0).xs).getD i ix0).p), (((D.getD k md0).xs).getD i ix0).pv]) rfl rfl rfl rfl rfl rfl rfl (zad rfl (zad rfl (zad ((hd.at (k := k) (by omega)).p.at (k := i) (by omega)).one zbg))) rfl rfl rfl (ntQ (srQ ?_))
  obtain ⟨⟨hm0, hm1⟩, hpe⟩ := hins i (by omega)
  refine hvQ rfl (fdQ 0 rfl rfl rfl) (hvQ rfl (zac rfl rfl rfl (zaa 3 rfl rfl)) (hvQ rfl (fdQ 0 rfl rfl rfl) (hvQ rfl (zac rfl rfl rfl (zaa 0 rfl rfl)) (hvQ rfl (riQ 4 rfl rfl rfl rfl (zag hd.row)) ?_))))
  refine hvQ rfl (zbi (us := [(D.getD (((((D.getD k md0).xs).getD i ix0).m).toNat) md0).sv, (D.getD (((((D.getD k md0).xs).getD i ix0).m).toNat) md0).av, (D.getD (((((D.getD k md0).xs).getD i ix0).m).toNat) md0).iv, (D.getD (((((D.getD k md0).xs).getD i ix0).m).toNat) md0).mv]) rfl rfl rfl rfl (zag hd.row) (by omega) rfl (zca mdC 4 (fun _ => rfl) D md0 (show ((((D.getD k md0).xs).getD i ix0).m).toNat < _ by omega) rfl)) (zdv rfl (zbj (z := .agg #[.slice none 0 0, .slice none 0 0, .slice none 0 0, .slice none 0 0]) rfl rfl) ?_)
  intro b20
  refine zbn (cs' := #[(D.getD (((((D.getD k md0).xs).getD i ix0).m).toNat) md0).sv, (D.getD (((((D.getD k md0).xs).getD i ix0).m).toNat) md0).av, (D.getD (((((D.getD k md0).xs).getD i ix0).m).toNat) md0).iv, (D.getD (((((D.getD k md0).xs).getD i ix0).m).toNat) md0).mv]) (i := 0) (off := 0) (us := [(D.getD (((((D.getD k md0).xs).getD i ix0).m).toNat) md0).sv, (D.getD (((((D.getD k md0).xs).getD i ix0).m).toNat) md0).av, (D.getD (((((D.getD k md0).xs).getD i ix0).m).toNat) md0).iv, (D.getD (((((D.getD k md0).xs).getD i ix0).m).toNat) md0).mv]) rfl rfl rfl rfl rfl rfl rfl (zad (hd.at (k := ((((D.getD k md0).xs).getD i ix0).m).toNat) (by omega)).s.one (zad (hd.at (k := ((((D.getD k md0).xs).getD i ix0).m).toNat) (by omega)).g.one (zad (hd.at (k := ((((D.getD k md0).xs).getD i ix0).m).toNat) (by omega)).x.one (zad (hd.at (k := ((((D.getD k md0).xs).getD i ix0).m).toNat) (by omega)).m.one zbg)))) rfl rfl rfl ?_
  refine ntQ (srQ (hvQ rfl (zaw (cs := [(D.getD (((((D.getD k md0).xs).getD i ix0).m).toNat) md0).sv, (D.getD (((((D.getD k md0).xs).getD i ix0).m).toNat) md0).av, (D.getD (((((D.getD k md0).xs).getD i ix0).m).toNat) md0).iv, (D.getD (((((D.getD k md0).xs).getD i ix0).m).toNat) md0).mv]) rfl rfl rfl rfl rfl (zau 0 rfl 0 rfl)) ?_))
  refine hl_q rfl rfl rfl (zar rfl rfl (fun w hm => zeh (D.getD (((((D.getD k md0).xs).getD i ix0).m).toNat) md0) w ((hd.at (by omega)).below hm.bel))) ?_
  intro v21 p22 hR23
  subst hR23
  refine hvQ rfl (lnQ rfl rfl rfl (zam 0 rfl)) (zba 1 rfl (zbh ?_))
  refine zej [rowE 3 1 v21 ((ptsK (D.getD (((((D.getD k md0).xs).getD i ix0).m).toNat) md0)).length) ((ptsK (D.getD (((((D.getD k md0).xs).getD i ix0).m).toNat) md0)).map (Value.int .i64)), boxE b20 #[(D.getD (((((D.getD k md0).xs).getD i ix0).m).toNat) md0).sv, (D.getD (((((D.getD k md0).xs).getD i ix0).m).toNat) md0).av, (D.getD (((((D.getD k md0).xs).getD i ix0).m).toNat) md0).iv, (D.getD (((((D.getD k md0).xs).getD i ix0).m).toNat) md0).mv] 35, boxE b19 #[.int .i64 ((((D.getD k md0).xs).getD i ix0).m), .int .i64 ((((D.getD k md0).xs).getD i ix0).p), (((D.getD k md0).xs).getD i ix0).pv] 63, bigE [boxE b4 #[.slice (some ⟨g3, 0, none⟩) ((cntZ (D.getD k md0).ss.length ([] : List Int)).length) ((cntZ (D.getD k md0).ss.length ([] : List Int)).length)] 48, rowE 3 1 (.slice (some ⟨g3, 0, none⟩) ((cntZ (D.getD k md0).ss.length ([] : List Int)).length) ((cntZ (D.getD k md0).ss.length ([] : List Int)).length)) (cntZ (D.getD k md0).ss.length ((D.getD k md0).gs.map As.t ++ (D.getD k md0).ms.map Mm.o ++ ((D.getD k md0).xs.take i).flatMap (xoK D) ++ xoA D ((D.getD k md0).xs.getD i ix0) 0)).length ((cntZ (D.getD k md0).ss.length ((D.getD k md0).gs.map As.t ++ (D.getD k md0).ms.map Mm.o ++ ((D.getD k md0).xs.take i).flatMap (xoK D) ++ xoA D ((D.getD k md0).xs.getD i ix0) 0)).map (Value.int .i64))], boxE b2 #[(D.getD k md0).sv, (D.getD k md0).av, (D.getD k md0).iv, (D.getD k md0).mv] 35, boxE b1 #[v] 26] (fun w hm => by rw [show (D.getD k md0).gs.map As.t ++ (D.getD k md0).ms.map Mm.o ++ ((D.getD k md0).xs.take i).flatMap (xoK D) ++ xoA D ((D.getD k md0).xs.getD i ix0) 0 = (D.getD k md0).gs.map As.t ++ (D.getD k md0).ms.map Mm.o ++ ((D.getD k md0).xs.take i).flatMap (xoK D) from List.append_nil _]; exact hm) ?_
  refine lkQ1 (α := Nat) [0, 1, 2, 4, 5, 6, 7, 13, 14, 31, 43, 52, 53, 54, 55, 65, 66] rfl (fun j => [rowE 3 1 v21 ((ptsK (D.getD (((((D.getD k md0).xs).getD i ix0).m).toNat) md0)).length) ((ptsK (D.getD (((((D.getD k md0).xs).getD i ix0).m).toNat) md0)).map (Value.int .i64)), boxE b20 #[(D.getD (((((D.getD k md0).xs).getD i ix0).m).toNat) md0).sv, (D.getD (((((D.getD k md0).xs).getD i ix0).m).toNat) md0).av, (D.getD (((((D.getD k md0).xs).getD i ix0).m).toNat) md0).iv, (D.getD (((((D.getD k md0).xs).getD i ix0).m).toNat) md0).mv] 35, boxE b19 #[.int .i64 ((((D.getD k md0).xs).getD i ix0).m), .int .i64 ((((D.getD k md0).xs).getD i ix0).p), (((D.getD k md0).xs).getD i ix0).pv] 63, bigE [boxE b4 #[.slice (some ⟨g3, 0, none⟩) ((cntZ (D.getD k md0).ss.length ([] : List Int)).length) ((cntZ (D.getD k md0).ss.length ([] : List Int)).length)] 48, rowE 3 1 (.slice (some ⟨g3, 0, none⟩) ((cntZ (D.getD k md0).ss.length ([] : List Int)).length) ((cntZ (D.getD k md0).ss.length ([] : List Int)).length)) (cntZ (D.getD k md0).ss.length ((D.getD k md0).gs.map As.t ++ (D.getD k md0).ms.map Mm.o ++ ((D.getD k md0).xs.take i).flatMap (xoK D) ++ xoA D ((D.getD k md0).xs.getD i ix0) j)).length ((cntZ (D.getD k md0).ss.length ((D.getD k md0).gs.map As.t ++ (D.getD k md0).ms.map Mm.o ++ ((D.getD k md0).xs.take i).flatMap (xoK D) ++ xoA D ((D.getD k md0).xs.getD i ix0) j)).map (Value.int .i64))], boxE b2 #[(D.getD k md0).sv, (D.getD k md0).av, (D.getD k md0).iv, (D.getD k md0).mv] 35, boxE b1 #[v] 26]) (fun j => [(67, .int .i64 (j : Int))]) (fun j => j ≤ (ptsK (D.getD (((((D.getD k md0).xs).getD i ix0).m).toNat) md0)).length) (fun j => (ptsK (D.getD (((((D.getD k md0).xs).getD i ix0).m).toNat) md0)).length - j) 0 (Nat.zero_le _) (saQ rfl) (pfQ rfl) ?_
  intro j hi24
  have hj := hi24
  have hpl := ptsK_le (D.getD (((((D.getD k md0).xs).getD i ix0).m).toNat) md0)
  have hxa := xoA_le D ((D.getD k md0).xs.getD i ix0) j
  refine srQ ?_
  refine zcb rfl rfl rfl rfl rfl rfl (fun h25 => ?_) (fun h25 => ?_)
  ·
   refine ntQ (tcQ rfl (zdi (sbQ (zah (reQ 1 rfl (hvQ rfl (riQ 1 rfl rfl rfl rfl (zam 0 rfl)) (hvQ rfl (zat (u := .int .i64 ((ptsK (D.getD (((((D.getD k md0).xs).getD i ix0).m).toNat) md0)).getD j 0)) rfl rfl rfl (zam 0 rfl) (zcm (show _ < (ptsK (D.getD (((((D.getD k md0).xs).getD i ix0).m).toNat) md0)).length by omega))) ?_)))))))
   refine zba 2 rfl (srQ ?_)
   have hpt := zdd (m := (D.getD (((((D.getD k md0).xs).getD i ix0).m).toNat) md0)) (j := j) (by omega)
   have hkd := zch hpt
   refine hvQ rfl (fdQ 0 rfl rfl rfl) (hvQ rfl (zac rfl rfl rfl (zaa 1 rfl rfl)) (zak 1 rfl (hvQ rfl (riQ 3 rfl rfl rfl rfl (zag ((hd.at (k := ((((D.getD k md0).xs).getD i ix0).m).toNat) (by omega)).s))) (hvQ rfl (zbe (k0 := 0) rfl rfl rfl (zag ((hd.at (k := ((((D.getD k md0).xs).getD i ix0).m).toNat) (by omega)).s)) (by omega)) ?_))))
   refine hvQ rfl (zat (u := .int .i64 ((((D.getD (((((D.getD k md0).xs).getD i ix0).m).toNat) md0).ss).getD (((ptsK (D.getD (((((D.getD k md0).xs).getD i ix0).m).toNat) md0)).getD j 0).toNat) sg0).k)) rfl rfl rfl (zag ((hd.at (k := ((((D.getD k md0).xs).getD i ix0).m).toNat) (by omega)).s)) ((zce sgC 3 (fun _ => rfl) ((D.getD (((((D.getD k md0).xs).getD i ix0).m).toNat) md0).ss) sg0 (show ((ptsK (D.getD (((((D.getD k md0).xs).getD i ix0).m).toNat) md0)).getD j 0).toNat < _ by omega) (by decide)).trans rfl)) (zby rfl rfl rfl rfl rfl rfl (fun h26 => ?_) (fun h26 => ?_))
   ·
    refine ntQ (zaj rfl (reQ 1 rfl (hvQ rfl (fdQ 2 rfl rfl rfl) (hvQ rfl (zac rfl rfl rfl (zaa 2 rfl rfl)) (zak 1 rfl (hvQ rfl (riQ 1 rfl rfl rfl rfl (zag ((hd.at (k := k) (by omega)).p.at (k := i) (by omega)))) (hvQ rfl (zat (u := .int .i64 (((((D.getD k md0).xs).getD i ix0).ps).getD j 0)) rfl rfl rfl (zag ((hd.at (k := k) (by omega)).p.at (k := i) (by omega))) (zcm (show _ < ((((D.getD k md0).xs).getD i ix0).ps).length by omega))) ?_)))))))
    refine hl_callMF (R := (fun u_ p_ => u_ = .tuple #[] ∧ p_ = bigE [boxE b4 #[.slice (some ⟨g3, 0, none⟩) ((cntZ (D.getD k md0).ss.length ([] : List Int)).length) ((cntZ (D.getD k md0).ss.length ([] : List Int)).length)] 48, rowE 3 1 (.slice (some ⟨g3, 0, none⟩) ((cntZ (D.getD k md0).ss.length ([] : List Int)).length) ((cntZ (D.getD k md0).ss.length ([] : List Int)).length)) (incZ (cntZ (D.getD k md0).ss.length ((D.getD k md0).gs.map As.t ++ (D.getD k md0).ms.map Mm.o ++ ((D.getD k md0).xs.take i).flatMap (xoK D) ++ xoA D ((D.getD k md0).xs.getD i ix0) j)) (((((D.getD k md0).xs).getD i ix0).ps).getD j 0)).length ((incZ (cntZ (D.getD k md0).ss.length ((D.getD k md0).gs.map As.t ++ (D.getD k md0).ms.map Mm.o ++ ((D.getD k md0).xs.take i).flatMap (xoK D) ++ xoA D ((D.getD k md0).xs.getD i ix0) j)) (((((D.getD k md0).xs).getD i ix0).ps).getD j 0)).map (Value.int .i64))])) 3 rfl rfl rfl rfl rfl rfl (fun L w hX hm => zfe b4 (.slice (some ⟨g3, 0, none⟩) ((cntZ (D.getD k md0).ss.length ([] : List Int)).length) ((cntZ (D.getD k md0).ss.length ([] : List Int)).length)) (cntZ (D.getD k md0).ss.length ((D.getD k md0).gs.map As.t ++ (D.getD k md0).ms.map Mm.o ++ ((D.getD k md0).xs.take i).flatMap (xoK D) ++ xoA D ((D.getD k md0).xs.getD i ix0) j)) (((((D.getD k md0).xs).getD i ix0).ps).getD j 0) _ L w hm (by rw [zdo]; omega) (fun q => by have h9 := cntZ_le (n := (D.getD k md0).ss.length) (L := (D.getD k md0).gs.map As.t ++ (D.getD k md0).ms.map Mm.o ++ ((D.getD k md0).xs.take i).flatMap (xoK D) ++ xoA D ((D.getD k md0).xs.getD i ix0) j) (M := 1000) (by simp only [List.length_append, List.length_map, List.length_take]; omega) q; omega)) ?_
    intro v27 p28 hR29
    obtain ⟨rfl, rfl⟩ := hR29
    rw [cntZ_inc]
    refine zci (l' := [rowE 3 1 v21 ((ptsK (D.getD (((((D.getD k md0).xs).getD i ix0).m).toNat) md0)).length) ((ptsK (D.getD (((((D.getD k md0).xs).getD i ix0).m).toNat) md0)).map (Value.int .i64)), boxE b20 #[(D.getD (((((D.getD k md0).xs).getD i ix0).m).toNat) md0).sv, (D.getD (((((D.getD k md0).xs).getD i ix0).m).toNat) md0).av, (D.getD (((((D.getD k md0).xs).getD i ix0).m).toNat) md0).iv, (D.getD (((((D.getD k md0).xs).getD i ix0).m).toNat) md0).mv] 35, boxE b19 #[.int .i64 ((((D.getD k md0).xs).getD i ix0).m), .int .i64 ((((D.getD k md0).xs).getD i ix0).p), (((D.getD k md0).xs).getD i ix0).pv] 63, bigE [boxE b4 #[.slice (some ⟨g3, 0, none⟩) ((cntZ (D.getD k md0).ss.length ([] : List Int)).length) ((cntZ (D.getD k md0).ss.length ([] : List Int)).length)] 48, rowE 3 1 (.slice (some ⟨g3, 0, none⟩) ((cntZ (D.getD k md0).ss.length ([] : List Int)).length) ((cntZ (D.getD k md0).ss.length ([] : List Int)).length)) (cntZ (D.getD k md0).ss.length ((D.getD k md0).gs.map As.t ++ (D.getD k md0).ms.map Mm.o ++ ((D.getD k md0).xs.take i).flatMap (xoK D) ++ xoA D ((D.getD k md0).xs.getD i ix0) j ++ [((((D.getD k md0).xs).getD i ix0).ps).getD j 0])).length ((cntZ (D.getD k md0).ss.length ((D.getD k md0).gs.map As.t ++ (D.getD k md0).ms.map Mm.o ++ ((D.getD k md0).xs.take i).flatMap (xoK D) ++ xoA D ((D.getD k md0).xs.getD i ix0) j ++ [((((D.getD k md0).xs).getD i ix0).ps).getD j 0])).map (Value.int .i64))], boxE b2 #[(D.getD k md0).sv, (D.getD k md0).av, (D.getD k md0).iv, (D.getD k md0).mv] 35, boxE b1 #[v] 26]) rfl ?_
    refine zcx (zdq (zbb (hvQ rfl (vaQ rfl rfl rfl) (enQ 1 rfl ?_))))
    refine zdl [rowE 3 1 v21 ((ptsK (D.getD (((((D.getD k md0).xs).getD i ix0).m).toNat) md0)).length) ((ptsK (D.getD (((((D.getD k md0).xs).getD i ix0).m).toNat) md0)).map (Value.int .i64)), boxE b20 #[(D.getD (((((D.getD k md0).xs).getD i ix0).m).toNat) md0).sv, (D.getD (((((D.getD k md0).xs).getD i ix0).m).toNat) md0).av, (D.getD (((((D.getD k md0).xs).getD i ix0).m).toNat) md0).iv, (D.getD (((((D.getD k md0).xs).getD i ix0).m).toNat) md0).mv] 35, boxE b19 #[.int .i64 ((((D.getD k md0).xs).getD i ix0).m), .int .i64 ((((D.getD k md0).xs).getD i ix0).p), (((D.getD k md0).xs).getD i ix0).pv] 63, bigE [boxE b4 #[.slice (some ⟨g3, 0, none⟩) ((cntZ (D.getD k md0).ss.length ([] : List Int)).length) ((cntZ (D.getD k md0).ss.length ([] : List Int)).length)] 48, rowE 3 1 (.slice (some ⟨g3, 0, none⟩) ((cntZ (D.getD k md0).ss.length ([] : List Int)).length) ((cntZ (D.getD k md0).ss.length ([] : List Int)).length)) (cntZ (D.getD k md0).ss.length ((D.getD k md0).gs.map As.t ++ (D.getD k md0).ms.map Mm.o ++ ((D.getD k md0).xs.take i).flatMap (xoK D) ++ xoA D ((D.getD k md0).xs.getD i ix0) (j + 1))).length ((cntZ (D.getD k md0).ss.length ((D.getD k md0).gs.map As.t ++ (D.getD k md0).ms.map Mm.o ++ ((D.getD k md0).xs.take i).flatMap (xoK D) ++ xoA D ((D.getD k md0).xs.getD i ix0) (j + 1))).map (Value.int .i64))], boxE b2 #[(D.getD k md0).sv, (D.getD k md0).av, (D.getD k md0).iv, (D.getD k md0).mv] 35, boxE b1 #[v] 26] (fun w hm => by rw [show (D.getD k md0).gs.map As.t ++ (D.getD k md0).ms.map Mm.o ++ ((D.getD k md0).xs.take i).flatMap (xoK D) ++ xoA D ((D.getD k md0).xs.getD i ix0) (j + 1) = (D.getD k md0).gs.map As.t ++ (D.getD k md0).ms.map Mm.o ++ ((D.getD k md0).xs.take i).flatMap (xoK D) ++ xoA D ((D.getD k md0).xs.getD i ix0) j ++ [((((D.getD k md0).xs).getD i ix0).ps).getD j 0] by rw [xoA_yes (by omega), ← List.append_assoc]]; exact hm) ?_
    exact zbw (j + 1) (by omega) (by omega) (saQ rfl) (pfQ rfl)
   refine ntQ (fsQ rfl (zdq (zbb (hvQ rfl (vaQ rfl rfl rfl) (enQ 1 rfl ?_)))))
   refine zdl [rowE 3 1 v21 ((ptsK (D.getD (((((D.getD k md0).xs).getD i ix0).m).toNat) md0)).length) ((ptsK (D.getD (((((D.getD k md0).xs).getD i ix0).m).toNat) md0)).map (Value.int .i64)), boxE b20 #[(D.getD (((((D.getD k md0).xs).getD i ix0).m).toNat) md0).sv, (D.getD (((((D.getD k md0).xs).getD i ix0).m).toNat) md0).av, (D.getD (((((D.getD k md0).xs).getD i ix0).m).toNat) md0).iv, (D.getD (((((D.getD k md0).xs).getD i ix0).m).toNat) md0).mv] 35, boxE b19 #[.int .i64 ((((D.getD k md0).xs).getD i ix0).m), .int .i64 ((((D.getD k md0).xs).getD i ix0).p), (((D.getD k md0).xs).getD i ix0).pv] 63, bigE [boxE b4 #[.slice (some ⟨g3, 0, none⟩) ((cntZ (D.getD k md0).ss.length ([] : List Int)).length) ((cntZ (D.getD k md0).ss.length ([] : List Int)).length)] 48, rowE 3 1 (.slice (some ⟨g3, 0, none⟩) ((cntZ (D.getD k md0).ss.length ([] : List Int)).length) ((cntZ (D.getD k md0).ss.length ([] : List Int)).length)) (cntZ (D.getD k md0).ss.length ((D.getD k md0).gs.map As.t ++ (D.getD k md0).ms.map Mm.o ++ ((D.getD k md0).xs.take i).flatMap (xoK D) ++ xoA D ((D.getD k md0).xs.getD i ix0) (j + 1))).length ((cntZ (D.getD k md0).ss.length ((D.getD k md0).gs.map As.t ++ (D.getD k md0).ms.map Mm.o ++ ((D.getD k md0).xs.take i).flatMap (xoK D) ++ xoA D ((D.getD k md0).xs.getD i ix0) (j + 1))).map (Value.int .i64))], boxE b2 #[(D.getD k md0).sv, (D.getD k md0).av, (D.getD k md0).iv, (D.getD k md0).mv] 35, boxE b1 #[v] 26] (fun w hm => by rw [show (D.getD k md0).gs.map As.t ++ (D.getD k md0).ms.map Mm.o ++ ((D.getD k md0).xs.take i).flatMap (xoK D) ++ xoA D ((D.getD k md0).xs.getD i ix0) (j + 1) = (D.getD k md0).gs.map As.t ++ (D.getD k md0).ms.map Mm.o ++ ((D.getD k md0).xs.take i).flatMap (xoK D) ++ xoA D ((D.getD k md0).xs.getD i ix0) j by rw [xoA_no (by omega)]]; exact hm) ?_
   exact zbw (j + 1) (by omega) (by omega) (saQ rfl) (pfQ rfl)
  refine ntQ (fcQ rfl ?_)
  refine zbv (zep ?_)
  refine zan (zdq (zbb (hvQ rfl (vaQ rfl rfl rfl) (enQ 1 rfl ?_))))
  refine zdl [rowE 3 1 v21 ((ptsK (D.getD (((((D.getD k md0).xs).getD i ix0).m).toNat) md0)).length) ((ptsK (D.getD (((((D.getD k md0).xs).getD i ix0).m).toNat) md0)).map (Value.int .i64)), boxE b20 #[(D.getD (((((D.getD k md0).xs).getD i ix0).m).toNat) md0).sv, (D.getD (((((D.getD k md0).xs).getD i ix0).m).toNat) md0).av, (D.getD (((((D.getD k md0).xs).getD i ix0).m).toNat) md0).iv, (D.getD (((((D.getD k md0).xs).getD i ix0).m).toNat) md0).mv] 35, boxE b19 #[.int .i64 ((((D.getD k md0).xs).getD i ix0).m), .int .i64 ((((D.getD k md0).xs).getD i ix0).p), (((D.getD k md0).xs).getD i ix0).pv] 63, bigE [boxE b4 #[.slice (some ⟨g3, 0, none⟩) ((cntZ (D.getD k md0).ss.length ([] : List Int)).length) ((cntZ (D.getD k md0).ss.length ([] : List Int)).length)] 48, rowE 3 1 (.slice (some ⟨g3, 0, none⟩) ((cntZ (D.getD k md0).ss.length ([] : List Int)).length) ((cntZ (D.getD k md0).ss.length ([] : List Int)).length)) (cntZ (D.getD k md0).ss.length ((D.getD k md0).gs.map As.t ++ (D.getD k md0).ms.map Mm.o ++ ((D.getD k md0).xs.take (i + 1)).flatMap (xoK D))).length ((cntZ (D.getD k md0).ss.length ((D.getD k md0).gs.map As.t ++ (D.getD k md0).ms.map Mm.o ++ ((D.getD k md0).xs.take (i + 1)).flatMap (xoK D))).map (Value.int .i64))], boxE b2 #[(D.getD k md0).sv, (D.getD k md0).av, (D.getD k md0).iv, (D.getD k md0).mv] 35, boxE b1 #[v] 26] (fun w hm => by rw [show (D.getD k md0).gs.map As.t ++ (D.getD k md0).ms.map Mm.o ++ ((D.getD k md0).xs.take (i + 1)).flatMap (xoK D) = (D.getD k md0).gs.map As.t ++ (D.getD k md0).ms.map Mm.o ++ ((D.getD k md0).xs.take i).flatMap (xoK D) ++ xoA D ((D.getD k md0).xs.getD i ix0) j by rw [zeo (xoK D) ix0 (by omega), ← List.append_assoc, show j = (ptsK (D.getD (((((D.getD k md0).xs).getD i ix0).m).toNat) md0)).length by omega]; rfl]; exact hm) ?_
  exact zbw (i + 1) (by omega) (by omega) (saQ rfl) (slQ [3, 0, 0] rfl)
 refine ntQ (fcQ rfl ?_)
 refine zbv (zep ?_)
 refine zan (zbf (srQ ?_))
 refine hl_pick 3 [2, 1, 0] rfl rfl (by decide) ?_
 refine hl_conv [boxE b4 #[.slice (some ⟨g3, 0, none⟩) ((cntZ (D.getD k md0).ss.length ([] : List Int)).length) ((cntZ (D.getD k md0).ss.length ([] : List Int)).length)] 48, rowE 3 1 (.slice (some ⟨g3, 0, none⟩) ((cntZ (D.getD k md0).ss.length ([] : List Int)).length) ((cntZ (D.getD k md0).ss.length ([] : List Int)).length)) ((cntZ (D.getD k md0).ss.length ((D.getD k md0).gs.map As.t ++ (D.getD k md0).ms.map Mm.o ++ ((D.getD k md0).xs.take i).flatMap (xoK D))).length) ((cntZ (D.getD k md0).ss.length ((D.getD k md0).gs.map As.t ++ (D.getD k md0).ms.map Mm.o ++ ((D.getD k md0).xs.take i).flatMap (xoK D))).map (Value.int .i64)), boxE b2 #[(D.getD k md0).sv, (D.getD k md0).av, (D.getD k md0).iv, (D.getD k md0).mv] 35, boxE b1 #[v] 26] zcw ?_
 refine hvQ rfl (zac rfl rfl rfl (zaa 0 rfl rfl)) (zba 1 rfl ?_)
 exact zal (hq_retR (post := [rowE 3 1 (.slice (some ⟨g3, 0, none⟩) ((cntZ (D.getD k md0).ss.length ([] : List Int)).length) ((cntZ (D.getD k md0).ss.length ([] : List Int)).length)) ((cntZ (D.getD k md0).ss.length ((D.getD k md0).gs.map As.t ++ (D.getD k md0).ms.map Mm.o ++ ((D.getD k md0).xs.take i).flatMap (xoK D))).length) ((cntZ (D.getD k md0).ss.length ((D.getD k md0).gs.map As.t ++ (D.getD k md0).ms.map Mm.o ++ ((D.getD k md0).xs.take i).flatMap (xoK D))).map (Value.int .i64))]) rfl rfl (slQ [1] rfl) (by rw [show i = (D.getD k md0).xs.length by omega, List.take_length]; rfl))
theorem implDriverCount_ans (D : List Md) (k s : Nat) (v : Value) (w : World) (hd : RdsDs w v D) (hc : CtsP D k) (hs : s < (D.getD k md0).ss.length) :
   Calls Try.prog 12 #[.agg #[v], .int .i64 (k : Int), .int .i64 (s : Int)] w (Ans w (.int .i64 ((drvL D (D.getD k md0)).count (s : Int) : Nat))) := by
 have hd9 := sml hd.row
 have hm9 : ∀ q, q < D.length → (D.getD q md0).ss.length ≤ 9223372036854775807 := fun q hq => by have := sml (hd.at hq).s; omega
 have hkl := hc.lt
 have hs9 := sml (hd.at hkl).s
 refine zcf (N := 44) (args := [.agg #[v], .int .i64 (k : Int), .int .i64 (s : Int)]) Try.func12 rfl rfl (srQ ?_)
 refine zdv rfl (zdp rfl rfl) ?_
 intro b1
 refine zba 1 rfl (zah (zah (reQ 1 rfl (hvQ rfl (fdQ 0 rfl rfl rfl) (hvQ rfl (zac rfl rfl rfl (zaa 0 rfl rfl)) (hvQ rfl (lnQ rfl rfl rfl (zag hd.row)) (hvQ rfl (vsQ rfl rfl rfl) ?_)))))))
 refine zdw rfl (zar rfl rfl (fun w hm => zav (zdm (zbt _ _ _ w)))) (zbm (fun h2 => ?_) (fun h2 => ?_))
 ·
  obtain ⟨h2a, h2b⟩ := (zco _ _ _).1 h2
  refine zak 3 rfl (hvQ rfl (fdQ 0 rfl rfl rfl) (hvQ rfl (zac rfl rfl rfl (zaa 0 rfl rfl)) (zak 1 rfl (hvQ rfl (riQ 4 rfl rfl rfl rfl (zag hd.row)) (hvQ rfl (zbe (k0 := 0) rfl rfl rfl (zag hd.row) (by omega)) ?_)))))
  refine hvQ rfl (zat (u := (D.getD k md0).sv) rfl rfl rfl (zag hd.row) ((zce mdC 4 (fun _ => rfl) D md0 (show k < _ by omega) (by decide)).trans rfl)) (hvQ rfl (lnQ rfl rfl rfl (zag ((hd.at (k := k) (by omega)).s))) (hvQ rfl (vsQ rfl rfl rfl) ?_))
  refine zdw rfl (zar rfl rfl (fun w hm => zav (zdm (zbt _ _ _ w)))) (zbm (fun h3 => ?_) (fun h3 => ?_))
  ·
   obtain ⟨h3a, h3b⟩ := (zco _ _ _).1 h3
   refine zak 3 rfl (hvQ rfl (zaw (cs := [v]) rfl rfl rfl rfl rfl (zau 0 rfl 0 rfl)) ?_)
   refine zdw rfl (zar rfl rfl (fun w hm => zav (countsOk_ans D v w (hd.below hm.bel)))) (zbm (fun h4 => ?_) (fun h4 => ?_))
   ·
    have h4p := zfa h4
    refine zak 3 rfl (hvQ rfl (zaw (cs := [v]) rfl rfl rfl rfl rfl (zau 0 rfl 0 rfl)) (zak 1 rfl ?_))
    refine zdw rfl (zar rfl rfl (fun w hm => zav (instsOk_ans D k v w (hd.below hm.bel) (by omega)))) (zbm (fun h5 => ?_) (fun h5 => ?_))
    ·
     have h5p := zfa h5
     refine zba 2 rfl (zap rfl (zdi (srQ (hvQ rfl (zaw (cs := [v]) rfl rfl rfl rfl rfl (zau 0 rfl 0 rfl)) (zak 1 rfl ?_)))))
     refine hl_q rfl rfl rfl (zar rfl rfl (fun w hm => driverCounts_ret D k v w (hd.below hm.bel) ⟨by omega, by assumption, by assumption⟩)) ?_
     intro v6 p7 hR8
     subst hR8
     have hle9 := zdo (D.getD k md0).ss.length (drvL D (D.getD k md0))
     refine zak 1 rfl (hvQ rfl (riQ 1 rfl rfl rfl rfl (zam 0 rfl)) (hvQ rfl (zat (u := .int .i64 ((cntZ (D.getD k md0).ss.length (drvL D (D.getD k md0))).getD s 0)) rfl rfl rfl (zam 0 rfl) (zcm (show _ < (cntZ (D.getD k md0).ss.length (drvL D (D.getD k md0))).length by omega))) (zba 1 rfl ?_)))
     exact zal (zaq rfl rfl (congrArg _ (zff (show s < _ by omega))))
    have h5p := zeg h5
    refine zba 2 rfl (zaj rfl (zbk 1 rfl ?_))
    refine zal (zae ?_)
    exfalso; first | omega | exact absurd hc.cnt (by assumption) | exact absurd hc.ins (by assumption)
   have h4p := zeg h4
   refine zba 8 rfl (zaj rfl (srQ (enQ 1 rfl ?_)))
   refine zbf (zal ?_)
   refine zae ?_
   exfalso; first | omega | exact absurd hc.cnt (by assumption) | exact absurd hc.ins (by assumption)
  have h3a := zck h3
  refine zba 13 rfl (zaj rfl (srQ ?_))
  refine zba 1 rfl ?_
  refine zal (zae ?_)
  exfalso; first | omega | exact absurd hc.cnt (by assumption) | exact absurd hc.ins (by assumption)
 have h2a := zck h2
 refine zba 25 rfl (zaj rfl (zbk 1 rfl ?_))
 refine zal (zae ?_)
 exfalso; first | omega | exact absurd hc.cnt (by assumption) | exact absurd hc.ins (by assumption)
theorem isDriven_ans (k : Int) (w : World)  :
   Calls Try.prog 54 #[.int .i64 k] w (Ans w (.bool (decide (1 ≤ k ∧ k ≤ 3)))) := by
 refine zcf (N := 13) (args := [.int .i64 k]) Try.func54 rfl rfl (zbk 1 rfl (zah (reQ 1 rfl ?_)))
 refine zby rfl rfl rfl rfl rfl rfl (fun h1 => ?_) (fun h1 => ?_)
 ·
  refine zba 9 rfl ?_
  exact zal (zaq rfl rfl (congrArg _ (decide_eq_true (by omega)).symm))
 refine zak 2 rfl (zby rfl rfl rfl rfl rfl rfl (fun h2 => ?_) (fun h2 => ?_))
 ·
  refine zba 6 rfl ?_
  exact zal (zaq rfl rfl (congrArg _ (decide_eq_true (by omega)).symm))
 refine zak 3 rfl (zby rfl rfl rfl rfl rfl rfl (fun h3 => ?_) (fun h3 => ?_))
 ·
  refine zba 2 rfl ?_
  exact zal (zaq rfl rfl (congrArg _ (decide_eq_true (by omega)).symm))
 refine zba 2 rfl ?_
 exact zal (zaq rfl rfl (congrArg _ (decide_eq_false (by omega)).symm))
theorem signalOk_ans (x : Sg) (w : World)  :
   Calls Try.prog 53 #[.agg #[.int .i64 x.k, .int .i64 x.w, .int .i64 x.i]] w (Ans w (.bool (pB (SgP x)))) := by
 refine zcf (N := 26) (args := [.agg #[.int .i64 x.k, .int .i64 x.w, .int .i64 x.i]]) Try.func53 rfl rfl (srQ ?_)
 refine zdv rfl (zdp rfl rfl) ?_
 intro b1
 refine zba 1 rfl (ssrQ (hvQ rfl (fdQ 0 rfl rfl rfl) (hvQ rfl (zac rfl rfl rfl (zaa 0 rfl rfl)) ?_)))
 refine zdw rfl (zar rfl rfl (fun w hm => zav (zdm (zbt _ _ _ w)))) (zbm (fun h2 => ?_) (fun h2 => ?_))
 ·
  obtain ⟨h2a, h2b⟩ := (zco _ _ _).1 h2
  refine zak 2 rfl (hvQ rfl (fdQ 1 rfl rfl rfl) (hvQ rfl (zac rfl rfl rfl (zaa 0 rfl rfl)) ?_))
  refine zdw rfl (zar rfl rfl (fun w hm => zav (zdm (zbt _ _ _ w)))) (zbm (fun h3 => ?_) (fun h3 => ?_))
  ·
   obtain ⟨h3a, h3b⟩ := (zco _ _ _).1 h3
   refine zba 2 rfl (zap rfl (zdi (srQ (hvQ rfl (fdQ 2 rfl rfl rfl) (hvQ rfl (zac rfl rfl rfl (zaa 0 rfl rfl)) ?_)))))
   refine zby rfl rfl rfl rfl rfl rfl (fun h4 => ?_) (fun h4 => ?_)
   ·
    refine zba 11 rfl ?_
    exact zal (zaq rfl rfl (congrArg _ (zcz ⟨⟨by omega, by omega⟩, ⟨by omega, by omega⟩, ⟨by omega, by omega⟩, by omega⟩).symm))
   refine zak 1 rfl (hvQ rfl (fdQ 0 rfl rfl rfl) (hvQ rfl (zac rfl rfl rfl (zaa 0 rfl rfl)) ?_))
   refine zby rfl rfl rfl rfl rfl rfl (fun h5 => ?_) (fun h5 => ?_)
   ·
    refine zak 1 rfl (hvQ rfl (fdQ 2 rfl rfl rfl) (hvQ rfl (zac rfl rfl rfl (zaa 0 rfl rfl)) ?_))
    refine zdw rfl (zar rfl rfl (fun w hm => zav (zdm (zbt _ _ _ w)))) (zbm (fun h6 => ?_) (fun h6 => ?_))
    ·
     obtain ⟨h6a, h6b⟩ := (zco _ _ _).1 h6
     refine zba 3 rfl ?_
     exact zal (zaq rfl rfl (congrArg _ (zcz ⟨⟨by omega, by omega⟩, ⟨by omega, by omega⟩, ⟨by omega, by omega⟩, by omega⟩).symm))
    have h6a := zck h6
    refine zba 3 rfl ?_
    exact zal (zaq rfl rfl (congrArg _ (zbx (fun hp => by first | (obtain ⟨⟨h1, h2⟩, ⟨h3, h4⟩, ⟨h5, h6⟩, h7⟩ := hp; omega))).symm))
   refine zba 7 rfl ?_
   exact zal (zaq rfl rfl (congrArg _ (zbx (fun hp => by first | (obtain ⟨⟨h1, h2⟩, ⟨h3, h4⟩, ⟨h5, h6⟩, h7⟩ := hp; omega))).symm))
  have h3a := zck h3
  refine zba 2 rfl (zaj rfl (zbk 1 rfl ?_))
  refine zal (zae ?_)
  exact zaq rfl rfl (congrArg _ (zbx (fun hp => by first | (obtain ⟨⟨h1, h2⟩, ⟨h3, h4⟩, ⟨h5, h6⟩, h7⟩ := hp; omega))).symm)
 have h2a := zck h2
 refine zba 7 rfl (zaj rfl (srQ (enQ 1 rfl ?_)))
 refine zbf (zal ?_)
 exact zae (zaq rfl rfl (congrArg _ (zbx (fun hp => by first | (obtain ⟨⟨h1, h2⟩, ⟨h3, h4⟩, ⟨h5, h6⟩, h7⟩ := hp; omega))).symm))
theorem drives_ans (m : Md) (s : Int) (w : World) (hr : RdsMd w m) :
   Calls Try.prog 57 #[.agg #[m.sv, m.av, m.iv, m.mv], .int .i64 s] w (Ans w (.bool (pB (Drv m s)))) := by
 have hs9 := sml hr.s
 refine zcf (N := 29) (args := [.agg #[m.sv, m.av, m.iv, m.mv], .int .i64 s]) Try.func57 rfl rfl (srQ ?_)
 refine zdv rfl (zdp rfl rfl) ?_
 intro b1
 refine zba 1 rfl (zah (reQ 1 rfl (hvQ rfl (fdQ 0 rfl rfl rfl) (hvQ rfl (zac rfl rfl rfl (zaa 0 rfl rfl)) (hvQ rfl (lnQ rfl rfl rfl (zag ((hr).s))) (hvQ rfl (vsQ rfl rfl rfl) ?_))))))
 refine zdw rfl (zar rfl rfl (fun w hm => zav (zdm (zbt _ _ _ w)))) (zbm (fun h2 => ?_) (fun h2 => ?_))
 ·
  obtain ⟨h2a, h2b⟩ := (zco _ _ _).1 h2
  refine zak 1 rfl (hvQ rfl (fdQ 0 rfl rfl rfl) (hvQ rfl (zac rfl rfl rfl (zaa 0 rfl rfl)) (zak 1 rfl (hvQ rfl (riQ 3 rfl rfl rfl rfl (zag ((hr).s))) (hvQ rfl (zbe (k0 := 0) rfl rfl rfl (zag ((hr).s)) (by omega)) ?_)))))
  refine hvQ rfl (zat (u := .int .i64 ((m.ss.getD ((s).toNat) sg0).k)) rfl rfl rfl (zag ((hr).s)) ((zce sgC 3 (fun _ => rfl) m.ss sg0 (show (s).toNat < _ by omega) (by decide)).trans rfl)) (zby rfl rfl rfl rfl rfl rfl (fun h3 => ?_) (fun h3 => ?_))
  ·
   refine zba 11 rfl ?_
   exact zal (zaq rfl rfl (congrArg _ (zcz (by have h9 := zch (m := m) (s := s) ⟨by omega, by omega⟩; first | exact .inl (by omega) | exact .inr (by omega))).symm))
  refine zak 1 rfl (hvQ rfl (fdQ 0 rfl rfl rfl) (hvQ rfl (zac rfl rfl rfl (zaa 0 rfl rfl)) (zak 1 rfl (hvQ rfl (riQ 3 rfl rfl rfl rfl (zag ((hr).s))) (hvQ rfl (zbe (k0 := 0) rfl rfl rfl (zag ((hr).s)) (by omega)) ?_)))))
  refine hvQ rfl (zat (u := .int .i64 ((m.ss.getD ((s).toNat) sg0).k)) rfl rfl rfl (zag ((hr).s)) ((zce sgC 3 (fun _ => rfl) m.ss sg0 (show (s).toNat < _ by omega) (by decide)).trans rfl)) (zby rfl rfl rfl rfl rfl rfl (fun h4 => ?_) (fun h4 => ?_))
  ·
   refine zba 3 rfl ?_
   exact zal (zaq rfl rfl (congrArg _ (zcz (by have h9 := zch (m := m) (s := s) ⟨by omega, by omega⟩; first | exact .inl (by omega) | exact .inr (by omega))).symm))
  refine zba 3 rfl ?_
  exact zal (zaq rfl rfl (congrArg _ (zbx (fun hp => by first | (have h8 := hp.inn; have h9 := zch h8; obtain ⟨h6, h7⟩ := h8; rcases hp with hp | hp <;> omega))).symm))
 have h2a := zck h2
 refine zba 19 rfl ?_
 exact zal (zaq rfl rfl (congrArg _ (zbx (fun hp => by first | (have h8 := hp.inn; have h9 := zch h8; obtain ⟨h6, h7⟩ := h8; rcases hp with hp | hp <;> omega))).symm))
theorem instOk_ans (D : List Md) (m : Md) (x : Ix) (v : Value) (w : World) (hd : RdsDs w v D) (hr : RdsMd w m) (hxp : RdsW w x.pv 1 x.ps.length (x.ps.map (Value.int .i64))) (hx0 : 0 ≤ x.m ∧ x.m < D.length) (hxl : x.ps.length = (ptsK (D.getD x.m.toNat md0)).length) :
   Calls Try.prog 56 #[.agg #[v], .agg #[m.sv, m.av, m.iv, m.mv], .agg #[.int .i64 x.m, .int .i64 x.p, x.pv]] w (Ans w (.bool (pB (IxP D m x)))) := by
 have hd9 := sml hd.row
 have hs9 := sml hr.s
 refine zcf (N := 59) (args := [.agg #[v], .agg #[m.sv, m.av, m.iv, m.mv], .agg #[.int .i64 x.m, .int .i64 x.p, x.pv]]) Try.func56 rfl rfl (srQ ?_)
 refine zdv rfl (zdp rfl rfl) ?_
 intro b1
 refine zdv rfl (zdp rfl rfl) ?_
 intro b2
 refine zdv rfl (zdp rfl rfl) ?_
 intro b3
 refine zba 1 rfl (ssrQ (hvQ rfl (fdQ 1 rfl rfl rfl) (hvQ rfl (zac rfl rfl rfl (zaa 0 rfl rfl)) ?_)))
 refine zdw rfl (zar rfl rfl (fun w hm => zav (zdm (zbt _ _ _ w)))) (zbm (fun h4 => ?_) (fun h4 => ?_))
 ·
  obtain ⟨h4a, h4b⟩ := (zco _ _ _).1 h4
  refine zba 1 rfl (zap rfl (zdi (srQ (hvQ rfl (fdQ 0 rfl rfl rfl) (hvQ rfl (zac rfl rfl rfl (zaa 2 rfl rfl)) (hvQ rfl (fdQ 0 rfl rfl rfl) (hvQ rfl (zac rfl rfl rfl (zaa 0 rfl rfl)) (hvQ rfl (riQ 4 rfl rfl rfl rfl (zag hd.row)) ?_))))))))
  refine hvQ rfl (zbi (us := [(D.getD ((x.m).toNat) md0).sv, (D.getD ((x.m).toNat) md0).av, (D.getD ((x.m).toNat) md0).iv, (D.getD ((x.m).toNat) md0).mv]) rfl rfl rfl rfl (zag hd.row) (by omega) rfl (zca mdC 4 (fun _ => rfl) D md0 (show (x.m).toNat < _ by omega) rfl)) (zdv rfl (zbj (z := .agg #[.slice none 0 0, .slice none 0 0, .slice none 0 0, .slice none 0 0]) rfl rfl) ?_)
  intro b5
  refine zbn (cs' := #[(D.getD ((x.m).toNat) md0).sv, (D.getD ((x.m).toNat) md0).av, (D.getD ((x.m).toNat) md0).iv, (D.getD ((x.m).toNat) md0).mv]) (i := 0) (off := 0) (us := [(D.getD ((x.m).toNat) md0).sv, (D.getD ((x.m).toNat) md0).av, (D.getD ((x.m).toNat) md0).iv, (D.getD ((x.m).toNat) md0).mv]) rfl rfl rfl rfl rfl rfl rfl (zad (hd.at (k := x.m.toNat) (by omega)).s.one (zad (hd.at (k := x.m.toNat) (by omega)).g.one (zad (hd.at (k := x.m.toNat) (by omega)).x.one (zad (hd.at (k := x.m.toNat) (by omega)).m.one zbg)))) rfl rfl rfl (ntQ (ssrQ (hvQ rfl (zaw (cs := [(D.getD ((x.m).toNat) md0).sv, (D.getD ((x.m).toNat) md0).av, (D.getD ((x.m).toNat) md0).iv, (D.getD ((x.m).toNat) md0).mv]) rfl rfl rfl rfl rfl (zau 0 rfl 0 rfl)) ?_)))
  refine hl_q rfl rfl rfl (zar rfl rfl (fun w hm => zeh (D.getD ((x.m).toNat) md0) w ((hd.at (by omega)).below hm.bel))) ?_
  intro v6 p7 hR8
  subst hR8
  refine hvQ rfl (lnQ rfl rfl rfl (zam 0 rfl)) (zba 1 rfl (zbh ?_))
  refine lkQ1 (α := Nat) [0, 1, 2, 3, 4, 5, 6, 7, 13, 21, 22] rfl (fun j => [rowE 3 1 v6 ((ptsK (D.getD x.m.toNat md0)).length) ((ptsK (D.getD x.m.toNat md0)).map (Value.int .i64)), boxE b5 #[(D.getD ((x.m).toNat) md0).sv, (D.getD ((x.m).toNat) md0).av, (D.getD ((x.m).toNat) md0).iv, (D.getD ((x.m).toNat) md0).mv] 35, boxE b3 #[.int .i64 x.m, .int .i64 x.p, x.pv] 63, boxE b2 #[m.sv, m.av, m.iv, m.mv] 35, boxE b1 #[v] 26]) (fun j => [(23, .int .i64 (j : Int))]) (fun j => j ≤ (ptsK (D.getD x.m.toNat md0)).length ∧ ∀ r, r < j → Inn m (x.ps.getD r 0) ∧ (knd (D.getD x.m.toNat md0) ((ptsK (D.getD x.m.toNat md0)).getD r 0) = 1 → Drv m (x.ps.getD r 0))) (fun j => (ptsK (D.getD x.m.toNat md0)).length - j) 0 ⟨Nat.zero_le _, fun q hq => absurd hq (by omega)⟩ (saQ rfl) (pfQ rfl) ?_
  intro j hi9
  obtain ⟨hj, hj9⟩ := hi9
  have hpl := ptsK_le (D.getD x.m.toNat md0)
  refine srQ ?_
  refine zcb rfl rfl rfl rfl rfl rfl (fun h10 => ?_) (fun h10 => ?_)
  ·
   refine ntQ (tcQ rfl (zdi (sbQ (zah (reQ 1 rfl (hvQ rfl (riQ 1 rfl rfl rfl rfl (zam 0 rfl)) (hvQ rfl (zat (u := .int .i64 ((ptsK (D.getD x.m.toNat md0)).getD j 0)) rfl rfl rfl (zam 0 rfl) (zcm (show _ < (ptsK (D.getD x.m.toNat md0)).length by omega))) ?_)))))))
   refine zba 2 rfl (zah ?_)
   have hpt := zdd (m := (D.getD x.m.toNat md0)) (j := j) (by omega)
   have hkd := zch hpt
   rcases Bool.eq_false_or_eq_true (inR (x.ps.getD j 0) 0 ((m.ss.length : Int) - 1)) with hb11 | hb11
   ·
    obtain ⟨hb11a, hb11b⟩ := (zco _ _ _).1 hb11
    have hpt := zdd (m := (D.getD x.m.toNat md0)) (j := j) (by omega)
    have hkd := zch hpt
    rcases Bool.eq_false_or_eq_true (((((D.getD ((x.m).toNat) md0).ss).getD (((ptsK (D.getD x.m.toNat md0)).getD j 0).toNat) sg0).k) == 1) with hb12 | hb12
    ·
     have hb12p : (((D.getD ((x.m).toNat) md0).ss).getD (((ptsK (D.getD x.m.toNat md0)).getD j 0).toNat) sg0).k = 1 := beq_iff_eq.1 hb12
     have hpt := zdd (m := (D.getD x.m.toNat md0)) (j := j) (by omega)
     have hkd := zch hpt
     rcases Bool.eq_false_or_eq_true (pB (Drv m (x.ps.getD j 0))) with hb13 | hb13
     ·
      have hb13p := zfa hb13
      have hpt := zdd (m := (D.getD x.m.toNat md0)) (j := j) (by omega)
      have hkd := zch hpt
      refine zcs 30 [[], [0], [], [1, 2], [3], [], [5], [6], [7], [4, 8], [9], [10], [11], [11, 12], [11], [11, 13, 14], [11, 15], [11, 16], [11, 17], [11, 18], [19], [19], [19, 21], [19], [19, 22, 23], [19, 24], [19, 20, 25], [19, 26], [11, 19, 27], [11, 28]] [28, 29, 30, 31, 32, 33, 34, 35, 36, 37, 38, 39, 40, 41, 42, 43, 44, 45, 46, 47, 48, 49, 50, 51, 52, 53, 54, 55, 56, 57] [.pointer (some ⟨b3, 0 + 2, none⟩), x.pv, .int .i64 (j : Int), elP x.pv (((j : Int)).toNat * 1), .int .i64 (x.ps.getD j 0), .pointer (some ⟨b2, 0 + 0, none⟩), m.sv, .int .i64 (m.ss.length : Int), .int .i64 ((m.ss.length : Int) - 1), .bool true, .bool false, .bool false, .pointer (some ⟨b5, 0 + 0, none⟩), (D.getD ((x.m).toNat) md0).sv, .int .i64 ((ptsK (D.getD x.m.toNat md0)).getD j 0), elP ((D.getD ((x.m).toNat) md0).sv) (((ptsK (D.getD x.m.toNat md0)).getD j 0).toNat * 3), elP ((D.getD ((x.m).toNat) md0).sv) (((ptsK (D.getD x.m.toNat md0)).getD j 0).toNat * 3 + 0), .int .i64 ((((D.getD ((x.m).toNat) md0).ss).getD (((ptsK (D.getD x.m.toNat md0)).getD j 0).toNat) sg0).k), .bool true, .bool true, .agg #[m.sv, m.av, m.iv, m.mv], .pointer (some ⟨b3, 0 + 2, none⟩), x.pv, .int .i64 (j : Int), elP x.pv (((j : Int)).toNat * 1), .int .i64 (x.ps.getD j 0), .bool true, .bool false, .bool false, .bool false] (by kernel_rfl) rfl ?_ ?_
      ·
       exact ⟨iaQ rfl (fdQ 2 rfl rfl rfl) rfl, iaQ rfl (zac rfl rfl rfl (zaa 2 rfl rfl)) rfl, iaQ rfl (zay rfl) rfl, iaQ rfl (riQ 1 rfl rfl rfl rfl (zag hxp)) rfl, iaQ rfl (liQ rfl rfl rfl (zag hxp)) rfl, iaQ rfl (fdQ 0 rfl rfl rfl) rfl, iaQ rfl (zac rfl rfl rfl (zaa 3 rfl rfl)) rfl, iaQ rfl (lnQ rfl rfl rfl (zag ((hr).s))) rfl, iaQ rfl (vsQ rfl rfl rfl) rfl, .inl ⟨rfl, rq_cb (zar rfl rfl (fun w hm => zav (zdm (zbt _ _ _ w)))) hb11⟩, iaQ rfl (zay rfl) rfl, iaQ rfl (zay rfl) rfl, iaQ rfl (fdQ 0 rfl rfl rfl) rfl, iaQ rfl (zac rfl rfl rfl (zaa 1 rfl rfl)) rfl, iaQ rfl (zay rfl) rfl, iaQ rfl (riQ 3 rfl rfl rfl rfl (zag ((hd.at (k := x.m.toNat) (by omega)).s))) rfl, iaQ rfl (zbe (k0 := 0) rfl rfl rfl (zag ((hd.at (k := x.m.toNat) (by omega)).s)) (by omega)) rfl, iaQ rfl (zat (u := .int .i64 ((((D.getD ((x.m).toNat) md0).ss).getD (((ptsK (D.getD x.m.toNat md0)).getD j 0).toNat) sg0).k)) rfl rfl rfl (zag ((hd.at (k := x.m.toNat) (by omega)).s)) ((zce sgC 3 (fun _ => rfl) ((D.getD ((x.m).toNat) md0).ss) sg0 (show ((ptsK (D.getD x.m.toNat md0)).getD j 0).toNat < _ by omega) (by decide)).trans rfl)) rfl, .inl ⟨rfl, zes (zcu rfl rfl rfl rfl) hb12⟩, iaQ rfl (zay rfl) rfl, iaQ rfl (zaw (cs := [m.sv, m.av, m.iv, m.mv]) rfl rfl rfl rfl rfl (zau 3 rfl 0 rfl)) rfl, iaQ rfl (fdQ 2 rfl rfl rfl) rfl, iaQ rfl (zac rfl rfl rfl (zaa 2 rfl rfl)) rfl, iaQ rfl (zay rfl) rfl, iaQ rfl (riQ 1 rfl rfl rfl rfl (zag hxp)) rfl, iaQ rfl (liQ rfl rfl rfl (zag hxp)) rfl, .inl ⟨rfl, rq_cb (zar rfl rfl (fun w hm => zav (drives_ans m (x.ps.getD j 0) w (hr.below hm.bel)))) hb13⟩, iaQ rfl (zay rfl) rfl, iaQ rfl (zay rfl) rfl, iaQ rfl (zay rfl) rfl, trivial⟩
      simp only [List.drop_succ_cons, List.drop_zero]
      refine ntQ (fsQ rfl (zdq (zbb (hvQ rfl (vaQ rfl rfl rfl) (enQ 1 rfl ?_)))))
      exact zbw (j + 1) ⟨by omega, fun r hr9 => by by_cases e : r = j; (subst e; exact ⟨⟨by omega, by omega⟩, fun _ => by first | assumption | (exfalso; omega)⟩); exact hj9 r (by omega)⟩ (by omega) (saQ rfl) (pfQ rfl)
     have hb13p := zeg hb13
     have hpt := zdd (m := (D.getD x.m.toNat md0)) (j := j) (by omega)
     have hkd := zch hpt
     refine zcs 30 [[], [0], [], [1, 2], [3], [], [5], [6], [7], [4, 8], [9], [10], [11], [11, 12], [11], [11, 13, 14], [11, 15], [11, 16], [11, 17], [11, 18], [19], [19], [19, 21], [19], [19, 22, 23], [19, 24], [19, 20, 25], [19, 26], [11, 19, 27], [11, 28]] [28, 29, 30, 31, 32, 33, 34, 35, 36, 37, 38, 39, 40, 41, 42, 43, 44, 45, 46, 47, 48, 49, 50, 51, 52, 53, 54, 55, 56, 57] [.pointer (some ⟨b3, 0 + 2, none⟩), x.pv, .int .i64 (j : Int), elP x.pv (((j : Int)).toNat * 1), .int .i64 (x.ps.getD j 0), .pointer (some ⟨b2, 0 + 0, none⟩), m.sv, .int .i64 (m.ss.length : Int), .int .i64 ((m.ss.length : Int) - 1), .bool true, .bool false, .bool false, .pointer (some ⟨b5, 0 + 0, none⟩), (D.getD ((x.m).toNat) md0).sv, .int .i64 ((ptsK (D.getD x.m.toNat md0)).getD j 0), elP ((D.getD ((x.m).toNat) md0).sv) (((ptsK (D.getD x.m.toNat md0)).getD j 0).toNat * 3), elP ((D.getD ((x.m).toNat) md0).sv) (((ptsK (D.getD x.m.toNat md0)).getD j 0).toNat * 3 + 0), .int .i64 ((((D.getD ((x.m).toNat) md0).ss).getD (((ptsK (D.getD x.m.toNat md0)).getD j 0).toNat) sg0).k), .bool true, .bool true, .agg #[m.sv, m.av, m.iv, m.mv], .pointer (some ⟨b3, 0 + 2, none⟩), x.pv, .int .i64 (j : Int), elP x.pv (((j : Int)).toNat * 1), .int .i64 (x.ps.getD j 0), .bool false, .bool true, .bool true, .bool true] (by kernel_rfl) rfl ?_ ?_
     ·
      exact ⟨iaQ rfl (fdQ 2 rfl rfl rfl) rfl, iaQ rfl (zac rfl rfl rfl (zaa 2 rfl rfl)) rfl, iaQ rfl (zay rfl) rfl, iaQ rfl (riQ 1 rfl rfl rfl rfl (zag hxp)) rfl, iaQ rfl (liQ rfl rfl rfl (zag hxp)) rfl, iaQ rfl (fdQ 0 rfl rfl rfl) rfl, iaQ rfl (zac rfl rfl rfl (zaa 3 rfl rfl)) rfl, iaQ rfl (lnQ rfl rfl rfl (zag ((hr).s))) rfl, iaQ rfl (vsQ rfl rfl rfl) rfl, .inl ⟨rfl, rq_cb (zar rfl rfl (fun w hm => zav (zdm (zbt _ _ _ w)))) hb11⟩, iaQ rfl (zay rfl) rfl, iaQ rfl (zay rfl) rfl, iaQ rfl (fdQ 0 rfl rfl rfl) rfl, iaQ rfl (zac rfl rfl rfl (zaa 1 rfl rfl)) rfl, iaQ rfl (zay rfl) rfl, iaQ rfl (riQ 3 rfl rfl rfl rfl (zag ((hd.at (k := x.m.toNat) (by omega)).s))) rfl, iaQ rfl (zbe (k0 := 0) rfl rfl rfl (zag ((hd.at (k := x.m.toNat) (by omega)).s)) (by omega)) rfl, iaQ rfl (zat (u := .int .i64 ((((D.getD ((x.m).toNat) md0).ss).getD (((ptsK (D.getD x.m.toNat md0)).getD j 0).toNat) sg0).k)) rfl rfl rfl (zag ((hd.at (k := x.m.toNat) (by omega)).s)) ((zce sgC 3 (fun _ => rfl) ((D.getD ((x.m).toNat) md0).ss) sg0 (show ((ptsK (D.getD x.m.toNat md0)).getD j 0).toNat < _ by omega) (by decide)).trans rfl)) rfl, .inl ⟨rfl, zes (zcu rfl rfl rfl rfl) hb12⟩, iaQ rfl (zay rfl) rfl, iaQ rfl (zaw (cs := [m.sv, m.av, m.iv, m.mv]) rfl rfl rfl rfl rfl (zau 3 rfl 0 rfl)) rfl, iaQ rfl (fdQ 2 rfl rfl rfl) rfl, iaQ rfl (zac rfl rfl rfl (zaa 2 rfl rfl)) rfl, iaQ rfl (zay rfl) rfl, iaQ rfl (riQ 1 rfl rfl rfl rfl (zag hxp)) rfl, iaQ rfl (liQ rfl rfl rfl (zag hxp)) rfl, .inl ⟨rfl, rq_cb (zar rfl rfl (fun w hm => zav (drives_ans m (x.ps.getD j 0) w (hr.below hm.bel)))) hb13⟩, iaQ rfl (zay rfl) rfl, iaQ rfl (zay rfl) rfl, iaQ rfl (zay rfl) rfl, trivial⟩
     simp only [List.drop_succ_cons, List.drop_zero]
     refine ntQ (zaj rfl (zbk 1 rfl ?_))
     refine zal (zab ?_)
     refine zdx ?_
     refine zab (zae ?_)
     exact zaq rfl rfl (congrArg _ (zbx (fun hp => by first | (have := hp.1; omega) | (obtain ⟨h8, h9⟩ := (hp.2 j (by omega)).1; omega) | (have h9 := (hp.2 j (by omega)).2 (by omega); exact absurd h9 (by assumption)))).symm)
    have hb12p : (((D.getD ((x.m).toNat) md0).ss).getD (((ptsK (D.getD x.m.toNat md0)).getD j 0).toNat) sg0).k ≠ 1 := beq_eq_false_iff_ne.1 hb12
    have hpt := zdd (m := (D.getD x.m.toNat md0)) (j := j) (by omega)
    have hkd := zch hpt
    refine zcs 30 [[], [0], [], [1, 2], [3], [], [5], [6], [7], [4, 8], [9], [10], [11], [11, 12], [11], [11, 13, 14], [11, 15], [11, 16], [11, 17], [11, 18], [19], [19], [19], [19], [19], [19], [19], [19], [11, 19, 27], [11, 28]] [28, 29, 30, 31, 32, 33, 34, 35, 36, 37, 38, 39, 40, 41, 42, 43, 44, 45, 46, 47, 48, 49, 50, 51, 52, 53, 54, 55, 56, 57] [.pointer (some ⟨b3, 0 + 2, none⟩), x.pv, .int .i64 (j : Int), elP x.pv (((j : Int)).toNat * 1), .int .i64 (x.ps.getD j 0), .pointer (some ⟨b2, 0 + 0, none⟩), m.sv, .int .i64 (m.ss.length : Int), .int .i64 ((m.ss.length : Int) - 1), .bool true, .bool false, .bool false, .pointer (some ⟨b5, 0 + 0, none⟩), (D.getD ((x.m).toNat) md0).sv, .int .i64 ((ptsK (D.getD x.m.toNat md0)).getD j 0), elP ((D.getD ((x.m).toNat) md0).sv) (((ptsK (D.getD x.m.toNat md0)).getD j 0).toNat * 3), elP ((D.getD ((x.m).toNat) md0).sv) (((ptsK (D.getD x.m.toNat md0)).getD j 0).toNat * 3 + 0), .int .i64 ((((D.getD ((x.m).toNat) md0).ss).getD (((ptsK (D.getD x.m.toNat md0)).getD j 0).toNat) sg0).k), .bool false, .bool false, undef, undef, undef, undef, undef, undef, undef, undef, .bool false, .bool false] (by kernel_rfl) rfl ?_ ?_
    ·
     exact ⟨iaQ rfl (fdQ 2 rfl rfl rfl) rfl, iaQ rfl (zac rfl rfl rfl (zaa 2 rfl rfl)) rfl, iaQ rfl (zay rfl) rfl, iaQ rfl (riQ 1 rfl rfl rfl rfl (zag hxp)) rfl, iaQ rfl (liQ rfl rfl rfl (zag hxp)) rfl, iaQ rfl (fdQ 0 rfl rfl rfl) rfl, iaQ rfl (zac rfl rfl rfl (zaa 3 rfl rfl)) rfl, iaQ rfl (lnQ rfl rfl rfl (zag ((hr).s))) rfl, iaQ rfl (vsQ rfl rfl rfl) rfl, .inl ⟨rfl, rq_cb (zar rfl rfl (fun w hm => zav (zdm (zbt _ _ _ w)))) hb11⟩, iaQ rfl (zay rfl) rfl, iaQ rfl (zay rfl) rfl, iaQ rfl (fdQ 0 rfl rfl rfl) rfl, iaQ rfl (zac rfl rfl rfl (zaa 1 rfl rfl)) rfl, iaQ rfl (zay rfl) rfl, iaQ rfl (riQ 3 rfl rfl rfl rfl (zag ((hd.at (k := x.m.toNat) (by omega)).s))) rfl, iaQ rfl (zbe (k0 := 0) rfl rfl rfl (zag ((hd.at (k := x.m.toNat) (by omega)).s)) (by omega)) rfl, iaQ rfl (zat (u := .int .i64 ((((D.getD ((x.m).toNat) md0).ss).getD (((ptsK (D.getD x.m.toNat md0)).getD j 0).toNat) sg0).k)) rfl rfl rfl (zag ((hd.at (k := x.m.toNat) (by omega)).s)) ((zce sgC 3 (fun _ => rfl) ((D.getD ((x.m).toNat) md0).ss) sg0 (show ((ptsK (D.getD x.m.toNat md0)).getD j 0).toNat < _ by omega) (by decide)).trans rfl)) rfl, .inl ⟨rfl, zes (zcu rfl rfl rfl rfl) hb12⟩, iaQ rfl (zay rfl) rfl, .inr ⟨rfl, rfl⟩, .inr ⟨rfl, rfl⟩, .inr ⟨rfl, rfl⟩, .inr ⟨rfl, rfl⟩, .inr ⟨rfl, rfl⟩, .inr ⟨rfl, rfl⟩, .inr ⟨rfl, rfl⟩, .inr ⟨rfl, rfl⟩, iaQ rfl (zay rfl) rfl, iaQ rfl (zay rfl) rfl, trivial⟩
    simp only [List.drop_succ_cons, List.drop_zero]
    refine ntQ (fsQ rfl (zdq (zbb (hvQ rfl (vaQ rfl rfl rfl) (enQ 1 rfl ?_)))))
    exact zbw (j + 1) ⟨by omega, fun r hr9 => by by_cases e : r = j; (subst e; exact ⟨⟨by omega, by omega⟩, fun _ => by first | assumption | (exfalso; omega)⟩); exact hj9 r (by omega)⟩ (by omega) (saQ rfl) (pfQ rfl)
   have hb11a := zck hb11
   have hpt := zdd (m := (D.getD x.m.toNat md0)) (j := j) (by omega)
   have hkd := zch hpt
   refine zcs 30 [[], [0], [], [1, 2], [3], [], [5], [6], [7], [4, 8], [9], [10], [11], [11], [11], [11], [11], [11], [11], [11], [19], [19], [19], [19], [19], [19], [19], [19], [11], [11, 28]] [28, 29, 30, 31, 32, 33, 34, 35, 36, 37, 38, 39, 40, 41, 42, 43, 44, 45, 46, 47, 48, 49, 50, 51, 52, 53, 54, 55, 56, 57] [.pointer (some ⟨b3, 0 + 2, none⟩), x.pv, .int .i64 (j : Int), elP x.pv (((j : Int)).toNat * 1), .int .i64 (x.ps.getD j 0), .pointer (some ⟨b2, 0 + 0, none⟩), m.sv, .int .i64 (m.ss.length : Int), .int .i64 ((m.ss.length : Int) - 1), .bool false, .bool true, .bool true, undef, undef, undef, undef, undef, undef, undef, undef, undef, undef, undef, undef, undef, undef, undef, undef, undef, .bool true] (by kernel_rfl) rfl ?_ ?_
   ·
    exact ⟨iaQ rfl (fdQ 2 rfl rfl rfl) rfl, iaQ rfl (zac rfl rfl rfl (zaa 2 rfl rfl)) rfl, iaQ rfl (zay rfl) rfl, iaQ rfl (riQ 1 rfl rfl rfl rfl (zag hxp)) rfl, iaQ rfl (liQ rfl rfl rfl (zag hxp)) rfl, iaQ rfl (fdQ 0 rfl rfl rfl) rfl, iaQ rfl (zac rfl rfl rfl (zaa 3 rfl rfl)) rfl, iaQ rfl (lnQ rfl rfl rfl (zag ((hr).s))) rfl, iaQ rfl (vsQ rfl rfl rfl) rfl, .inl ⟨rfl, rq_cb (zar rfl rfl (fun w hm => zav (zdm (zbt _ _ _ w)))) hb11⟩, iaQ rfl (zay rfl) rfl, iaQ rfl (zay rfl) rfl, .inr ⟨rfl, rfl⟩, .inr ⟨rfl, rfl⟩, .inr ⟨rfl, rfl⟩, .inr ⟨rfl, rfl⟩, .inr ⟨rfl, rfl⟩, .inr ⟨rfl, rfl⟩, .inr ⟨rfl, rfl⟩, .inr ⟨rfl, rfl⟩, .inr ⟨rfl, rfl⟩, .inr ⟨rfl, rfl⟩, .inr ⟨rfl, rfl⟩, .inr ⟨rfl, rfl⟩, .inr ⟨rfl, rfl⟩, .inr ⟨rfl, rfl⟩, .inr ⟨rfl, rfl⟩, .inr ⟨rfl, rfl⟩, .inr ⟨rfl, rfl⟩, iaQ rfl (zay rfl) rfl, trivial⟩
   simp only [List.drop_succ_cons, List.drop_zero]
   refine ntQ (zaj rfl (zbk 1 rfl ?_))
   refine zal (zab ?_)
   refine zdx ?_
   refine zab (zae ?_)
   exact zaq rfl rfl (congrArg _ (zbx (fun hp => by first | (have := hp.1; omega) | (obtain ⟨h8, h9⟩ := (hp.2 j (by omega)).1; omega) | (have h9 := (hp.2 j (by omega)).2 (by omega); exact absurd h9 (by assumption)))).symm)
  refine ntQ (fcQ rfl ?_)
  refine zbv (zep ?_)
  refine zan (zbf (zbk 1 rfl ?_))
  exact zal (zaq rfl rfl (congrArg _ (zcz ⟨⟨by omega, by omega⟩, fun r hr9 => hj9 r (by omega)⟩).symm))
 have h4a := zck h4
 refine zba 1 rfl (zaj rfl (zbk 1 rfl ?_))
 refine zal (zae ?_)
 exact zaq rfl rfl (congrArg _ (zbx (fun hp => by first | (have := hp.1; omega) | (obtain ⟨h8, h9⟩ := (hp.2 j (by omega)).1; omega) | (have h9 := (hp.2 j (by omega)).2 (by omega); exact absurd h9 (by assumption)))).symm)
theorem zdz (D : List Md) (k : Nat) (v : Value) (w : World) (hd : RdsDs w v D) (hk : k < D.length) :
   Calls Try.prog 14 #[.agg #[v], .int .i64 (k : Int)] w (Ans w (.bool (pB (ModP D k)))) := by
 have hd9 := sml hd.row
 refine zcf (N := 157) (args := [.agg #[v], .int .i64 (k : Int)]) Try.func14 rfl rfl (srQ ?_)
 refine zdv rfl (zdp rfl rfl) ?_
 intro b1
 refine zba 1 rfl (zah (zah (reQ 1 rfl (hvQ rfl (fdQ 0 rfl rfl rfl) (hvQ rfl (zac rfl rfl rfl (zaa 0 rfl rfl)) (hvQ rfl (lnQ rfl rfl rfl (zag hd.row)) (hvQ rfl (vsQ rfl rfl rfl) ?_)))))))
 refine zdw rfl (zar rfl rfl (fun w hm => zav (zdm (zbt _ _ _ w)))) (zbm (fun h2 => ?_) (fun h2 => ?_))
 ·
  obtain ⟨h2a, h2b⟩ := (zco _ _ _).1 h2
  refine zak 2 rfl (hvQ rfl (zaw (cs := [v]) rfl rfl rfl rfl rfl (zau 0 rfl 0 rfl)) ?_)
  refine zdw rfl (zar rfl rfl (fun w hm => zav (countsOk_ans D v w (hd.below hm.bel)))) (zbm (fun h3 => ?_) (fun h3 => ?_))
  ·
   have h3p := zfa h3
   refine zak 3 rfl (hvQ rfl (zaw (cs := [v]) rfl rfl rfl rfl rfl (zau 0 rfl 0 rfl)) (zak 1 rfl ?_))
   refine zdw rfl (zar rfl rfl (fun w hm => zav (instsOk_ans D k v w (hd.below hm.bel) (by omega)))) (zbm (fun h4 => ?_) (fun h4 => ?_))
   ·
    have h4p := zfa h4
    refine zba 2 rfl (zap rfl (zdi (srQ (hvQ rfl (fdQ 0 rfl rfl rfl) (hvQ rfl (zac rfl rfl rfl (zaa 0 rfl rfl)) (zak 1 rfl (hvQ rfl (riQ 4 rfl rfl rfl rfl (zag hd.row)) ?_)))))))
    refine hvQ rfl (zbi (us := [(D.getD k md0).sv, (D.getD k md0).av, (D.getD k md0).iv, (D.getD k md0).mv]) rfl rfl rfl rfl (zag hd.row) (by omega) rfl (zca mdC 4 (fun _ => rfl) D md0 (show k < _ by omega) rfl)) (zdv rfl (zbj (z := .agg #[.slice none 0 0, .slice none 0 0, .slice none 0 0, .slice none 0 0]) rfl rfl) ?_)
    intro b5
    refine zbn (cs' := #[(D.getD k md0).sv, (D.getD k md0).av, (D.getD k md0).iv, (D.getD k md0).mv]) (i := 0) (off := 0) (us := [(D.getD k md0).sv, (D.getD k md0).av, (D.getD k md0).iv, (D.getD k md0).mv]) rfl rfl rfl rfl rfl rfl rfl (zad (hd.at (k := k) (by omega)).s.one (zad (hd.at (k := k) (by omega)).g.one (zad (hd.at (k := k) (by omega)).x.one (zad (hd.at (k := k) (by omega)).m.one zbg)))) rfl rfl rfl (ntQ (srQ (hvQ rfl (fdQ 0 rfl rfl rfl) (hvQ rfl (zac rfl rfl rfl (zaa 0 rfl rfl)) (hvQ rfl (lnQ rfl rfl rfl (zag ((hd.at (k := k) (by omega)).s))) (zba 1 rfl (zah (zah ?_))))))))
    refine zbb (hvQ rfl (fdQ 0 rfl rfl rfl) (hvQ rfl (zac rfl rfl rfl (zaa 0 rfl rfl)) (hvQ rfl (lnQ rfl rfl rfl (zag ((hd.at (k := k) (by omega)).s))) (zba 1 rfl (zbh ?_)))))
    refine lkQ1 (α := Nat) [0, 1, 2, 4, 5, 6, 34, 44, 45] rfl (fun i => [boxE b5 #[(D.getD k md0).sv, (D.getD k md0).av, (D.getD k md0).iv, (D.getD k md0).mv] 35, boxE b1 #[v] 26]) (fun i => [(46, .int .i64 (i : Int))]) (fun i => i ≤ (D.getD k md0).ss.length ∧ ∀ q, q < i → SgP ((D.getD k md0).ss.getD q sg0)) (fun i => (D.getD k md0).ss.length - i) 0 ⟨Nat.zero_le _, fun q hq => absurd hq (by omega)⟩ (saQ rfl) (pfQ rfl) ?_
    intro i hi6
    obtain ⟨hi, hsg⟩ := hi6
    have hcts : CtsP D k := ⟨by omega, by assumption, by assumption⟩
    obtain ⟨hkl, hcnt, hins⟩ := id hcts
    obtain ⟨hn1, hn2, hn3, hn4⟩ := hcnt.md k hkl
    refine srQ ?_
    refine zcb rfl rfl rfl rfl rfl rfl (fun h7 => ?_) (fun h7 => ?_)
    ·
     refine ntQ (tcQ rfl (zdi (sbQ (srQ (hvQ rfl (riQ 3 rfl rfl rfl rfl (zag ((hd.at (k := k) (by omega)).s))) ?_)))))
     refine hvQ rfl (zbi (us := [.int .i64 ((((D.getD k md0).ss).getD i sg0).k), .int .i64 ((((D.getD k md0).ss).getD i sg0).w), .int .i64 ((((D.getD k md0).ss).getD i sg0).i)]) rfl rfl rfl rfl (zag ((hd.at (k := k) (by omega)).s)) (by omega) rfl (zca sgC 3 (fun _ => rfl) ((D.getD k md0).ss) sg0 (show i < _ by omega) rfl)) (zdv rfl (zbj (z := .agg #[.int .i64 0, .int .i64 0, .int .i64 0]) rfl rfl) ?_)
     intro b8
     refine zbn (cs' := #[.int .i64 ((((D.getD k md0).ss).getD i sg0).k), .int .i64 ((((D.getD k md0).ss).getD i sg0).w), .int .i64 ((((D.getD k md0).ss).getD i sg0).i)]) (i := 0) (off := 0) (us := [.int .i64 ((((D.getD k md0).ss).getD i sg0).k), .int .i64 ((((D.getD k md0).ss).getD i sg0).w), .int .i64 ((((D.getD k md0).ss).getD i sg0).i)]) rfl rfl rfl rfl rfl rfl rfl (zad rfl (zad rfl (zad rfl zbg))) rfl rfl rfl (ntQ (srQ (hvQ rfl (zaw (cs := [.int .i64 ((((D.getD k md0).ss).getD i sg0).k), .int .i64 ((((D.getD k md0).ss).getD i sg0).w), .int .i64 ((((D.getD k md0).ss).getD i sg0).i)]) rfl rfl rfl rfl rfl (zau 0 rfl 0 rfl)) ?_)))
     refine zdw rfl (zar rfl rfl (fun w hm => zav (signalOk_ans ((D.getD k md0).ss.getD i sg0) w))) (zbm (fun h9 => ?_) (fun h9 => ?_))
     ·
      have h9p := zfa h9
      refine zba 1 rfl (fsQ rfl (zdq (zbb (hvQ rfl (vaQ rfl rfl rfl) (enQ 1 rfl ?_)))))
      exact zbw (i + 1) ⟨by omega, fun q hq => by by_cases e : q = i; (subst e; assumption); exact hsg q (by omega)⟩ (by omega) (saQ rfl) (slQ [1, 0] rfl)
     have h9p := zeg h9
     refine zba 1 rfl (zaj rfl (zbk 1 rfl ?_))
     refine zal (zab ?_)
     refine zdx ?_
     refine zab (zae ?_)
     exact zaq rfl rfl (congrArg _ (zbx (fun hp => by first | (omega) | (exact absurd hp.cnt (by assumption)) | (exact absurd hp.ins (by assumption)) | (exact absurd (hp.sg i (by omega)) (by assumption)) | (have h9 := (hp.gs i (by omega)).1; have h8 : Inn _ _ := Classical.byContradiction (fun h7 => by rw [zdr h7] at h9; omega); rw [zch h8] at h9; obtain ⟨h5, h6⟩ := h8; omega) | (exact absurd (hp.gs i (by omega)).2 (by assumption)) | (exact absurd (hp.xs i (by omega)) (by assumption)) | (obtain ⟨⟨⟨h1, h2⟩, ⟨h3, h4⟩, ⟨h5, h6⟩⟩, h7⟩ := hp.ms i (by omega); first | omega | exact absurd h7 (by assumption)) | (have h9 := hp.dr i (by omega) (by omega); omega))).symm)
    refine ntQ (fcQ rfl ?_)
    refine zbv (zep ?_)
    refine zan (zbf (ssrQ (hvQ rfl (fdQ 1 rfl rfl rfl) (hvQ rfl (zac rfl rfl rfl (zaa 0 rfl rfl)) (hvQ rfl (lnQ rfl rfl rfl (zag ((hd.at (k := k) (by omega)).g))) (zba 1 rfl (zbh ?_)))))))
    refine lkQ1 (α := Nat) [0, 1, 2, 4, 5, 6, 34, 47, 55, 56] rfl (fun i => [boxE b5 #[(D.getD k md0).sv, (D.getD k md0).av, (D.getD k md0).iv, (D.getD k md0).mv] 35, boxE b1 #[v] 26]) (fun i => [(57, .int .i64 (i : Int))]) (fun i => i ≤ (D.getD k md0).gs.length ∧ ∀ q, q < i → AsP (D.getD k md0) ((D.getD k md0).gs.getD q as0)) (fun i => (D.getD k md0).gs.length - i) 0 ⟨Nat.zero_le _, fun q hq => absurd hq (by omega)⟩ (saQ rfl) (pfQ rfl) ?_
    intro i hi10
    obtain ⟨hi, hgs⟩ := hi10
    have hsgA : ∀ q, q < (D.getD k md0).ss.length → SgP ((D.getD k md0).ss.getD q sg0) := fun q hq => hsg q (by omega)
    refine srQ ?_
    refine zcb rfl rfl rfl rfl rfl rfl (fun h11 => ?_) (fun h11 => ?_)
    ·
     refine ntQ (tcQ rfl (zdi (sbQ (srQ (hvQ rfl (riQ 2 rfl rfl rfl rfl (zag ((hd.at (k := k) (by omega)).g))) ?_)))))
     refine hvQ rfl (zbi (us := [.int .i64 ((((D.getD k md0).gs).getD i as0).t), (((D.getD k md0).gs).getD i as0).ov]) rfl rfl rfl rfl (zag ((hd.at (k := k) (by omega)).g)) (by omega) rfl (zca asC 2 (fun _ => rfl) ((D.getD k md0).gs) as0 (show i < _ by omega) rfl)) (zdv rfl (zbj (z := .agg #[.int .i64 0, .slice none 0 0]) rfl rfl) ?_)
     intro b12
     refine zbn (cs' := #[.int .i64 ((((D.getD k md0).gs).getD i as0).t), (((D.getD k md0).gs).getD i as0).ov]) (i := 0) (off := 0) (us := [.int .i64 ((((D.getD k md0).gs).getD i as0).t), (((D.getD k md0).gs).getD i as0).ov]) rfl rfl rfl rfl rfl rfl rfl (zad rfl (zad ((hd.at (k := k) (by omega)).o.at (k := i) (by omega)).one zbg)) rfl rfl rfl (ntQ (srQ (hvQ rfl (fdQ 0 rfl rfl rfl) (hvQ rfl (zac rfl rfl rfl (zaa 0 rfl rfl)) (zak 1 rfl (hvQ rfl (vsQ rfl rfl rfl) ?_))))))
     refine zdw rfl (zar rfl rfl (fun w hm => zav (zdm (zbt _ _ _ w)))) (zbm (fun h13 => ?_) (fun h13 => ?_))
     ·
      obtain ⟨h13a, h13b⟩ := (zco _ _ _).1 h13
      refine zak 2 rfl (hvQ rfl (fdQ 0 rfl rfl rfl) (hvQ rfl (zac rfl rfl rfl (zaa 1 rfl rfl)) (hvQ rfl (fdQ 0 rfl rfl rfl) (hvQ rfl (zac rfl rfl rfl (zaa 0 rfl rfl)) (hvQ rfl (riQ 3 rfl rfl rfl rfl (zag ((hd.at (k := k) (by omega)).s))) (hvQ rfl (zbe (k0 := 0) rfl rfl rfl (zag ((hd.at (k := k) (by omega)).s)) (by omega)) ?_))))))
      refine hvQ rfl (zat (u := .int .i64 ((((D.getD k md0).ss).getD (((((D.getD k md0).gs).getD i as0).t).toNat) sg0).k)) rfl rfl rfl (zag ((hd.at (k := k) (by omega)).s)) ((zce sgC 3 (fun _ => rfl) ((D.getD k md0).ss) sg0 (show ((((D.getD k md0).gs).getD i as0).t).toNat < _ by omega) (by decide)).trans rfl)) (zdw rfl (zar rfl rfl (fun w hm => zav (isDriven_ans ((((D.getD k md0).ss).getD (((((D.getD k md0).gs).getD i as0).t).toNat) sg0).k) w))) ?_)
      refine zbm (fun h14 => ?_) (fun h14 => ?_)
      ·
       have h14p := of_decide_eq_true h14
       refine zak 3 rfl (hvQ rfl (fdQ 1 rfl rfl rfl) (hvQ rfl (zac rfl rfl rfl (zaa 0 rfl rfl)) (zak 1 rfl ?_)))
       refine zdw rfl (zar rfl rfl (fun w hm => zav (implOpsOk_ans ((D.getD k md0).gs.getD i as0).os (((D.getD k md0).ss).length : Int) _ w (((hd.at (k := k) (by omega)).below hm.bel).o.at (by omega))))) (zbm (fun h15 => ?_) (fun h15 => ?_))
       ·
        have h15p := zfa h15
        refine zba 2 rfl (fsQ rfl (zdq (zbb (hvQ rfl (vaQ rfl rfl rfl) (enQ 1 rfl ?_)))))
        exact zbw (i + 1) ⟨by omega, fun q hq => by by_cases e : q = i; (subst e; exact ⟨by rw [zch ⟨by omega, by omega⟩]; assumption, by assumption⟩); exact hgs q (by omega)⟩ (by omega) (saQ rfl) (slQ [1, 0] rfl)
       have h15p := zeg h15
       refine zba 2 rfl (zaj rfl (zbk 1 rfl ?_))
       refine zal (zab ?_)
       refine zdx ?_
       refine zab (zae ?_)
       exact zaq rfl rfl (congrArg _ (zbx (fun hp => by first | (omega) | (exact absurd hp.cnt (by assumption)) | (exact absurd hp.ins (by assumption)) | (exact absurd (hp.sg i (by omega)) (by assumption)) | (have h9 := (hp.gs i (by omega)).1; have h8 : Inn _ _ := Classical.byContradiction (fun h7 => by rw [zdr h7] at h9; omega); rw [zch h8] at h9; obtain ⟨h5, h6⟩ := h8; omega) | (exact absurd (hp.gs i (by omega)).2 (by assumption)) | (exact absurd (hp.xs i (by omega)) (by assumption)) | (obtain ⟨⟨⟨h1, h2⟩, ⟨h3, h4⟩, ⟨h5, h6⟩⟩, h7⟩ := hp.ms i (by omega); first | omega | exact absurd h7 (by assumption)) | (have h9 := hp.dr i (by omega) (by omega); omega))).symm)
      have h14p := of_decide_eq_false h14
      refine zba 9 rfl (zaj rfl (zah (reQ 1 rfl (?_))))
      refine ntQ ?_
      refine zal (zab ?_)
      refine zdx ?_
      refine zab (zae ?_)
      exact zaq rfl rfl (congrArg _ (zbx (fun hp => by first | (omega) | (exact absurd hp.cnt (by assumption)) | (exact absurd hp.ins (by assumption)) | (exact absurd (hp.sg i (by omega)) (by assumption)) | (have h9 := (hp.gs i (by omega)).1; have h8 : Inn _ _ := Classical.byContradiction (fun h7 => by rw [zdr h7] at h9; omega); rw [zch h8] at h9; obtain ⟨h5, h6⟩ := h8; omega) | (exact absurd (hp.gs i (by omega)).2 (by assumption)) | (exact absurd (hp.xs i (by omega)) (by assumption)) | (obtain ⟨⟨⟨h1, h2⟩, ⟨h3, h4⟩, ⟨h5, h6⟩⟩, h7⟩ := hp.ms i (by omega); first | omega | exact absurd h7 (by assumption)) | (have h9 := hp.dr i (by omega) (by omega); omega))).symm)
     have h13a := zck h13
     refine zba 19 rfl (zaj rfl (zbk 1 rfl ?_))
     refine zal (zab ?_)
     refine zdx ?_
     refine zab (zae ?_)
     exact zaq rfl rfl (congrArg _ (zbx (fun hp => by first | (omega) | (exact absurd hp.cnt (by assumption)) | (exact absurd hp.ins (by assumption)) | (exact absurd (hp.sg i (by omega)) (by assumption)) | (have h9 := (hp.gs i (by omega)).1; have h8 : Inn _ _ := Classical.byContradiction (fun h7 => by rw [zdr h7] at h9; omega); rw [zch h8] at h9; obtain ⟨h5, h6⟩ := h8; omega) | (exact absurd (hp.gs i (by omega)).2 (by assumption)) | (exact absurd (hp.xs i (by omega)) (by assumption)) | (obtain ⟨⟨⟨h1, h2⟩, ⟨h3, h4⟩, ⟨h5, h6⟩⟩, h7⟩ := hp.ms i (by omega); first | omega | exact absurd h7 (by assumption)) | (have h9 := hp.dr i (by omega) (by omega); omega))).symm)
    refine ntQ (fcQ rfl ?_)
    refine zbv (zep ?_)
    refine zan (zbf (ssrQ (hvQ rfl (fdQ 2 rfl rfl rfl) (hvQ rfl (zac rfl rfl rfl (zaa 0 rfl rfl)) (hvQ rfl (lnQ rfl rfl rfl (zag ((hd.at (k := k) (by omega)).x))) (zba 1 rfl (zbh ?_)))))))
    refine lkQ1 (α := Nat) [0, 1, 2, 4, 5, 6, 34, 47, 58, 87, 88] rfl (fun i => [boxE b5 #[(D.getD k md0).sv, (D.getD k md0).av, (D.getD k md0).iv, (D.getD k md0).mv] 35, boxE b1 #[v] 26]) (fun i => [(89, .int .i64 (i : Int))]) (fun i => i ≤ (D.getD k md0).xs.length ∧ ∀ q, q < i → IxP D (D.getD k md0) ((D.getD k md0).xs.getD q ix0)) (fun i => (D.getD k md0).xs.length - i) 0 ⟨Nat.zero_le _, fun q hq => absurd hq (by omega)⟩ (saQ rfl) (pfQ rfl) ?_
    intro i hi16
    obtain ⟨hi, hxs⟩ := hi16
    refine srQ ?_
    refine zcb rfl rfl rfl rfl rfl rfl (fun h17 => ?_) (fun h17 => ?_)
    ·
     refine ntQ (tcQ rfl (zdi (sbQ (srQ (hvQ rfl (riQ 3 rfl rfl rfl rfl (zag ((hd.at (k := k) (by omega)).x))) ?_)))))
     refine hvQ rfl (zbi (us := [.int .i64 ((((D.getD k md0).xs).getD i ix0).m), .int .i64 ((((D.getD k md0).xs).getD i ix0).p), (((D.getD k md0).xs).getD i ix0).pv]) rfl rfl rfl rfl (zag ((hd.at (k := k) (by omega)).x)) (by omega) rfl (zca ixC 3 (fun _ => rfl) ((D.getD k md0).xs) ix0 (show i < _ by omega) rfl)) (zdv rfl (zbj (z := .agg #[.int .i64 0, .int .i64 0, .slice none 0 0]) rfl rfl) ?_)
     intro b18
     refine zbn (cs' := #[.int .i64 ((((D.getD k md0).xs).getD i ix0).m), .int .i64 ((((D.getD k md0).xs).getD i ix0).p), (((D.getD k md0).xs).getD i ix0).pv]) (i := 0) (off := 0) (us := [.int .i64 ((((D.getD k md0).xs).getD i ix0).m), .int .i64 ((((D.getD k md0).xs).getD i ix0).p), (((D.getD k md0).xs).getD i ix0).pv]) rfl rfl rfl rfl rfl rfl rfl (zad rfl (zad rfl (zad ((hd.at (k := k) (by omega)).p.at (k := i) (by omega)).one zbg))) rfl rfl rfl (ntQ (srQ (hvQ rfl (zaw (cs := [v]) rfl rfl rfl rfl rfl (zau 2 rfl 0 rfl)) (hvQ rfl (zaw (cs := [(D.getD k md0).sv, (D.getD k md0).av, (D.getD k md0).iv, (D.getD k md0).mv]) rfl rfl rfl rfl rfl (zau 1 rfl 0 rfl)) (hvQ rfl (zaw (cs := [.int .i64 ((((D.getD k md0).xs).getD i ix0).m), .int .i64 ((((D.getD k md0).xs).getD i ix0).p), (((D.getD k md0).xs).getD i ix0).pv]) rfl rfl rfl rfl rfl (zau 0 rfl 0 rfl)) ?_)))))
     refine zdw rfl (zar rfl rfl (fun w hm => zav (instOk_ans D (D.getD k md0) ((D.getD k md0).xs.getD i ix0) v w (hd.below hm.bel) ((hd.at (k := k) (by omega)).below hm.bel) (((hd.at (k := k) (by omega)).below hm.bel).p.at (by omega)) ⟨by have := hins i (by omega); omega, by have := hins i (by omega); omega⟩ (hins i (by omega)).2))) (zbm (fun h19 => ?_) (fun h19 => ?_))
     ·
      have h19p := zfa h19
      refine zba 1 rfl (fsQ rfl (zdq (zbb (hvQ rfl (vaQ rfl rfl rfl) (enQ 1 rfl ?_)))))
      exact zbw (i + 1) ⟨by omega, fun q hq => by by_cases e : q = i; (subst e; assumption); exact hxs q (by omega)⟩ (by omega) (saQ rfl) (slQ [1, 0] rfl)
     have h19p := zeg h19
     refine zba 1 rfl (zaj rfl (zbk 1 rfl ?_))
     refine zal (zab ?_)
     refine zdx ?_
     refine zab (zae ?_)
     exact zaq rfl rfl (congrArg _ (zbx (fun hp => by first | (omega) | (exact absurd hp.cnt (by assumption)) | (exact absurd hp.ins (by assumption)) | (exact absurd (hp.sg i (by omega)) (by assumption)) | (have h9 := (hp.gs i (by omega)).1; have h8 : Inn _ _ := Classical.byContradiction (fun h7 => by rw [zdr h7] at h9; omega); rw [zch h8] at h9; obtain ⟨h5, h6⟩ := h8; omega) | (exact absurd (hp.gs i (by omega)).2 (by assumption)) | (exact absurd (hp.xs i (by omega)) (by assumption)) | (obtain ⟨⟨⟨h1, h2⟩, ⟨h3, h4⟩, ⟨h5, h6⟩⟩, h7⟩ := hp.ms i (by omega); first | omega | exact absurd h7 (by assumption)) | (have h9 := hp.dr i (by omega) (by omega); omega))).symm)
    refine ntQ (fcQ rfl ?_)
    refine zbv (zep ?_)
    refine zan (zbf (ssrQ (hvQ rfl (fdQ 3 rfl rfl rfl) (hvQ rfl (zac rfl rfl rfl (zaa 0 rfl rfl)) (hvQ rfl (lnQ rfl rfl rfl (zag ((hd.at (k := k) (by omega)).m))) (zba 1 rfl (zbh ?_)))))))
    refine lkQ1 (α := Nat) [0, 1, 2, 4, 5, 6, 34, 47, 58, 90, 100, 101] rfl (fun i => [boxE b5 #[(D.getD k md0).sv, (D.getD k md0).av, (D.getD k md0).iv, (D.getD k md0).mv] 35, boxE b1 #[v] 26]) (fun i => [(102, .int .i64 (i : Int))]) (fun i => i ≤ (D.getD k md0).ms.length ∧ ∀ q, q < i → MmP (D.getD k md0) ((D.getD k md0).ms.getD q mm0)) (fun i => (D.getD k md0).ms.length - i) 0 ⟨Nat.zero_le _, fun q hq => absurd hq (by omega)⟩ (saQ rfl) (pfQ rfl) ?_
    intro i hi20
    obtain ⟨hi, hms⟩ := hi20
    refine srQ ?_
    refine zcb rfl rfl rfl rfl rfl rfl (fun h21 => ?_) (fun h21 => ?_)
    ·
     refine ntQ (tcQ rfl (zdi (sbQ (srQ (hvQ rfl (riQ 4 rfl rfl rfl rfl (zag ((hd.at (k := k) (by omega)).m))) ?_)))))
     refine hvQ rfl (zbi (us := [.int .i64 ((((D.getD k md0).ms).getD i mm0).a), .int .i64 ((((D.getD k md0).ms).getD i mm0).d), .int .i64 ((((D.getD k md0).ms).getD i mm0).w), .int .i64 ((((D.getD k md0).ms).getD i mm0).o)]) rfl rfl rfl rfl (zag ((hd.at (k := k) (by omega)).m)) (by omega) rfl (zca mmC 4 (fun _ => rfl) ((D.getD k md0).ms) mm0 (show i < _ by omega) rfl)) (zdv rfl (zbj (z := .agg #[.int .i64 0, .int .i64 0, .int .i64 0, .int .i64 0]) rfl rfl) ?_)
     intro b22
     refine zbn (cs' := #[.int .i64 ((((D.getD k md0).ms).getD i mm0).a), .int .i64 ((((D.getD k md0).ms).getD i mm0).d), .int .i64 ((((D.getD k md0).ms).getD i mm0).w), .int .i64 ((((D.getD k md0).ms).getD i mm0).o)]) (i := 0) (off := 0) (us := [.int .i64 ((((D.getD k md0).ms).getD i mm0).a), .int .i64 ((((D.getD k md0).ms).getD i mm0).d), .int .i64 ((((D.getD k md0).ms).getD i mm0).w), .int .i64 ((((D.getD k md0).ms).getD i mm0).o)]) rfl rfl rfl rfl rfl rfl rfl (zad rfl (zad rfl (zad rfl (zad rfl zbg)))) rfl rfl rfl (ntQ (srQ (hvQ rfl (fdQ 0 rfl rfl rfl) (hvQ rfl (zac rfl rfl rfl (zaa 0 rfl rfl)) (zak 1 rfl (hvQ rfl (vsQ rfl rfl rfl) ?_))))))
     refine zdw rfl (zar rfl rfl (fun w hm => zav (zdm (zbt _ _ _ w)))) (zbm (fun h23 => ?_) (fun h23 => ?_))
     ·
      obtain ⟨h23a, h23b⟩ := (zco _ _ _).1 h23
      refine zak 2 rfl (hvQ rfl (fdQ 1 rfl rfl rfl) (hvQ rfl (zac rfl rfl rfl (zaa 0 rfl rfl)) (zak 1 rfl (hvQ rfl (vsQ rfl rfl rfl) ?_))))
      refine zdw rfl (zar rfl rfl (fun w hm => zav (zdm (zbt _ _ _ w)))) (zbm (fun h24 => ?_) (fun h24 => ?_))
      ·
       obtain ⟨h24a, h24b⟩ := (zco _ _ _).1 h24
       refine zak 3 rfl (hvQ rfl (fdQ 2 rfl rfl rfl) (hvQ rfl (zac rfl rfl rfl (zaa 0 rfl rfl)) (zak 1 rfl (hvQ rfl (vsQ rfl rfl rfl) ?_))))
       refine zdw rfl (zar rfl rfl (fun w hm => zav (zdm (zbt _ _ _ w)))) (zbm (fun h25 => ?_) (fun h25 => ?_))
       ·
        obtain ⟨h25a, h25b⟩ := (zco _ _ _).1 h25
        refine zak 3 rfl (hvQ rfl (zaw (cs := [(D.getD k md0).sv, (D.getD k md0).av, (D.getD k md0).iv, (D.getD k md0).mv]) rfl rfl rfl rfl rfl (zau 1 rfl 0 rfl)) (hvQ rfl (fdQ 3 rfl rfl rfl) (hvQ rfl (zac rfl rfl rfl (zaa 0 rfl rfl)) ?_)))
        refine zdw rfl (zar rfl rfl (fun w hm => zav (drives_ans (D.getD k md0) ((((D.getD k md0).ms).getD i mm0).o) w ((hd.at (k := k) (by omega)).below hm.bel)))) (zbm (fun h26 => ?_) (fun h26 => ?_))
        ·
         have h26p := zfa h26
         refine zba 2 rfl (fsQ rfl (zdq (zbb (hvQ rfl (vaQ rfl rfl rfl) (enQ 1 rfl ?_)))))
         exact zbw (i + 1) ⟨by omega, fun q hq => by by_cases e : q = i; (subst e; exact ⟨⟨⟨by omega, by omega⟩, ⟨by omega, by omega⟩, ⟨by omega, by omega⟩⟩, by assumption⟩); exact hms q (by omega)⟩ (by omega) (saQ rfl) (slQ [1, 0] rfl)
        have h26p := zeg h26
        refine zba 2 rfl (zaj rfl (zbk 1 rfl ?_))
        refine zal (zab ?_)
        refine zdx ?_
        refine zab (zae ?_)
        exact zaq rfl rfl (congrArg _ (zbx (fun hp => by first | (omega) | (exact absurd hp.cnt (by assumption)) | (exact absurd hp.ins (by assumption)) | (exact absurd (hp.sg i (by omega)) (by assumption)) | (have h9 := (hp.gs i (by omega)).1; have h8 : Inn _ _ := Classical.byContradiction (fun h7 => by rw [zdr h7] at h9; omega); rw [zch h8] at h9; obtain ⟨h5, h6⟩ := h8; omega) | (exact absurd (hp.gs i (by omega)).2 (by assumption)) | (exact absurd (hp.xs i (by omega)) (by assumption)) | (obtain ⟨⟨⟨h1, h2⟩, ⟨h3, h4⟩, ⟨h5, h6⟩⟩, h7⟩ := hp.ms i (by omega); first | omega | exact absurd h7 (by assumption)) | (have h9 := hp.dr i (by omega) (by omega); omega))).symm)
       have h25a := zck h25
       refine zba 9 rfl (zaj rfl (zah (reQ 1 rfl (?_))))
       refine ntQ ?_
       refine zal (zab ?_)
       refine zdx ?_
       refine zab (zae ?_)
       exact zaq rfl rfl (congrArg _ (zbx (fun hp => by first | (omega) | (exact absurd hp.cnt (by assumption)) | (exact absurd hp.ins (by assumption)) | (exact absurd (hp.sg i (by omega)) (by assumption)) | (have h9 := (hp.gs i (by omega)).1; have h8 : Inn _ _ := Classical.byContradiction (fun h7 => by rw [zdr h7] at h9; omega); rw [zch h8] at h9; obtain ⟨h5, h6⟩ := h8; omega) | (exact absurd (hp.gs i (by omega)).2 (by assumption)) | (exact absurd (hp.xs i (by omega)) (by assumption)) | (obtain ⟨⟨⟨h1, h2⟩, ⟨h3, h4⟩, ⟨h5, h6⟩⟩, h7⟩ := hp.ms i (by omega); first | omega | exact absurd h7 (by assumption)) | (have h9 := hp.dr i (by omega) (by omega); omega))).symm)
      have h24a := zck h24
      refine enQ 17 rfl ?_
      refine zbf (zaj rfl (zbk 1 rfl ?_))
      refine zal (zab ?_)
      refine zdx ?_
      refine zab (zae ?_)
      exact zaq rfl rfl (congrArg _ (zbx (fun hp => by first | (omega) | (exact absurd hp.cnt (by assumption)) | (exact absurd hp.ins (by assumption)) | (exact absurd (hp.sg i (by omega)) (by assumption)) | (have h9 := (hp.gs i (by omega)).1; have h8 : Inn _ _ := Classical.byContradiction (fun h7 => by rw [zdr h7] at h9; omega); rw [zch h8] at h9; obtain ⟨h5, h6⟩ := h8; omega) | (exact absurd (hp.gs i (by omega)).2 (by assumption)) | (exact absurd (hp.xs i (by omega)) (by assumption)) | (obtain ⟨⟨⟨h1, h2⟩, ⟨h3, h4⟩, ⟨h5, h6⟩⟩, h7⟩ := hp.ms i (by omega); first | omega | exact absurd h7 (by assumption)) | (have h9 := hp.dr i (by omega) (by omega); omega))).symm)
     have h23a := zck h23
     refine zba 24 rfl (zaj rfl (zbk 1 rfl ?_))
     refine zal (zab ?_)
     refine zdx ?_
     refine zab (zae ?_)
     exact zaq rfl rfl (congrArg _ (zbx (fun hp => by first | (omega) | (exact absurd hp.cnt (by assumption)) | (exact absurd hp.ins (by assumption)) | (exact absurd (hp.sg i (by omega)) (by assumption)) | (have h9 := (hp.gs i (by omega)).1; have h8 : Inn _ _ := Classical.byContradiction (fun h7 => by rw [zdr h7] at h9; omega); rw [zch h8] at h9; obtain ⟨h5, h6⟩ := h8; omega) | (exact absurd (hp.gs i (by omega)).2 (by assumption)) | (exact absurd (hp.xs i (by omega)) (by assumption)) | (obtain ⟨⟨⟨h1, h2⟩, ⟨h3, h4⟩, ⟨h5, h6⟩⟩, h7⟩ := hp.ms i (by omega); first | omega | exact absurd h7 (by assumption)) | (have h9 := hp.dr i (by omega) (by omega); omega))).symm)
    refine ntQ (fcQ rfl ?_)
    refine zbv (zep ?_)
    refine zan (zbf (ssrQ (hvQ rfl (zaw (cs := [v]) rfl rfl rfl rfl rfl (zau 1 rfl 0 rfl)) (zak 1 rfl ?_))))
    refine hl_q rfl rfl rfl (zar rfl rfl (fun w hm => driverCounts_ret D k v w (hd.below hm.bel) hcts)) ?_
    intro v27 p28 hR29
    subst hR29
    refine hvQ rfl (lnQ rfl rfl rfl (zam 0 rfl)) (zba 1 rfl (zbh ?_))
    refine lkQ1 (α := Nat) [0, 1, 2, 4, 5, 6, 34, 47, 58, 90, 103, 138, 139] rfl (fun i => [rowE 3 1 v27 ((cntZ (D.getD k md0).ss.length (drvL D (D.getD k md0))).length) ((cntZ (D.getD k md0).ss.length (drvL D (D.getD k md0))).map (Value.int .i64)), boxE b5 #[(D.getD k md0).sv, (D.getD k md0).av, (D.getD k md0).iv, (D.getD k md0).mv] 35, boxE b1 #[v] 26]) (fun i => [(140, .int .i64 (i : Int))]) (fun i => i ≤ (D.getD k md0).ss.length ∧ ∀ q, q < i → ((D.getD k md0).ss.getD q sg0).k ≠ 0 → (drvL D (D.getD k md0)).count (q : Int) = 1) (fun i => (D.getD k md0).ss.length - i) 0 ⟨Nat.zero_le _, fun q hq => absurd hq (by omega)⟩ (saQ rfl) (pfQ rfl) ?_
    intro i hi30
    obtain ⟨hi, hdr⟩ := hi30
    have hlz := zdo (D.getD k md0).ss.length (drvL D (D.getD k md0))
    refine srQ ?_
    refine zcb rfl rfl rfl rfl rfl rfl (fun h31 => ?_) (fun h31 => ?_)
    ·
     refine ntQ (tcQ rfl (zdi (sbQ (zah (reQ 1 rfl (hvQ rfl (riQ 1 rfl rfl rfl rfl (zam 0 rfl)) (hvQ rfl (zat (u := .int .i64 ((cntZ (D.getD k md0).ss.length (drvL D (D.getD k md0))).getD i 0)) rfl rfl rfl (zam 0 rfl) (zcm (show _ < (cntZ (D.getD k md0).ss.length (drvL D (D.getD k md0))).length by omega))) ?_)))))))
     refine zba 2 rfl (srQ ?_)
     have hs8 := (hsgA i (by omega)).1
     have hcz := zff (L := drvL D (D.getD k md0)) (show i < (D.getD k md0).ss.length by omega)
     refine hvQ rfl (fdQ 0 rfl rfl rfl) (hvQ rfl (zac rfl rfl rfl (zaa 1 rfl rfl)) (zak 1 rfl (hvQ rfl (riQ 3 rfl rfl rfl rfl (zag ((hd.at (k := k) (by omega)).s))) (hvQ rfl (zbe (k0 := 0) rfl rfl rfl (zag ((hd.at (k := k) (by omega)).s)) (by omega)) ?_))))
     refine hvQ rfl (zat (u := .int .i64 ((((D.getD k md0).ss).getD i sg0).k)) rfl rfl rfl (zag ((hd.at (k := k) (by omega)).s)) ((zce sgC 3 (fun _ => rfl) ((D.getD k md0).ss) sg0 (show i < _ by omega) (by decide)).trans rfl)) (zdw rfl (zar rfl rfl (fun w hm => zav (isDriven_ans ((((D.getD k md0).ss).getD i sg0).k) w))) ?_)
     refine zbm (fun h32 => ?_) (fun h32 => ?_)
     ·
      have h32p := of_decide_eq_true h32
      refine zak 2 rfl (hl_neq rfl rfl rfl rfl rfl rfl (fun h33 => ?_) (fun h33 => ?_))
      ·
       refine zba 1 rfl (zaj rfl (zbk 1 rfl ?_))
       refine zal (zab ?_)
       refine zdx ?_
       refine zab (zae ?_)
       exact zaq rfl rfl (congrArg _ (zbx (fun hp => by first | (omega) | (exact absurd hp.cnt (by assumption)) | (exact absurd hp.ins (by assumption)) | (exact absurd (hp.sg i (by omega)) (by assumption)) | (have h9 := (hp.gs i (by omega)).1; have h8 : Inn _ _ := Classical.byContradiction (fun h7 => by rw [zdr h7] at h9; omega); rw [zch h8] at h9; obtain ⟨h5, h6⟩ := h8; omega) | (exact absurd (hp.gs i (by omega)).2 (by assumption)) | (exact absurd (hp.xs i (by omega)) (by assumption)) | (obtain ⟨⟨⟨h1, h2⟩, ⟨h3, h4⟩, ⟨h5, h6⟩⟩, h7⟩ := hp.ms i (by omega); first | omega | exact absurd h7 (by assumption)) | (have h9 := hp.dr i (by omega) (by omega); omega))).symm)
      refine zba 1 rfl (fsQ rfl (zdq (zbb (hvQ rfl (vaQ rfl rfl rfl) (enQ 1 rfl ?_)))))
      exact zbw (i + 1) ⟨by omega, fun q hq => by by_cases e : q = i; (subst e; intro h9; omega); exact hdr q (by omega)⟩ (by omega) (saQ rfl) (pfQ rfl)
     have h32p := of_decide_eq_false h32
     refine zba 4 rfl (fsQ rfl (zdq (zbb (hvQ rfl (vaQ rfl rfl rfl) (zak 1 rfl (?_))))))
     exact zcx (zbw (i + 1) ⟨by omega, fun q hq => by by_cases e : q = i; (subst e; intro h9; omega); exact hdr q (by omega)⟩ (by omega) (saQ rfl) (pfQ rfl))
    refine ntQ (fcQ rfl ?_)
    refine zbv (zep ?_)
    refine zan (zbf (zbk 1 rfl ?_))
    exact zal (zaq rfl rfl (congrArg _ (zcz ⟨hkl, hcnt, hins, hsgA, fun q hq => hgs q (by omega), fun q hq => hxs q (by omega), fun q hq => hms q (by omega), fun q hq => hdr q (by omega)⟩).symm))
   have h4p := zeg h4
   refine zba 2 rfl (zaj rfl (zbk 1 rfl ?_))
   refine zal (zae ?_)
   exact zaq rfl rfl (congrArg _ (zbx (fun hp => by first | (omega) | (exact absurd hp.cnt (by assumption)) | (exact absurd hp.ins (by assumption)) | (exact absurd (hp.sg i (by omega)) (by assumption)) | (have h9 := (hp.gs i (by omega)).1; have h8 : Inn _ _ := Classical.byContradiction (fun h7 => by rw [zdr h7] at h9; omega); rw [zch h8] at h9; obtain ⟨h5, h6⟩ := h8; omega) | (exact absurd (hp.gs i (by omega)).2 (by assumption)) | (exact absurd (hp.xs i (by omega)) (by assumption)) | (obtain ⟨⟨⟨h1, h2⟩, ⟨h3, h4⟩, ⟨h5, h6⟩⟩, h7⟩ := hp.ms i (by omega); first | omega | exact absurd h7 (by assumption)) | (have h9 := hp.dr i (by omega) (by omega); omega))).symm)
  have h3p := zeg h3
  refine zba 8 rfl (zaj rfl (srQ (enQ 1 rfl ?_)))
  refine zbf (zal ?_)
  exact zae (zaq rfl rfl (congrArg _ (zbx (fun hp => by first | (omega) | (exact absurd hp.cnt (by assumption)) | (exact absurd hp.ins (by assumption)) | (exact absurd (hp.sg i (by omega)) (by assumption)) | (have h9 := (hp.gs i (by omega)).1; have h8 : Inn _ _ := Classical.byContradiction (fun h7 => by rw [zdr h7] at h9; omega); rw [zch h8] at h9; obtain ⟨h5, h6⟩ := h8; omega) | (exact absurd (hp.gs i (by omega)).2 (by assumption)) | (exact absurd (hp.xs i (by omega)) (by assumption)) | (obtain ⟨⟨⟨h1, h2⟩, ⟨h3, h4⟩, ⟨h5, h6⟩⟩, h7⟩ := hp.ms i (by omega); first | omega | exact absurd h7 (by assumption)) | (have h9 := hp.dr i (by omega) (by omega); omega))).symm))
 have h2a := zck h2
 refine zba 12 rfl (zaj rfl (srQ ?_))
 refine zba 1 rfl ?_
 refine zal (zae ?_)
 exact zaq rfl rfl (congrArg _ (zbx (fun hp => by first | (omega) | (exact absurd hp.cnt (by assumption)) | (exact absurd hp.ins (by assumption)) | (exact absurd (hp.sg i (by omega)) (by assumption)) | (have h9 := (hp.gs i (by omega)).1; have h8 : Inn _ _ := Classical.byContradiction (fun h7 => by rw [zdr h7] at h9; omega); rw [zch h8] at h9; obtain ⟨h5, h6⟩ := h8; omega) | (exact absurd (hp.gs i (by omega)).2 (by assumption)) | (exact absurd (hp.xs i (by omega)) (by assumption)) | (obtain ⟨⟨⟨h1, h2⟩, ⟨h3, h4⟩, ⟨h5, h6⟩⟩, h7⟩ := hp.ms i (by omega); first | omega | exact absurd h7 (by assumption)) | (have h9 := hp.dr i (by omega) (by omega); omega))).symm)
theorem zea (D : List Md) (v : Value) (w : World) (hd : RdsDs w v D) :
   Calls Try.prog 15 #[.agg #[v]] w (Ans w (.bool (pB (DesP D)))) := by
 have hd9 := sml hd.row
 refine zcf (N := 19) (args := [.agg #[v]]) Try.func15 rfl rfl (srQ ?_)
 refine zdv rfl (zdp rfl rfl) ?_
 intro b1
 refine zba 1 rfl (ssrQ (hvQ rfl (fdQ 0 rfl rfl rfl) (hvQ rfl (zac rfl rfl rfl (zaa 0 rfl rfl)) (hvQ rfl (lnQ rfl rfl rfl (zag hd.row)) (zba 1 rfl ?_)))))
 refine zbh ?_
 refine lkQ1 (α := Nat) [0, 1, 2, 6] rfl (fun k => [boxE b1 #[v] 26]) (fun k => [(7, .int .i64 (k : Int))]) (fun k => k ≤ D.length ∧ ∀ q, q < k → ModP D q) (fun k => D.length - k) 0 ⟨Nat.zero_le _, fun q hq => absurd hq (by omega)⟩ (saQ rfl) (pfQ rfl) ?_
 intro k hi2
 obtain ⟨hk, hall⟩ := hi2
 refine srQ ?_
 refine zcb rfl rfl rfl rfl rfl rfl (fun h3 => ?_) (fun h3 => ?_)
 ·
  refine ntQ (tcQ rfl (zdi (sbQ (srQ (enQ 2 rfl ?_)))))
  refine zbf (srQ (hvQ rfl (zaw (cs := [v]) rfl rfl rfl rfl rfl (zau 0 rfl 0 rfl)) (zak 1 rfl ?_)))
  refine zdw rfl (zar rfl rfl (fun w hm => zav (zdz D k v w (hd.below hm.bel) (by omega)))) (zbm (fun h4 => ?_) (fun h4 => ?_))
  ·
   have h4p := zfa h4
   refine zba 1 rfl (fsQ rfl (zdq (zbb (hvQ rfl (vaQ rfl rfl rfl) (enQ 1 rfl ?_)))))
   exact zbw (k + 1) ⟨by omega, fun q hq => by by_cases e : q = k; (subst e; assumption); exact hall q (by omega)⟩ (by omega) (saQ rfl) (pfQ rfl)
  have h4p := zeg h4
  refine zba 1 rfl (zaj rfl (zbk 1 rfl ?_))
  refine zal (zab ?_)
  refine zdx ?_
  refine zab (zae ?_)
  exact zaq rfl rfl (congrArg _ (zbx (fun hp => by first | (have := hp.1; omega) | (exact absurd (hp.2 k (by omega)) (by assumption)))).symm)
 refine ntQ (fcQ rfl ?_)
 refine zbv (zep ?_)
 refine zan (zbf (srQ (hvQ rfl (fdQ 0 rfl rfl rfl) (hvQ rfl (zac rfl rfl rfl (zaa 0 rfl rfl)) (hvQ rfl (lnQ rfl rfl rfl (zag hd.row)) ?_)))))
 refine zdw rfl (zar rfl rfl (fun w hm => zav (zdm (zbt _ _ _ w)))) (zbm (fun h5 => ?_) (fun h5 => ?_))
 ·
  obtain ⟨h5a, h5b⟩ := (zco _ _ _).1 h5
  refine zba 1 rfl ?_
  exact zal (zaq rfl rfl (congrArg _ (zcz ⟨⟨by omega, by omega⟩, fun q hq => hall q (by omega)⟩).symm))
 have h5a := zck h5
 refine zba 1 rfl ?_
 exact zal (zaq rfl rfl (congrArg _ (zbx (fun hp => by first | (have := hp.1; omega) | (exact absurd (hp.2 k (by omega)) (by assumption)))).symm))
open Go.RowKit
instance (n : Int) (o : Oq) : Decidable (OqP n o) := by unfold OqP; infer_instance
def smpN : List Oq := [Oq.mk 12 0 0, Oq.mk 2 0 0, Oq.mk 8 0 0, Oq.mk 2 2 0, Oq.mk 0 1 0, Oq.mk 2 2 0]
theorem smpN_ok : OpsP 3 smpN := ⟨by decide, by decide, by decide⟩
theorem smpO_ok : OpsP 3 [Oq.mk 2 2 0] := ⟨by decide, by decide, by decide⟩
def smpD (s1 a1 o1 o2 s2 i2 pv : Value) : List Md := [Md.mk s1 a1 (.slice none 0 0) (.slice none 0 0) [Sg.mk 0 1 0, Sg.mk 1 0 0, Sg.mk 3 0 0] [As.mk 2 o1 smpN, As.mk 1 o2 [Oq.mk 2 2 0]] [] [], Md.mk s2 (.slice none 0 0) i2 (.slice none 0 0) [Sg.mk 0 1 0, Sg.mk 1 0 0] [] [Ix.mk 0 0 pv [0, 1]] []]
theorem smp_ok (s1 a1 o1 o2 s2 i2 pv : Value) : DesP (smpD s1 a1 o1 o2 s2 i2 pv) := by
  have hc : CntP (smpD s1 a1 o1 o2 s2 i2 pv) := ⟨by show 2 ≤ 4; decide, fun k hk => by
    have hk2 : k < 2 := hk
    rcases (by omega : k = 0 ∨ k = 1) with rfl | rfl
    · exact ⟨by show 3 ≤ 30; decide, by show 2 ≤ 30; decide, by show 0 ≤ 3; decide, by show 0 ≤ 2; decide⟩
    · exact ⟨by show 2 ≤ 30; decide, by show 0 ≤ 30; decide, by show 1 ≤ 3; decide, by show 0 ≤ 2; decide⟩⟩
  have sg : ∀ {k w : Int}, (0 ≤ k ∧ k ≤ 3) → (0 ≤ w ∧ w ≤ 4) → SgP (Sg.mk k w 0) := fun h1 h2 => sgP_mk h1 h2 ⟨by decide, by decide⟩ (fun h => absurd rfl h)
  refine ⟨⟨by show 1 ≤ 2; decide, by show 2 ≤ 4; decide⟩, fun k hk => ?_⟩
  have hk2 : k < 2 := hk
  rcases (by omega : k = 0 ∨ k = 1) with rfl | rfl
  · refine ⟨hk, hc, fun i hi => absurd (show i < 0 from hi) (by omega), fun i hi => ?_, fun i hi => ?_, fun i hi => absurd (show i < 0 from hi) (by omega), fun i hi => absurd (show i < 0 from hi) (by omega), fun s hs h0 => ?_⟩
    · have hi3 : i < 3 := hi
      rcases (by omega : i = 0 ∨ i = 1 ∨ i = 2) with rfl | rfl | rfl
      · exact sg ⟨by decide, by decide⟩ ⟨by decide, by decide⟩
      · exact sg ⟨by decide, by decide⟩ ⟨by decide, by decide⟩
      · exact sg ⟨by decide, by decide⟩ ⟨by decide, by decide⟩
    · have hi3 : i < 2 := hi
      rcases (by omega : i = 0 ∨ i = 1) with rfl | rfl
      · exact ⟨(show (1 : Int) ≤ 3 ∧ (3 : Int) ≤ 3 from ⟨by decide, by decide⟩), smpN_ok⟩
      · exact ⟨(show (1 : Int) ≤ 1 ∧ (1 : Int) ≤ 3 from ⟨by decide, by decide⟩), smpO_ok⟩
    · have hs3 : s < 3 := hs
      rcases (by omega : s = 0 ∨ s = 1 ∨ s = 2) with rfl | rfl | rfl
      · exact absurd rfl h0
      · rfl
      · rfl
  · refine ⟨hk, hc, fun i hi => ?_, fun i hi => ?_, fun i hi => absurd (show i < 0 from hi) (by omega), fun i hi => ?_, fun i hi => absurd (show i < 0 from hi) (by omega), fun s hs h0 => ?_⟩
    · obtain rfl : i = 0 := by have : i < 1 := hi; omega
      exact ⟨⟨(show (0 : Int) ≤ 0 by decide), (show (0 : Int) < ((1 : Nat) : Int) by decide)⟩, rfl⟩
    · have hi3 : i < 2 := hi
      rcases (by omega : i = 0 ∨ i = 1) with rfl | rfl
      · exact sg ⟨by decide, by decide⟩ ⟨by decide, by decide⟩
      · exact sg ⟨by decide, by decide⟩ ⟨by decide, by decide⟩
    · obtain rfl : i = 0 := by have : i < 1 := hi; omega
      refine ⟨⟨(show (0 : Int) ≤ 0 by decide), (show (0 : Int) ≤ 4 by decide)⟩, fun j hj => ?_⟩
      have hj2 : j < 2 := hj
      rcases (by omega : j = 0 ∨ j = 1) with rfl | rfl
      · exact ⟨⟨(show (0 : Int) ≤ 0 by decide), (show (0 : Int) < ((2 : Nat) : Int) by decide)⟩, fun h => absurd (show (0 : Int) = 1 from h) (by decide)⟩
      · exact ⟨⟨(show (0 : Int) ≤ 1 by decide), (show (1 : Int) < ((2 : Nat) : Int) by decide)⟩, fun _ => .inl rfl⟩
    · have hs3 : s < 2 := hs
      rcases (by omega : s = 0 ∨ s = 1) with rfl | rfl
      · exact absurd rfl h0
      · rfl
theorem SampleDesign_ret  (w : World)  :
   Calls Try.prog 16 #[] w (Ret w (fun u_ p_ => ∃ (D : List Md) (v : Value) (ps : List HP), u_ = .agg #[v] ∧ p_ = [bigE ps] ∧ (∀ w, (bigE ps).holds w → RdsDs w v D) ∧ v.oneCell' = true ∧ DesP D)) := by
 refine zcf (N := 33) (args := []) Try.func16 rfl rfl (hc_keep _ [] rfl (srQ ?_))
 refine zdv rfl (zbj (z := .agg #[.slice none 0 0]) rfl rfl) ?_
 intro b1
 refine ntQ (srQ (hvQ rfl (zax (cs := #[.int .i64 12, .int .i64 0, .int .i64 0]) rfl rfl rfl) (hvQ rfl (zax (cs := #[.int .i64 2, .int .i64 0, .int .i64 0]) rfl rfl rfl) (hvQ rfl (zax (cs := #[.int .i64 8, .int .i64 0, .int .i64 0]) rfl rfl rfl) (hvQ rfl (zax (cs := #[.int .i64 2, .int .i64 2, .int .i64 0]) rfl rfl rfl) (hvQ rfl (zax (cs := #[.int .i64 0, .int .i64 1, .int .i64 0]) rfl rfl rfl) (hvQ rfl (zax (cs := #[.int .i64 2, .int .i64 2, .int .i64 0]) rfl rfl rfl) ?_)))))))
 refine zeb rfl (zai (z := .agg #[.int .i64 0, .int .i64 0, .int .i64 0]) (s := 3) (cs := ([12, 0, 0, 2, 0, 0, 8, 0, 0, 2, 2, 0, 0, 1, 0, 2, 2, 0].map (Value.int .i64))) rfl Try.underlying71 rfl (by decide) rfl (by kernel_rfl) rfl) ?_
 intro g2
 refine zba 1 rfl (srQ (hvQ rfl (zax (cs := #[.int .i64 0, .int .i64 1, .int .i64 0]) rfl rfl rfl) (hvQ rfl (zax (cs := #[.int .i64 1, .int .i64 0, .int .i64 0]) rfl rfl rfl) (hvQ rfl (zax (cs := #[.int .i64 3, .int .i64 0, .int .i64 0]) rfl rfl rfl) ?_))))
 refine zeb rfl (zai (z := .agg #[.int .i64 0, .int .i64 0, .int .i64 0]) (s := 3) (cs := ([0, 1, 0, 1, 0, 0, 3, 0, 0].map (Value.int .i64))) rfl Try.underlying30 rfl (by decide) rfl (by kernel_rfl) rfl) ?_
 intro g3
 refine zak 1 rfl (hvQ rfl (zax (cs := #[.int .i64 2, .slice (some ⟨g2, 0, none⟩) 6 6]) rfl rfl rfl) (hvQ rfl (zax (cs := #[.int .i64 2, .int .i64 2, .int .i64 0]) rfl rfl rfl) ?_))
 refine zeb rfl (zai (z := .agg #[.int .i64 0, .int .i64 0, .int .i64 0]) (s := 3) (cs := ([2, 2, 0].map (Value.int .i64))) rfl Try.underlying71 rfl (by decide) rfl (by kernel_rfl) rfl) ?_
 intro g4
 refine hvQ rfl (zax (cs := #[.int .i64 1, .slice (some ⟨g4, 0, none⟩) 1 1]) rfl rfl rfl) (zeb rfl (zai (z := .agg #[.int .i64 0, .slice none 0 0]) (s := 2) (cs := [.int .i64 2, .slice (some ⟨g2, 0, none⟩) 6 6, .int .i64 1, .slice (some ⟨g4, 0, none⟩) 1 1]) rfl Try.underlying31 rfl (by decide) rfl (by kernel_rfl) rfl) ?_)
 intro g5
 refine hvQ rfl (zax (cs := #[.slice (some ⟨g3, 0, none⟩) 3 3, .slice (some ⟨g5, 0, none⟩) 2 2, .slice none 0 0, .slice none 0 0]) rfl rfl rfl) (zdv rfl (zbj (z := .agg #[.slice none 0 0, .slice none 0 0, .slice none 0 0, .slice none 0 0]) rfl rfl) ?_)
 intro b6
 refine zbn (cs' := #[.slice (some ⟨g3, 0, none⟩) 3 3, .slice (some ⟨g5, 0, none⟩) 2 2, .slice none 0 0, .slice none 0 0]) (i := 0) (off := 0) (us := [.slice (some ⟨g3, 0, none⟩) 3 3, .slice (some ⟨g5, 0, none⟩) 2 2, .slice none 0 0, .slice none 0 0]) rfl rfl rfl rfl rfl rfl rfl (zad rfl (zad rfl (zad rfl (zad rfl zbg)))) rfl rfl rfl (ntQ (srQ (hvQ rfl (zax (cs := #[.int .i64 0, .int .i64 1, .int .i64 0]) rfl rfl rfl) (hvQ rfl (zax (cs := #[.int .i64 1, .int .i64 0, .int .i64 0]) rfl rfl rfl) ?_))))
 refine zeb rfl (zai (z := .agg #[.int .i64 0, .int .i64 0, .int .i64 0]) (s := 3) (cs := ([0, 1, 0, 1, 0, 0].map (Value.int .i64))) rfl Try.underlying30 rfl (by decide) rfl (by kernel_rfl) rfl) ?_
 intro g7
 refine zeb rfl (zai (z := .int .i64 0) (s := 1) (cs := ([0, 1].map (Value.int .i64))) rfl Try.underlying48 rfl (by decide) rfl (by kernel_rfl) rfl) ?_
 intro g8
 refine hvQ rfl (zax (cs := #[.int .i64 0, .int .i64 0, .slice (some ⟨g8, 0, none⟩) 2 2]) rfl rfl rfl) (zeb rfl (zai (z := .agg #[.int .i64 0, .int .i64 0, .slice none 0 0]) (s := 3) (cs := [.int .i64 0, .int .i64 0, .slice (some ⟨g8, 0, none⟩) 2 2]) rfl Try.underlying32 rfl (by decide) rfl (by kernel_rfl) rfl) ?_)
 intro g9
 refine hvQ rfl (zax (cs := #[.slice (some ⟨g7, 0, none⟩) 2 2, .slice none 0 0, .slice (some ⟨g9, 0, none⟩) 1 1, .slice none 0 0]) rfl rfl rfl) (zdv rfl (zbj (z := .agg #[.slice none 0 0, .slice none 0 0, .slice none 0 0, .slice none 0 0]) rfl rfl) ?_)
 intro b10
 refine zbn (cs' := #[.slice (some ⟨g7, 0, none⟩) 2 2, .slice none 0 0, .slice (some ⟨g9, 0, none⟩) 1 1, .slice none 0 0]) (i := 0) (off := 0) (us := [.slice (some ⟨g7, 0, none⟩) 2 2, .slice none 0 0, .slice (some ⟨g9, 0, none⟩) 1 1, .slice none 0 0]) rfl rfl rfl rfl rfl rfl rfl (zad rfl (zad rfl (zad rfl (zad rfl zbg)))) rfl rfl rfl (ntQ (srQ (hvQ rfl (zaw (cs := [.slice (some ⟨g3, 0, none⟩) 3 3, .slice (some ⟨g5, 0, none⟩) 2 2, .slice none 0 0, .slice none 0 0]) rfl rfl rfl rfl rfl (zau 4 rfl 0 rfl)) (hvQ rfl (zaw (cs := [.slice (some ⟨g7, 0, none⟩) 2 2, .slice none 0 0, .slice (some ⟨g9, 0, none⟩) 1 1, .slice none 0 0]) rfl rfl rfl rfl rfl (zau 0 rfl 0 rfl)) ?_))))
 refine zeb rfl (zai (z := .agg #[.slice none 0 0, .slice none 0 0, .slice none 0 0, .slice none 0 0]) (s := 4) (cs := [.slice (some ⟨g3, 0, none⟩) 3 3, .slice (some ⟨g5, 0, none⟩) 2 2, .slice none 0 0, .slice none 0 0, .slice (some ⟨g7, 0, none⟩) 2 2, .slice none 0 0, .slice (some ⟨g9, 0, none⟩) 1 1, .slice none 0 0]) rfl Try.underlying24 rfl (by decide) rfl (by kernel_rfl) rfl) ?_
 intro g11
 refine hvQ rfl (zax (cs := #[.slice (some ⟨g11, 0, none⟩) 2 2]) rfl rfl rfl) (zbn (cs' := #[.slice (some ⟨g11, 0, none⟩) 2 2]) (i := 10) (off := 0) (us := [.slice (some ⟨g11, 0, none⟩) 2 2]) rfl rfl rfl rfl rfl rfl rfl (zad rfl zbg) rfl rfl rfl ?_)
 refine ntQ ?_
 refine zal (zbd 11 [10, 5, 1, 3, 2, 4, 7, 9, 6, 8, 0] rfl rfl (by decide) ?_)
 refine zbu 8 rfl ?_
 exact hq_retM (rs := [.cell 0 26]) (vs := [.agg #[.slice (some ⟨g11, 0, none⟩) 2 2]]) (post := [bigE [rowE 35 4 (.slice (some ⟨g11, 0, none⟩) 2 2) 2 ([.slice (some ⟨g3, 0, none⟩) 3 3, .slice (some ⟨g5, 0, none⟩) 2 2, .slice none 0 0, .slice none 0 0, .slice (some ⟨g7, 0, none⟩) 2 2, .slice none 0 0, .slice (some ⟨g9, 0, none⟩) 1 1, .slice none 0 0]), rowE 38 3 (.slice (some ⟨g3, 0, none⟩) 3 3) 3 ([0, 1, 0, 1, 0, 0, 3, 0, 0].map (Value.int .i64)), rowE 89 2 (.slice (some ⟨g5, 0, none⟩) 2 2) 2 ([.int .i64 2, .slice (some ⟨g2, 0, none⟩) 6 6, .int .i64 1, .slice (some ⟨g4, 0, none⟩) 1 1]), rowE 97 3 (.slice (some ⟨g2, 0, none⟩) 6 6) 6 ([12, 0, 0, 2, 0, 0, 8, 0, 0, 2, 2, 0, 0, 1, 0, 2, 2, 0].map (Value.int .i64)), rowE 97 3 (.slice (some ⟨g4, 0, none⟩) 1 1) 1 ([2, 2, 0].map (Value.int .i64)), rowE 38 3 (.slice (some ⟨g7, 0, none⟩) 2 2) 2 ([0, 1, 0, 1, 0, 0].map (Value.int .i64)), rowE 63 3 (.slice (some ⟨g9, 0, none⟩) 1 1) 1 ([.int .i64 0, .int .i64 0, .slice (some ⟨g8, 0, none⟩) 2 2]), rowE 3 1 (.slice (some ⟨g8, 0, none⟩) 2 2) 2 ([0, 1].map (Value.int .i64))]]) rfl ⟨⟨b1, 0, [.slice (some ⟨g11, 0, none⟩) 2 2], rfl, rfl, by kernel_rfl, by kernel_rfl, zau 3 rfl 0 rfl⟩, trivial⟩ rfl (slQ [0] rfl) ⟨smpD (.slice (some ⟨g3, 0, none⟩) 3 3) (.slice (some ⟨g5, 0, none⟩) 2 2) (.slice (some ⟨g2, 0, none⟩) 6 6) (.slice (some ⟨g4, 0, none⟩) 1 1) (.slice (some ⟨g7, 0, none⟩) 2 2) (.slice (some ⟨g9, 0, none⟩) 1 1) (.slice (some ⟨g8, 0, none⟩) 2 2), _, _, rfl, rfl, fun w hw => ⟨zcl (zas hw List.mem_cons_self), fun m hm => by rcases List.mem_cons.1 hm with rfl | hm; (exact ⟨zcl (zas hw (List.mem_cons_of_mem _ List.mem_cons_self)), zcl (zas hw (List.mem_cons_of_mem _ (List.mem_cons_of_mem _ List.mem_cons_self))), fun g hg => by rcases List.mem_cons.1 hg with rfl | hg; (exact zcl (zas hw (List.mem_cons_of_mem _ (List.mem_cons_of_mem _ (List.mem_cons_of_mem _ List.mem_cons_self))))); (obtain rfl := List.mem_singleton.1 hg; exact zcl (zas hw (List.mem_cons_of_mem _ (List.mem_cons_of_mem _ (List.mem_cons_of_mem _ (List.mem_cons_of_mem _ List.mem_cons_self)))))), nilW w 3, PtsR.nil w, nilW w 4⟩); (obtain rfl := List.mem_singleton.1 hm; exact ⟨zcl (zas hw (List.mem_cons_of_mem _ (List.mem_cons_of_mem _ (List.mem_cons_of_mem _ (List.mem_cons_of_mem _ (List.mem_cons_of_mem _ List.mem_cons_self)))))), nilW w 2, OpsR.nil w, zcl (zas hw (List.mem_cons_of_mem _ (List.mem_cons_of_mem _ (List.mem_cons_of_mem _ (List.mem_cons_of_mem _ (List.mem_cons_of_mem _ (List.mem_cons_of_mem _ List.mem_cons_self))))))), fun x hx => by obtain rfl := List.mem_singleton.1 hx; exact zcl (zas hw (List.mem_cons_of_mem _ (List.mem_cons_of_mem _ (List.mem_cons_of_mem _ (List.mem_cons_of_mem _ (List.mem_cons_of_mem _ (List.mem_cons_of_mem _ (List.mem_cons_of_mem _ List.mem_cons_self)))))))), nilW w 4⟩)⟩, rfl, smp_ok _ _ _ _ _ _ _⟩
theorem flat_take {α : Type} {f : α → List Value} {s : Nat} (hf : ∀ a, (f a).length = s) : ∀ (xs : List α) (k : Nat), (xs.flatMap f).take (k * s) = (xs.take k).flatMap f
  | [], k => by simp
  | x :: xs, 0 => by simp
  | x :: xs, k + 1 => by
    rw [List.flatMap_cons, List.take_succ_cons, List.flatMap_cons, List.take_append, hf x, Nat.succ_mul, Nat.add_sub_cancel, flat_take hf xs k, List.take_of_length_le (by rw [hf x]; omega)]
theorem flat_drop {α : Type} {f : α → List Value} {s : Nat} (hf : ∀ a, (f a).length = s) : ∀ (xs : List α) (k : Nat), (xs.flatMap f).drop (k * s) = (xs.drop k).flatMap f
  | [], k => by simp
  | x :: xs, 0 => by simp
  | x :: xs, k + 1 => by
    rw [List.flatMap_cons, List.drop_succ_cons, List.drop_append, hf x, Nat.succ_mul, Nat.add_sub_cancel, flat_drop hf xs k, List.drop_of_length_le (by rw [hf x]; omega), List.nil_append]
theorem rd_slHs {w0 : World} {l : List HP} {α : Type} {f : α → List Value} {s : Nat} (hf : ∀ a, (f a).length = s) {v : Value} {xs : List α} (h : Rd w0 l v s xs.length (xs.flatMap f)) {k : Nat} (hk : k ≤ xs.length) : Rd w0 l (slV v 0 k s) s (xs.take k).length ((xs.take k).flatMap f) := fun w hm => by
  have := rdW_sl (h w hm) (Nat.zero_le k) hk
  simp only [Nat.sub_zero, Nat.zero_mul, List.drop_zero] at this
  rw [flat_take hf] at this
  rw [List.length_take, Nat.min_eq_left hk]; exact this
theorem rd_slLs {w0 : World} {l : List HP} {α : Type} {f : α → List Value} {s : Nat} (hf : ∀ a, (f a).length = s) {v : Value} {xs : List α} (h : Rd w0 l v s xs.length (xs.flatMap f)) {k : Nat} (hk : k ≤ xs.length) : Rd w0 l (slV v k xs.length s) s (xs.drop k).length ((xs.drop k).flatMap f) := fun w hm => by
  have := rdW_sl (h w hm) hk (Nat.le_refl _)
  rw [flat_drop hf, List.take_of_length_le (by
    have h2 : ∀ (ys : List α), (ys.flatMap f).length = ys.length * s := fun ys => by induction ys with | nil => simp | cons y ys ih => rw [List.flatMap_cons, List.length_append, ih, hf, List.length_cons, Nat.succ_mul]; omega
    rw [h2, List.length_drop]; exact Nat.le_refl _)] at this
  rw [List.length_drop]; exact this
theorem flat_onesG (xs : List As) (h : ∀ r ∈ xs, r.ov.oneCell' = true) : ∀ q ∈ xs.flatMap asC, q.oneCell' = true := fun q hq => by
  obtain ⟨r, hr, hq⟩ := List.mem_flatMap.1 hq
  simp [asC] at hq
  rcases hq with rfl | rfl
  · rfl
  · exact h r hr
theorem less_rds {w : World} {E : List Md} {k j : Nat} {av : Value} {m0 : Md} (h : ∀ m ∈ E, RdsMd w m) (hav : RdsW w av 2 (m0.gs.take j ++ m0.gs.drop (j + 1)).length ((m0.gs.take j ++ m0.gs.drop (j + 1)).flatMap asC)) (ho : OpsR w m0.gs) : ∀ m ∈ E.set k { E.getD k md0 with av := av, gs := m0.gs.take j ++ m0.gs.drop (j + 1) }, RdsMd w m := fun m hm => by
  by_cases hk : k < E.length
  · rcases List.mem_or_eq_of_mem_set hm with hm | rfl
    · exact h m hm
    · have h1 := h _ (zbp (d := md0) hk)
      exact ⟨h1.s, hav, fun g hg => ho g ((List.mem_append.1 hg).elim List.mem_of_mem_take List.mem_of_mem_drop), h1.x, h1.p, h1.m⟩
  · rw [List.set_eq_of_length_le (by omega)] at hm; exact h m hm
theorem walk_FnDriversOnce (a0 : Option Addr) (len0 cap0 : Nat) (z0 : List Int) (w : World) (hbr : BRow .u8 w a0 len0 cap0 z0) :
   Calls Try.prog 3 #[.slice a0 len0 cap0] w (Ans w (.bool true)) := by
 have hcd0 := cod_le hbr 0
 have hcd1 := cod_le hbr 1
 refine zcf (N := 106) (args := [.slice a0 len0 cap0]) Try.func3 rfl rfl (zbk 1 rfl (zah (zah (reQ 1 rfl ?_))))
 refine zdw rfl (zar rfl rfl (fun w hm => zav (zdm (big_any a0 len0 cap0 w (hbr.len_le))))) (zbm (fun h1 => ?_) (fun h1 => ?_))
 ·
  refine ntQ (zaj rfl (zbk 1 rfl ?_))
  refine zal (zae ?_)
  exact zaq rfl rfl rfl
 have hlen9 := of_decide_eq_false h1
 refine ntQ (zap rfl (zdi (zah (reQ 1 rfl ?_))))
 refine hl_q rfl rfl rfl (zar rfl rfl (fun w hm => DrawDesign_ret a0 len0 cap0 z0 w (hbr.below hm.bel) (by omega))) ?_
 intro v2 p3 hR4
 obtain ⟨D, dv, x, dp, rfl, rfl, hdp, hdv1, hdd, hd1, hx1, hx3⟩ := hR4
 have hdes := hdd.ok hd1
 have hdl := hdd.len
 refine zak 3 rfl (zdv rfl (zbj (z := .agg #[.slice none 0 0]) rfl rfl) ?_)
 intro b5
 refine zbn (cs' := #[dv]) (i := 0) (off := 0) (us := [dv]) rfl rfl rfl rfl rfl rfl rfl (zad hdv1 zbg) rfl rfl rfl (zba 1 rfl (zah ?_))
 refine zcs 6 [[], [0], [], [2], [3], [1, 4]] [19, 20, 21, 22, 23, 24] [.slice a0 len0 cap0, .int .i64 (cod z0 len0 0 : Int), .pointer (some ⟨b5, 0 + 0, none⟩), dv, .int .i64 (D.length : Int), .int .i64 ((cod z0 len0 0 : Int) % (D.length : Int))] (by kernel_rfl) rfl ?_ ?_
 ·
  exact ⟨iaQ rfl (zay rfl) rfl, .inl ⟨rfl, zar rfl rfl (fun w hm => zav (at_ans hbr 0 (by omega) w hm))⟩, iaQ rfl (fdQ 0 rfl rfl rfl) rfl, iaQ rfl (zac rfl rfl rfl (zaa 0 rfl rfl)) rfl, iaQ rfl (lnQ rfl rfl rfl (fun w hm => (hdp w (hm.holds _ (zbs (i := 1) rfl))).row)) rfl, iaQ rfl (rv_rem rfl rfl rfl (by constructor <;> omega)) rfl, trivial⟩
 simp only [List.drop_succ_cons, List.drop_zero]
 refine zba 1 rfl (srQ (hvQ rfl (fdQ 0 rfl rfl rfl) (hvQ rfl (zac rfl rfl rfl (zaa 0 rfl rfl)) (zak 1 rfl ?_))))
 have hxak := Int.emod_nonneg (cod z0 len0 0 : Int) (show (D.length : Int) ≠ 0 by omega)
 have hxbk := Int.emod_lt_of_pos (cod z0 len0 0 : Int) (show 0 < (D.length : Int) by omega)
 obtain ⟨k, hkqk⟩ : ∃ k : Nat, (cod z0 len0 0 : Int) % (D.length : Int) = (k : Int) := ⟨((cod z0 len0 0 : Int) % (D.length : Int)).toNat, by omega⟩
 have hkl : k < D.length := by omega
 rw [hkqk]
 obtain ⟨hcn1, hcn2, hcn3, hcn4⟩ := (hdes.2 k hkl).cnt.2 k hkl
 refine zfb (p := MdOne (D.getD k md0) ∧ ∀ g ∈ (D.getD k md0).gs, g.ov.oneCell' = true) (fun w hm => ⟨((hdp w (hm.holds _ (zbs (i := 1) rfl))).at (k := k) (by omega)).ones, fun g hg => (((hdp w (hm.holds _ (zbs (i := 1) rfl))).at (k := k) (by omega)).o g hg).one⟩) (fun ⟨hEo, hgo⟩ => ?_)
 refine hvQ rfl (riQ 4 rfl rfl rfl rfl (fun w hm => (hdp w (hm.holds _ (zbs (i := 1) rfl))).row)) (hvQ rfl (zbi (us := [(D.getD k md0).sv, (D.getD k md0).av, (D.getD k md0).iv, (D.getD k md0).mv]) rfl rfl rfl rfl (fun w hm => (hdp w (hm.holds _ (zbs (i := 1) rfl))).row) (by omega) rfl (zca mdC 4 (fun _ => rfl) D md0 (show k < _ by omega) rfl)) ?_)
 refine zdv rfl (zbj (z := .agg #[.slice none 0 0, .slice none 0 0, .slice none 0 0, .slice none 0 0]) rfl rfl) ?_
 intro b6
 refine zbn (cs' := #[(D.getD k md0).sv, (D.getD k md0).av, (D.getD k md0).iv, (D.getD k md0).mv]) (i := 0) (off := 0) (us := [(D.getD k md0).sv, (D.getD k md0).av, (D.getD k md0).iv, (D.getD k md0).mv]) rfl rfl rfl rfl rfl rfl rfl (zad hEo.1 (zad hEo.2.1 (zad hEo.2.2.1 (zad hEo.2.2.2 zbg)))) rfl rfl rfl (ntQ (zah (zbk 1 rfl (zbh ?_))))
 refine lkQ1 (α := Nat) [0, 2, 3, 5, 6, 13] rfl (fun i => [boxE b6 #[(D.getD k md0).sv, (D.getD k md0).av, (D.getD k md0).iv, (D.getD k md0).mv] 35, boxE b5 #[dv] 26, bigE dp]) (fun i => [(7, .int .i64 (i : Int))]) (fun i => i ≤ (D.getD k md0).ss.length) (fun i => (D.getD k md0).ss.length - i) 0 (Nat.zero_le _) (saQ rfl) (pfQ rfl) ?_
 intro i hi7
 have hi := hi7
 refine zah (zah (reQ 1 rfl (hvQ rfl (fdQ 0 rfl rfl rfl) (hvQ rfl (zac rfl rfl rfl (zaa 0 rfl rfl)) ?_))))
 refine hvQ rfl (lnQ rfl rfl rfl (fun w hm => ((hdp w (hm.holds _ (zbs (i := 2) rfl))).at (k := k) (by omega)).s)) (zcb rfl rfl rfl rfl rfl rfl (fun h8 => ?_) (fun h8 => ?_))
 ·
  refine ntQ (zaj rfl (zdi (sbQ (srQ (hvQ rfl (zaw (cs := [dv]) rfl rfl rfl rfl rfl (zau 1 rfl 0 rfl)) (zak 2 rfl ?_))))))
  refine zdw rfl (zar rfl rfl (fun w hm => zav (implDriverCount_ans D k i dv w (hdp w (hm.holds _ (zbs (i := 2) rfl))) ⟨by omega, (hdes.2 k (by omega)).cnt, (hdes.2 k (by omega)).ins⟩ (by omega)))) (zba 1 rfl (srQ ?_))
  have hct := hdd.cnt (show k < D.length by omega) (show i < (D.getD k md0).ss.length by omega)
  have hct2 : (((D.getD k md0).ss.getD i sg0).k = 0 → (drvL D (D.getD k md0)).count (i : Int) = 0) ∧ (((D.getD k md0).ss.getD i sg0).k ≠ 0 → (drvL D (D.getD k md0)).count (i : Int) = 1) := ⟨fun h9 => by rw [hct, if_pos h9], fun h9 => by rw [hct, if_neg h9]⟩
  refine zak 1 rfl (hl_neq rfl rfl rfl rfl rfl rfl (fun h9 => ?_) (fun h9 => ?_))
  ·
   refine zak 1 rfl (hvQ rfl (fdQ 0 rfl rfl rfl) (hvQ rfl (zac rfl rfl rfl (zaa 0 rfl rfl)) (zak 1 rfl ?_)))
   refine hvQ rfl (riQ 3 rfl rfl rfl rfl (fun w hm => ((hdp w (hm.holds _ (zbs (i := 2) rfl))).at (k := k) (by omega)).s)) (hvQ rfl (zbe (k0 := 0) rfl rfl rfl (fun w hm => ((hdp w (hm.holds _ (zbs (i := 2) rfl))).at (k := k) (by omega)).s) (by omega)) ?_)
   refine hvQ rfl (zat (u := .int .i64 ((((D.getD k md0).ss).getD i sg0).k)) rfl rfl rfl (fun w hm => ((hdp w (hm.holds _ (zbs (i := 2) rfl))).at (k := k) (by omega)).s) ((zce sgC 3 (fun _ => rfl) ((D.getD k md0).ss) sg0 (show i < _ by omega) (by decide)).trans rfl)) (hl_neq rfl rfl rfl rfl rfl rfl (fun h10 => ?_) (fun h10 => ?_))
   ·
    refine zba 5 rfl (zaj rfl (zbk 1 rfl ?_))
    refine zal (zab ?_)
    refine zdx ?_
    refine zab (zae ?_)
    exfalso; omega
   refine zak 2 rfl (hl_neq rfl rfl rfl rfl rfl rfl (fun h11 => ?_) (fun h11 => ?_))
   ·
    refine zba 2 rfl (zaj rfl (zbk 1 rfl ?_))
    refine zal (zab ?_)
    refine zdx ?_
    refine zab (zae ?_)
    exfalso; omega
   refine zba 2 rfl (fsQ rfl (zdq (reQ 1 rfl (hvQ rfl (vaQ rfl rfl rfl) (enQ 1 rfl ?_)))))
   exact zbw (i + 1) (by omega) (by omega) (saQ rfl) (pfQ rfl)
  refine zba 13 rfl ?_
  refine fsQ rfl (zdq (reQ 1 rfl (hvQ rfl (vaQ rfl rfl rfl) (enQ 1 rfl ?_))))
  exact zbw (i + 1) (by omega) (by omega) (saQ rfl) (pfQ rfl)
 refine ntQ (zap rfl ?_)
 refine zbv (zep ?_)
 refine zan (zbf (srQ (hvQ rfl (zaw (cs := [dv]) rfl rfl rfl rfl rfl (zau 1 rfl 0 rfl)) (zak 1 rfl ?_))))
 refine hl_q rfl rfl rfl (zar rfl rfl (fun w hm => InstanceOf_ret D k dv w (hdp w (hm.holds _ (zbs (i := 2) rfl))) (by omega) hdes)) ?_
 intro v12 p13 hR14
 obtain ⟨E, ev, ip, rfl, rfl, hel, heq, hip, hev1⟩ := hR14
 refine zak 3 rfl (zdv rfl (zbj (z := .agg #[.slice none 0 0]) rfl rfl) ?_)
 intro b15
 refine zbn (cs' := #[ev]) (i := 0) (off := 0) (us := [ev]) rfl rfl rfl rfl rfl rfl rfl (zad hev1 zbg) rfl rfl rfl (zba 1 rfl (ssrQ (hvQ rfl (fdQ 1 rfl rfl rfl) (hvQ rfl (zac rfl rfl rfl (zaa 3 rfl rfl)) ?_))))
 refine hvQ rfl (lnQ rfl rfl rfl (fun w hm => ((hdp w (hm.holds _ (zbs (i := 5) rfl))).at (k := k) (by omega)).g)) (zed rfl rfl rfl rfl rfl rfl (fun h16 => ?_) (fun h16 => ?_))
 ·
  refine ntQ (zaj rfl (zah ?_))
  refine zcs 6 [[], [0], [], [2], [3], [1, 4]] [66, 67, 68, 69, 70, 71] [.slice a0 len0 cap0, .int .i64 (cod z0 len0 1 : Int), .pointer (some ⟨b6, 0 + 1, none⟩), (D.getD k md0).av, .int .i64 (((D.getD k md0).gs).length : Int), .int .i64 ((cod z0 len0 1 : Int) % (((D.getD k md0).gs).length : Int))] (by kernel_rfl) rfl ?_ ?_
  ·
   exact ⟨iaQ rfl (zay rfl) rfl, .inl ⟨rfl, zar rfl rfl (fun w hm => zav (at_ans hbr 1 (by omega) w hm))⟩, iaQ rfl (fdQ 1 rfl rfl rfl) rfl, iaQ rfl (zac rfl rfl rfl (zaa 3 rfl rfl)) rfl, iaQ rfl (lnQ rfl rfl rfl (fun w hm => ((hdp w (hm.holds _ (zbs (i := 5) rfl))).at (k := k) (by omega)).g)) rfl, iaQ rfl (rv_rem rfl rfl rfl (by constructor <;> omega)) rfl, trivial⟩
  simp only [List.drop_succ_cons, List.drop_zero]
  refine zba 1 rfl (zah ?_)
  have hxaj := Int.emod_nonneg (cod z0 len0 1 : Int) (show (((D.getD k md0).gs).length : Int) ≠ 0 by omega)
  have hxbj := Int.emod_lt_of_pos (cod z0 len0 1 : Int) (show 0 < (((D.getD k md0).gs).length : Int) by omega)
  obtain ⟨j, hkqj⟩ : ∃ j : Nat, (cod z0 len0 1 : Int) % (((D.getD k md0).gs).length : Int) = (j : Int) := ⟨((cod z0 len0 1 : Int) % (((D.getD k md0).gs).length : Int)).toNat, by omega⟩
  have hjl : j < (D.getD k md0).gs.length := by omega
  rw [hkqj]
  refine hc_draw4 (l := [boxE b15 #[ev] 26, rowE 35 4 ev E.length (E.flatMap mdC), bigE ip, boxE b6 #[(D.getD k md0).sv, (D.getD k md0).av, (D.getD k md0).iv, (D.getD k md0).mv] 35, boxE b5 #[dv] 26, bigE dp]) rfl 15 [0, 1, 2, 3, 4, 5, 6, 7, 8, 9, 10, 11, 12, 13, 14] (List.take 15 _) (List.drop 15 _) [[], [0], [], [], [], [4], [], [5, 6], [3, 7], [], [9], [], [11], [10, 12], [8, 13]] [some 72, some 73, some 74, some 75, some 76, some 77, some 78, some 79, some 80, some 81, some 82, some 83, some 84, some 85, some 86] (fun i_ vs_ v_ p_ => match i_ with | 0 => v_ = .pointer (some ⟨b15, 0 + 0, none⟩) ∧ p_ = [] | 1 => v_ = ev ∧ p_ = [] | 2 => v_ = .int .i64 (k : Int) ∧ p_ = [] | 3 => IsRow 89 2 0 ([]) v_ p_ | 4 => v_ = .pointer (some ⟨b6, 0 + 1, none⟩) ∧ p_ = [] | 5 => v_ = (D.getD k md0).av ∧ p_ = [] | 6 => v_ = .int .i64 (j : Int) ∧ p_ = [] | 7 => v_ = slV ((D.getD k md0).av) 0 ((j : Int)).toNat 2 ∧ p_ = [] | 8 => (∃ pm_, p_ = [pm_] ∧ (fun u_ p_ => p_ = rowE 89 2 u_ ((((D.getD k md0).gs).take ((j : Int)).toNat).length) ((((D.getD k md0).gs).take ((j : Int)).toNat).flatMap asC)) v_ pm_) | 9 => v_ = .pointer (some ⟨b6, 0 + 1, none⟩) ∧ p_ = [] | 10 => v_ = (D.getD k md0).av ∧ p_ = [] | 11 => v_ = .int .i64 (j : Int) ∧ p_ = [] | 12 => v_ = .int .i64 ((j : Int) + 1) ∧ p_ = [] | 13 => v_ = slV ((D.getD k md0).av) ((j : Int) + 1).toNat (((D.getD k md0).gs).length) 2 ∧ p_ = [] | 14 => (∃ pm_, p_ = [pm_] ∧ (fun u_ p_ => p_ = rowE 89 2 u_ (((((D.getD k md0).gs).take ((j : Int)).toNat) ++ (((D.getD k md0).gs).drop ((j : Int) + 1).toNat)).length) (((((D.getD k md0).gs).take ((j : Int)).toNat) ++ (((D.getD k md0).gs).drop ((j : Int) + 1).toNat)).flatMap asC)) v_ pm_) | _ => True) [[], [0], [], [], [], [4], [], [5, 6], [7], [], [9], [], [11], [10, 12], [13]] [none, none, none, none, none, none, none, none, some 3, none, none, none, none, none, some 8] [] [0, 1, 2, 4, 5, 6, 7, 9, 10, 11, 12, 13, 14] 18 (List.take_append_drop 15 _).symm (by kernel_rfl) (by kernel_rfl) (by kernel_rfl) rfl rfl ?_ ?_
  ·
   refine ⟨?_, ?_, ?_, ?_, ?_, ?_, ?_, ?_, ?_, ?_, ?_, ?_, ?_, ?_, ?_, trivial⟩
   ·
    intro vf pf hmu hR
    refine dq3Q [] [] rfl (zbr (zao [9] rfl) ?_)
    exact zbq (fdQ 0 rfl rfl rfl)
   ·
    intro vf pf hmu hR
    have e0 := hR 0 (by decide)
    refine dq3Q [0] [0] rfl (zaz (sk 72 (congrArg some e0.1) (zaf _)) (List.sublist_append_right _ _) ?_)
    exact zbq (zac rfl rfl rfl (zaa 0 rfl rfl))
   ·
    intro vf pf hmu hR
    refine dq3Q [] [] rfl (zbr (zao [5] rfl) ?_)
    exact zbq (zay rfl)
   ·
    intro vf pf hmu hR
    refine dq3Q [] [] rfl (zaz (zaf _) (List.sublist_append_right _ _) ?_)
    exact zds (s := 2) rfl Try.underlying31 rfl
   ·
    intro vf pf hmu hR
    refine dq3Q [] [] rfl (zbr (zao [6] rfl) ?_)
    exact zbq (fdQ 1 rfl rfl rfl)
   ·
    intro vf pf hmu hR
    have e4 := hR 4 (by decide)
    refine dq3Q [4] [4] rfl (zaz (sk 76 (congrArg some e4.1) (zaf _)) (List.sublist_append_right _ _) ?_)
    exact zbq (zac rfl rfl rfl (zaa 3 rfl rfl))
   ·
    intro vf pf hmu hR
    refine dq3Q [] [] rfl (zbr (zao [11] rfl) ?_)
    exact zbq (zay rfl)
   ·
    intro vf pf hmu hR
    have e5 := hR 5 (by decide)
    have e6 := hR 6 (by decide)
    refine dq3Q [5, 6] [5, 6] rfl (zaz (sk 77 (congrArg some e5.1) (sk 78 (congrArg some e6.1) (zaf _))) (List.sublist_append_right _ _) ?_)
    exact zbq (rv_slH rfl Try.underlying31 rfl rfl rfl (fun w hm => ((hdp w (hm.holds _ (zbs (i := 5) rfl))).at (k := k) (by omega)).g) (by omega) (by omega))
   ·
    intro vf pf hmu hR
    have e3 : IsRow 89 2 0 ([]) (vf 3) (pf 3) := hR 3 (by decide)
    obtain ⟨g17, vE3, pE3⟩ := e3
    have e7 := hR 7 (by decide)
    refine Or.inl ⟨rfl, ?_⟩
    show RunM _ _ _ (pf 3) (([7] : List Nat).flatMap pf ++ _) (envOf3 _ vf [3, 7] ++ _) _ _
    rw [pE3]; rw [vE3]
    exact zcp (sk 75 (congrArg some vE3) (sk 79 (congrArg some e7.1) (zaf _))) (by simp only [e7.2, fS] <;> rfl) (rm_append (d := 0) (z := .agg #[.int .i64 0, .slice none 0 0]) (bytes := 32) (n' := (((D.getD k md0).gs).take ((j : Int)).toNat).length) (xs' := ((((D.getD k md0).gs).take ((j : Int)).toNat).flatMap asC)) rfl Try.underlying31 rfl rfl rfl rfl (rd_slHs (f := asC) (fun _ => rfl) (fun w hm => ((hdp w (hm.holds _ (zbs (i := 5) rfl))).at (k := k) (by omega)).g) (by omega)) (flat_onesG (((D.getD k md0).gs).take ((j : Int)).toNat) (fun r hr => hgo r (List.mem_of_mem_take hr))) (by first | omega | (simp only [List.length_take, List.length_drop]; omega)) (Nat.zero_add _) (List.nil_append _))
   ·
    intro vf pf hmu hR
    refine dq3Q [] [] rfl (zbr (zao [6] rfl) ?_)
    exact zbq (fdQ 1 rfl rfl rfl)
   ·
    intro vf pf hmu hR
    have e9 := hR 9 (by decide)
    refine dq3Q [9] [9] rfl (zaz (sk 81 (congrArg some e9.1) (zaf _)) (List.sublist_append_right _ _) ?_)
    exact zbq (zac rfl rfl rfl (zaa 3 rfl rfl))
   ·
    intro vf pf hmu hR
    refine dq3Q [] [] rfl (zbr (zao [11] rfl) ?_)
    exact zbq (zay rfl)
   ·
    intro vf pf hmu hR
    have e11 := hR 11 (by decide)
    refine dq3Q [11] [11] rfl (zbr (sk 83 (congrArg some e11.1) (zaf _)) ?_)
    exact zbq (vaQ rfl rfl rfl)
   ·
    intro vf pf hmu hR
    have e10 := hR 10 (by decide)
    have e12 := hR 12 (by decide)
    refine dq3Q [10, 12] [10, 12] rfl (zaz (sk 82 (congrArg some e10.1) (sk 84 (congrArg some e12.1) (zaf _))) (List.sublist_append_right _ _) ?_)
    exact zbq (rv_slL rfl Try.underlying31 rfl rfl rfl (fun w hm => ((hdp w (hm.holds _ (zbs (i := 5) rfl))).at (k := k) (by omega)).g) (by omega) (by omega))
   intro vf pf hmu hR
   have e8 : (∃ pm_, (pf 8) = [pm_] ∧ (fun u_ p_ => p_ = rowE 89 2 u_ ((((D.getD k md0).gs).take ((j : Int)).toNat).length) ((((D.getD k md0).gs).take ((j : Int)).toNat).flatMap asC)) (vf 8) pm_) := hR 8 (by decide)
   obtain ⟨p19, pE8, hR20⟩ := e8
   obtain ⟨v18, vE8⟩ : ∃ x, vf 8 = x := ⟨_, rfl⟩
   rw [vE8] at hR20
   subst hR20
   have e13 := hR 13 (by decide)
   refine Or.inl ⟨rfl, ?_⟩
   show RunM _ _ _ (pf 8) (([13] : List Nat).flatMap pf ++ _) (envOf3 _ vf [8, 13] ++ _) _ _
   rw [pE8]
   exact zcp (sk 80 (congrArg some vE8) (sk 85 (congrArg some e13.1) (zaf _))) (by simp only [e13.2, fS] <;> rfl) (rm_append (d := 0) (z := .agg #[.int .i64 0, .slice none 0 0]) (bytes := 32) (n' := ((((D.getD k md0).gs).take ((j : Int)).toNat) ++ (((D.getD k md0).gs).drop ((j : Int) + 1).toNat)).length) (xs' := (((((D.getD k md0).gs).take ((j : Int)).toNat) ++ (((D.getD k md0).gs).drop ((j : Int) + 1).toNat)).flatMap asC)) rfl Try.underlying31 rfl rfl rfl rfl (rd_slLs (f := asC) (fun _ => rfl) (fun w hm => ((hdp w (hm.holds _ (zbs (i := 5) rfl))).at (k := k) (by omega)).g) (by omega)) (flat_onesG (((D.getD k md0).gs).drop ((j : Int) + 1).toNat) (fun r hr => hgo r (List.mem_of_mem_drop hr))) (by first | omega | (simp only [List.length_take, List.length_drop, List.length_append]; omega)) (zcj (((D.getD k md0).gs).take ((j : Int)).toNat) (((D.getD k md0).gs).drop ((j : Int) + 1).toNat)) (flat_app asC (((D.getD k md0).gs).take ((j : Int)).toNat) (((D.getD k md0).gs).drop ((j : Int) + 1).toNat)))
  intro vf pf hmu hR
  have e1 := hR 1 (by decide)
  have e2 := hR 2 (by decide)
  have e3 : IsRow 89 2 0 ([]) (vf 3) (pf 3) := hR 3 (by decide)
  obtain ⟨g17, vE3, pE3⟩ := e3
  have e8 : (∃ pm_, (pf 8) = [pm_] ∧ (fun u_ p_ => p_ = rowE 89 2 u_ ((((D.getD k md0).gs).take ((j : Int)).toNat).length) ((((D.getD k md0).gs).take ((j : Int)).toNat).flatMap asC)) (vf 8) pm_) := hR 8 (by decide)
  obtain ⟨p19, pE8, hR20⟩ := e8
  obtain ⟨v18, vE8⟩ : ∃ x, vf 8 = x := ⟨_, rfl⟩
  rw [vE8] at hR20
  subst hR20
  have e14 : (∃ pm_, (pf 14) = [pm_] ∧ (fun u_ p_ => p_ = rowE 89 2 u_ (((((D.getD k md0).gs).take ((j : Int)).toNat) ++ (((D.getD k md0).gs).drop ((j : Int) + 1).toNat)).length) (((((D.getD k md0).gs).take ((j : Int)).toNat) ++ (((D.getD k md0).gs).drop ((j : Int) + 1).toNat)).flatMap asC)) (vf 14) pm_) := hR 14 (by decide)
  obtain ⟨p22, pE14, hR23⟩ := e14
  obtain ⟨v21, vE14⟩ : ∃ x, vf 14 = x := ⟨_, rfl⟩
  rw [vE14] at hR23
  subst hR23
  have q0 := hR 0 (by decide)
  have q1 := hR 1 (by decide)
  have q2 := hR 2 (by decide)
  have q4 := hR 4 (by decide)
  have q5 := hR 5 (by decide)
  have q6 := hR 6 (by decide)
  have q7 := hR 7 (by decide)
  have q9 := hR 9 (by decide)
  have q10 := hR 10 (by decide)
  have q11 := hR 11 (by decide)
  have q12 := hR 12 (by decide)
  have q13 := hR 13 (by decide)
  refine zcr (zcg [65, 34, 13, 11, 10, 9, 7, 6, 5, 3, 2, 0] _ (sk 73 (congrArg some e1.1) (sk 74 (congrArg some e2.1) (sk 86 (congrArg some vE14) (zaf _)))) rfl) (by simp only [pE14, vE14, q0.2, q1.2, q2.2, q4.2, q5.2, q6.2, q7.2, q9.2, q10.2, q11.2, q12.2, q13.2, fS] <;> rfl) ?_
  simp only [List.drop_succ_cons, List.drop_zero]
  refine hvQ rfl (riQ 4 rfl rfl rfl rfl (zam 2 rfl)) (hvQ rfl (zbe (k0 := 1) rfl rfl rfl (zam 2 rfl) (by omega)) ?_)
  refine zdb (i := 0) rfl (fun ho24 => ?_)
  refine hl_stE (i := 2) (n' := (E.set k { E.getD k md0 with av := v21, gs := (((D.getD k md0).gs.take j) ++ ((D.getD k md0).gs.drop (j + 1))) }).length) (xs' := ((E.set k { E.getD k md0 with av := v21, gs := (((D.getD k md0).gs.take j) ++ ((D.getD k md0).gs.drop (j + 1))) }).flatMap mdC)) rfl rfl rfl rfl rfl rfl ho24 rfl (by first | omega | (simp only [List.length_set]; omega)) List.length_set.symm (flat_set mdC 4 (fun _ => rfl) _ md0 _ (by first | omega | (simp only [List.length_set]; omega)) (by decide) rfl) rfl (ntQ (srQ (hvQ rfl (zaw (cs := [ev]) rfl rfl rfl rfl rfl (zau 1 rfl 0 rfl)) (zak 1 rfl ?_))))
  refine zdw rfl (zar rfl rfl (fun w hm => zav (by have h9 := zdz (E.set k { E.getD k md0 with av := v21, gs := (((D.getD k md0).gs.take j) ++ ((D.getD k md0).gs.drop (j + 1))) }) k ev w ⟨zam 2 rfl w hm, less_rds (hip w (hm.holds _ (zbs (i := 3) rfl))) (zam 0 rfl w hm) ((hdp w (hm.holds _ (zbs (i := 6) rfl))).at (k := k) (by omega)).o⟩ (by rw [List.length_set]; omega); rw [zbx (less_bad (m := { E.getD k md0 with av := v21, gs := (((D.getD k md0).gs.take j) ++ ((D.getD k md0).gs.drop (j + 1))) }) hdd (by omega) (by omega) (fun q hq => heq q hq) (show j < (D.getD k md0).gs.length by omega) (heq k (Nat.le_refl _)).s rfl (heq k (Nat.le_refl _)).x (heq k (Nat.le_refl _)).m)] at h9; exact h9))) (ntQ (zap rfl (zdi (zah (reQ 2 rfl (hvQ rfl (zaw (cs := [dv]) rfl rfl rfl rfl rfl (zau 5 rfl 0 rfl)) ?_))))))
  refine zdw rfl (zar rfl rfl (fun w hm => zav (by have h9 := zea D dv w (hdp w (hm.holds _ (zbs (i := 6) rfl))); rw [zcz hdes] at h9; exact h9))) (zak 2 rfl (hvQ rfl (zaw (cs := [dv]) rfl rfl rfl rfl rfl (zau 5 rfl 0 rfl)) (zak 1 rfl ?_)))
  refine zdw rfl (zar rfl rfl (fun w hm => zav (by have h9 := zdz D k dv w (hdp w (hm.holds _ (zbs (i := 6) rfl))) (by omega); rw [zcz (hdes.2 k (by omega))] at h9; exact h9))) (zak 2 rfl ?_)
  refine hl_q rfl rfl rfl (zar rfl rfl (fun w hm => SampleDesign_ret w)) ?_
  intro v25 p26 hR27
  obtain ⟨SD, sdv, sp_, rfl, rfl, hsp, hsdv, hsdes⟩ := hR27
  refine zdw rfl (zar rfl rfl (fun w hm => zav (by have h9 := zea SD sdv w (hsp w (hm.holds _ (zbs (i := 0) rfl))); rw [zcz hsdes] at h9; exact h9))) (zba 2 rfl ?_)
  exact zal (zaq rfl rfl rfl)
 refine ntQ (zap rfl (zdi (zah (reQ 2 rfl (hvQ rfl (zaw (cs := [dv]) rfl rfl rfl rfl rfl (zau 4 rfl 0 rfl)) ?_)))))
 refine zdw rfl (zar rfl rfl (fun w hm => zav (by have h9 := zea D dv w (hdp w (hm.holds _ (zbs (i := 5) rfl))); rw [zcz hdes] at h9; exact h9))) (zak 2 rfl (hvQ rfl (zaw (cs := [dv]) rfl rfl rfl rfl rfl (zau 4 rfl 0 rfl)) (zak 1 rfl ?_)))
 refine zdw rfl (zar rfl rfl (fun w hm => zav (by have h9 := zdz D k dv w (hdp w (hm.holds _ (zbs (i := 5) rfl))) (by omega); rw [zcz (hdes.2 k (by omega))] at h9; exact h9))) (zak 2 rfl ?_)
 refine hl_q rfl rfl rfl (zar rfl rfl (fun w hm => SampleDesign_ret w)) ?_
 intro v28 p29 hR30
 obtain ⟨SD, sdv, sp_, rfl, rfl, hsp, hsdv, hsdes⟩ := hR30
 refine zdw rfl (zar rfl rfl (fun w hm => zav (by have h9 := zea SD sdv w (hsp w (hm.holds _ (zbs (i := 0) rfl))); rw [zcz hsdes] at h9; exact h9))) (zba 2 rfl ?_)
 exact zal (zaq rfl rfl rfl)
end Go.Proofs.Ytodiifjigjnalaa
