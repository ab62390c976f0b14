/- The logic of states: many parts as one; functions that turn their caller's memory. -/
import Derived.Test.YteccnnpcigkmhaaLog5
set_option linter.unusedVariables false
set_option linter.unusedSimpArgs false
namespace Go.Proofs.Yteccnnpcigkmhaa
open Go.RowKit
/-- many parts, as one -/
def bigE (ps : List HP) : HP := ⟨fun k => ∃ p ∈ ps, p.foot k, fun w => (∀ p ∈ ps, p.Ok ∧ p.holds w) ∧ ps.Pairwise HP.apart⟩
theorem bigE_ok (ps : List HP) : (bigE ps).Ok := fun w w' hs hb h => ⟨fun p hp => ⟨(h.1 p hp).1, (h.1 p hp).1 w w' hs (fun b hf => hb b ⟨p, hp, hf⟩) (h.1 p hp).2⟩, h.2⟩
theorem Mem.big {w0 w : World} {ps l : List HP} (h : Mem w0 (ps ++ l) w) : Mem w0 (bigE ps :: l) w := by
  obtain ⟨a1, a2, a3⟩ := List.pairwise_append.1 h.apart
  refine ⟨h.bel, fun p hp => ?_, fun p hp => ?_, fun p hp b hf => ?_, ?_⟩
  · rcases List.mem_cons.1 hp with rfl | hp
    · exact ⟨fun p hp => ⟨h.ok p (List.mem_append_left _ hp), h.holds p (List.mem_append_left _ hp)⟩, a1⟩
    · exact h.holds p (List.mem_append_right _ hp)
  · rcases List.mem_cons.1 hp with rfl | hp
    · exact bigE_ok ps
    · exact h.ok p (List.mem_append_right _ hp)
  · rcases List.mem_cons.1 hp with rfl | hp
    · obtain ⟨q, hq, hf⟩ := hf
      exact h.new q (List.mem_append_left _ hq) b hf
    · exact h.new p (List.mem_append_right _ hp) b hf
  · refine List.pairwise_cons.2 ⟨fun q hq b hf hg => ?_, a2⟩
    obtain ⟨p, hp, hf⟩ := hf
    exact a3 p hp q hq b hf hg
theorem Mem.unbig {w0 w : World} {ps l : List HP} (h : Mem w0 (bigE ps :: l) w) : Mem w0 (ps ++ l) w := by
  obtain ⟨b1, b2⟩ := h.holds _ List.mem_cons_self
  obtain ⟨a1, a2⟩ := List.pairwise_cons.1 h.apart
  refine ⟨h.bel, fun p hp => ?_, fun p hp => ?_, fun p hp b hf => ?_, ?_⟩
  · rcases List.mem_append.1 hp with hp | hp
    · exact (b1 p hp).2
    · exact h.holds p (List.mem_cons_of_mem _ hp)
  · rcases List.mem_append.1 hp with hp | hp
    · exact (b1 p hp).1
    · exact h.ok p (List.mem_cons_of_mem _ hp)
  · rcases List.mem_append.1 hp with hp | hp
    · exact h.new _ List.mem_cons_self b ⟨p, hp, hf⟩
    · exact h.new p (List.mem_cons_of_mem _ hp) b hf
  · exact List.pairwise_append.2 ⟨b2, a2, fun p hp q hq b hf hg => a1 q hq b ⟨p, hp, hf⟩ hg⟩
/-- a list of parts turned about: what holds in every state -/
def Conv (w0 : World) (l l' : List HP) : Prop := ∀ w, Mem w0 l w → Mem w0 l' w
theorem conv_perm {w0 : World} {l l' : List HP} (h : l.Perm l') : Conv w0 l l' := fun w hm => hm.perm h
theorem Conv.trans {w0 : World} {l l' l'' : List HP} (h : Conv w0 l l') (h' : Conv w0 l' l'') : Conv w0 l l'' := fun w hm => h' w (h w hm)
theorem conv_big {w0 : World} {ps l : List HP} : Conv w0 (ps ++ l) (bigE ps :: l) := fun w hm => hm.big
theorem conv_unbig {w0 : World} {ps l : List HP} : Conv w0 (bigE ps :: l) (ps ++ l) := fun w hm => hm.unbig
theorem erase_perm {α : Type} : ∀ (ps : List α) (j : Nat) (p : α), ps[j]? = some p → ps.Perm (p :: ps.eraseIdx j)
  | [], j, p, h => by simp at h
  | a :: ps, 0, p, h => by simp at h; subst h; exact .refl _
  | a :: ps, j + 1, p, h => by
    have := erase_perm ps j p (by simpa using h)
    exact (this.cons a).trans (.swap _ _ _)
/-- one part out of many -/
theorem conv_focus {w0 : World} {ps l : List HP} {j : Nat} {p : HP} (h : ps[j]? = some p) : Conv w0 (bigE ps :: l) (p :: bigE (ps.eraseIdx j) :: l) := by
  refine conv_unbig.trans (Conv.trans (conv_perm (l' := (p :: ps.eraseIdx j) ++ l) ?_) ?_)
  · refine List.Perm.append_right l ?_
    exact erase_perm ps j p h
  · intro w hm
    have : Mem w0 ((ps.eraseIdx j) ++ (p :: l)) w := hm.perm (by simpa using (List.perm_middle (a := p) (l₁ := ps.eraseIdx j) (l₂ := l)).symm)
    exact this.big.perm (.swap _ _ _)
theorem conv_unfocus {w0 : World} {ps l : List HP} {j : Nat} {p' : HP} (h : j < ps.length) : Conv w0 (p' :: bigE (ps.eraseIdx j) :: l) (bigE (ps.set j p') :: l) := by
  intro w hm
  have h1 : Mem w0 (bigE (ps.eraseIdx j) :: p' :: l) w := hm.perm (.swap _ _ _)
  have h2 : Mem w0 (p' :: ps.eraseIdx j ++ l) w := h1.unbig.perm List.perm_middle
  refine (h2.perm (List.Perm.append_right l ?_)).big
  have := erase_perm (ps.set j p') j p' (by rw [List.getElem?_set_self h])
  rw [List.eraseIdx_set_eq] at this
  exact this.symm
section
variable {P : Program} {N : Nat} {w0 : World} {l l' : List HP} {env : List (Nat × Value)} {Q : Post} {o : Oper} {ops : Array Oper} {rest : List Oper}
theorem hl_conv (l' : List HP) (h : Conv w0 l l') (k : HL P N ops w0 l' env rest Q) : HL P N ops w0 l env rest Q := fun a w st => k a w (st.to (h w st.mem))
theorem hc_conv (l' : List HP) {c : Code} (h : Conv w0 l l') (k : HC P N w0 l' env c Q) : HC P N w0 l env c Q := fun a w st => k a w (st.to (h w st.mem))
theorem hq_conv (l' : List HP) {e : Exit} (h : Conv w0 l l') (k : HQ N w0 l' env e Q) : HQ N w0 l env e Q := fun a w st => k a w (st.to (h w st.mem))
theorem calls_hcM {f : FuncId} {fn : Func} {c : Code} {args : List Value} {w : World} {R : Ending → World → Prop} (hf : P.funcs[f]? = some fn) (hb : fn.body = some c) (hN : (fn.ntmps == N && Nat.ble args.length N) = true)
    (hm : Mem w0 l w) (h : HC P N w0 l (args.zipIdx.map fun p => (p.2, p.1)) c (bodyPost P fn R)) : Calls P f args.toArray w R := by
  simp only [Bool.and_eq_true, beq_iff_eq, Nat.ble_eq] at hN
  refine calls_of_wp hf hb (h _ w ⟨hm, ?_, rfl, fun d v hd => ?_⟩)
  · simp; omega
  · have hm := lk_mem hd
    rw [List.mem_map] at hm
    obtain ⟨p, hp, he⟩ := hm
    have := List.mem_zipIdx_iff_getElem?.1 hp
    simp only [Prod.mk.injEq] at he
    obtain ⟨rfl, rfl⟩ := he
    have hlt : p.2 < args.length := (List.getElem?_eq_some_iff.1 this).1
    rw [Array.getElem?_append_left (by simpa using hlt)]
    simpa using this
theorem hq_retMut {fn : Func} {R : Value → HP → Prop} {t : Tmp} {v : Value} {p' : HP} {L : List HP} (hr : fn.results = #[.tmp t]) (hv : lk env t = some v) (hl : (p' :: L).Sublist l) (h : R v p') : HQ N w0 l env .ret (bodyPost P fn (fun e w' => ∃ v p', e = .returned v ∧ R v p' ∧ Mem w0 (p' :: L) w')) :=
  hq_ret (rs := [.tmp t]) (vs := [v]) hr ⟨hv, trivial⟩ rfl (fun w hm => ⟨v, p', rfl, h, hm.sub hl⟩)
end
end Go.Proofs.Yteccnnpcigkmhaa
