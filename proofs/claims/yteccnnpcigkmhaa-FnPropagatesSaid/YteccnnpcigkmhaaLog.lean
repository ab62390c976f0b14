/- A logic of states: what the slots hold, what blocks the call owns; rules for operations and code. -/
import Derived.Test.YteccnnpcigkmhaaBase
import Derived.OwnWalk
import Derived.Deep.LoopGhost
import Derived.Laws.Tables
set_option linter.unusedVariables false
set_option linter.unusedSimpArgs false
namespace Go.Proofs.Yteccnnpcigkmhaa
open Go.RowKit
/-- a part of memory: its blocks, and what holds there -/
structure HP where
  foot : Nat → Prop
  holds : World → Prop
def HP.Ok (p : HP) : Prop := ∀ w w' : World, w.heap.size ≤ w'.heap.size → (∀ b, p.foot b → w'.heap[b]? = w.heap[b]?) → p.holds w → p.holds w'
def HP.apart (p q : HP) : Prop := ∀ b, p.foot b → ¬ q.foot b
/-- old memory is as it was in w0; the parts of l hold, in new blocks, apart from one another -/
structure Mem (w0 : World) (l : List HP) (w : World) : Prop where
  bel : Below w0.heap.size w0 w
  holds : ∀ p ∈ l, p.holds w
  ok : ∀ p ∈ l, p.Ok
  new : ∀ p ∈ l, ∀ b, p.foot b → w0.heap.size ≤ b ∧ b < w.heap.size
  apart : l.Pairwise HP.apart
theorem Mem.refl (w : World) : Mem w [] w := ⟨Below.refl _ _, by simp, by simp, by simp, .nil⟩
/-- whatever keeps old blocks keeps a state -/
theorem Mem.step {w0 w w' : World} {l : List HP} (h : Mem w0 l w) (hb : Below w.heap.size w w') : Mem w0 l w' :=
  ⟨h.bel.trans (hb.mono h.bel.size), fun p hp => h.ok p hp w w' hb.size (fun b hf => hb.block b (h.new p hp b hf).2) (h.holds p hp), h.ok,
    fun p hp b hf => ⟨(h.new p hp b hf).1, Nat.lt_of_lt_of_le (h.new p hp b hf).2 hb.size⟩, h.apart⟩
theorem Mem.drew {w0 w : World} {l : List HP} (h : Mem w0 l w) : Mem w0 l w.drew := h.step (bel_drew (Below.refl _ _))
theorem Mem.drawn {w0 w : World} {l : List HP} (h : Mem w0 l w) (n : Nat) : Mem w0 l { w with drawn := n } := h.step ⟨rfl, rfl, rfl, Nat.le_refl _, fun _ _ => rfl⟩
/-- what a call has made comes on top -/
theorem Mem.app {w0 w w' : World} {l post : List HP} (h : Mem w0 l w) (hp : Mem w post w') : Mem w0 (post ++ l) w' := by
  have h1 := h.step hp.bel
  refine ⟨h1.bel, fun p hm => ?_, fun p hm => ?_, fun p hm b hf => ?_, ?_⟩
  · rcases List.mem_append.1 hm with hm | hm
    · exact hp.holds p hm
    · exact h1.holds p hm
  · rcases List.mem_append.1 hm with hm | hm
    · exact hp.ok p hm
    · exact h1.ok p hm
  · rcases List.mem_append.1 hm with hm | hm
    · exact ⟨Nat.le_trans h.bel.size (hp.new p hm b hf).1, (hp.new p hm b hf).2⟩
    · exact h1.new p hm b hf
  · rw [List.pairwise_append]
    refine ⟨hp.apart, h.apart, fun p hm q hq b hf hg => ?_⟩
    have := (hp.new p hm b hf).1
    have := (h.new q hq b hg).2
    omega
theorem Mem.sub {w0 w : World} {l l' : List HP} (h : Mem w0 l w) (hs : l'.Sublist l) : Mem w0 l' w :=
  ⟨h.bel, fun p hp => h.holds p (hs.subset hp), fun p hp => h.ok p (hs.subset hp), fun p hp => h.new p (hs.subset hp), h.apart.sublist hs⟩
theorem HP.apart_symm {p q : HP} (h : p.apart q) : q.apart p := fun b hq hp => h b hp hq
theorem Mem.perm {w0 w : World} {l l' : List HP} (h : Mem w0 l w) (hs : l.Perm l') : Mem w0 l' w :=
  ⟨h.bel, fun p hp => h.holds p (hs.mem_iff.2 hp), fun p hp => h.ok p (hs.mem_iff.2 hp), fun p hp => h.new p (hs.mem_iff.2 hp), (hs.pairwise_iff (fun h => HP.apart_symm h)).1 h.apart⟩
/-- the first part turns, in its own blocks or in new ones -/
theorem Mem.turn {w0 w w' : World} {p p' : HP} {l : List HP} (h : Mem w0 (p :: l) w) (hos : w'.os = w.os) (htape : w'.tape = w.tape) (hout : w'.output = w.output) (hs : w.heap.size ≤ w'.heap.size)
    (hk : ∀ b, b < w.heap.size → ¬ p.foot b → w'.heap[b]? = w.heap[b]?) (ho : p'.Ok) (hn : ∀ b, p'.foot b → p.foot b ∨ w.heap.size ≤ b) (hl : ∀ b, p'.foot b → b < w'.heap.size) (hp : p'.holds w') : Mem w0 (p' :: l) w' := by
  have hnew := h.new p (by simp)
  have hap := List.pairwise_cons.1 h.apart
  refine ⟨⟨hos.trans h.bel.os, htape.trans h.bel.tape, hout.trans h.bel.output, Nat.le_trans h.bel.size hs, fun k hkk => ?_⟩, fun q hq => ?_, fun q hq => ?_, fun q hq b hf => ?_, ?_⟩
  · rw [hk k (Nat.lt_of_lt_of_le hkk h.bel.size) (fun hf => by have := (hnew k hf).1; omega)]
    exact h.bel.block k hkk
  · rcases List.mem_cons.1 hq with rfl | hq
    · exact hp
    · exact h.ok q (List.mem_cons_of_mem _ hq) w w' hs (fun b hf => hk b (h.new q (List.mem_cons_of_mem _ hq) b hf).2 (fun hpf => hap.1 q hq b hpf hf)) (h.holds q (List.mem_cons_of_mem _ hq))
  · rcases List.mem_cons.1 hq with rfl | hq
    · exact ho
    · exact h.ok q (List.mem_cons_of_mem _ hq)
  · rcases List.mem_cons.1 hq with rfl | hq
    · refine ⟨?_, hl b hf⟩
      rcases hn b hf with h1 | h1
      · exact (hnew b h1).1
      · exact Nat.le_trans h.bel.size h1
    · have := h.new q (List.mem_cons_of_mem _ hq) b hf
      exact ⟨this.1, Nat.lt_of_lt_of_le this.2 hs⟩
  · refine List.pairwise_cons.2 ⟨fun q hq b hf hg => ?_, hap.2⟩
    rcases hn b hf with h1 | h1
    · exact hap.1 q hq b h1 hg
    · have := (h.new q (List.mem_cons_of_mem _ hq) b hg).2; omega
/-! ### slots -/
def lk : List (Nat × Value) → Nat → Option Value
  | [], _ => none
  | (d, v) :: r, k => bif Nat.beq d k then some v else lk r k
def ev (env : List (Nat × Value)) : Operand → Option Value
  | .tmp t => lk env t
  | .const v => some v
  | .global g => some (.pointer (some ⟨g, 0, none⟩))
  | .func f => some (.func (.func f) #[] #[])
def want (ops : Array Oper) (env : List (Nat × Value)) (g : Option (Nat × Bool)) : Option Bool :=
  match g with
  | none => some true
  | some (j, b) => match ((ops[j]?).bind (·.dst)).bind (lk env) with
    | some (.bool c) => some (c == b)
    | some (.tuple _) => some false
    | _ => none
structure St (N : Nat) (w0 : World) (l : List HP) (env : List (Nat × Value)) (a : Act) (w : World) : Prop where
  mem : Mem w0 l w
  size : a.tmps.size = N
  defers : a.defers = []
  env : ∀ d v, lk env d = some v → a.tmps[d]? = some v
theorem St.eval {N w0 l env a w} (h : St N w0 l env a w) {x : Operand} {v : Value} (hx : ev env x = some v) : a.eval x = v := by
  cases x with
  | tmp t => have := h.env t v hx; simp [Act.eval, this]
  | const v => simpa [ev, Act.eval] using hx
  | global g => simpa [ev, Act.eval] using hx
  | func f => simpa [ev, Act.eval] using hx
theorem St.wanted {N w0 l env a w} (h : St N w0 l env a w) {ops : Array Oper} {o : Oper} {c : Bool} (hw : want ops env o.guard = some c) : Region.wanted o (yielded ops a.tmps) = c := by
  unfold want at hw
  unfold Region.wanted
  split at hw
  · rename_i hg; rw [hg]; simpa using hw
  · rename_i j b hg
    rw [hg]
    simp only
    unfold yielded
    generalize (ops[j]?).bind (·.dst) = od at *
    cases od with
    | none => simp at hw
    | some d =>
      simp only [Option.bind_some] at hw ⊢
      split at hw
      · rename_i c' hl
        rw [h.env d _ hl]
        simp only [Option.some.injEq] at hw
        subst hw
        simp
      · rename_i t hl
        rw [h.env d _ hl]
        simp only [Option.some.injEq] at hw
        subst hw
        simp
      · cases hw
theorem St.put {N w0 l env a w} (h : St N w0 l env a w) {d : Nat} {v : Value} (hd : Nat.blt d N = true) {l' w'} (hm : Mem w0 l' w') : St N w0 l' ((d, v) :: env) (a.put (some d) v) w' := by
  have hd' : d < a.tmps.size := by rw [h.size]; rw [Nat.blt_eq] at hd; exact hd
  refine ⟨hm, ?_, h.defers, fun k u hk => ?_⟩
  · simp [Act.put, h.size]
  · unfold lk at hk
    simp only [Act.put]
    by_cases e : d = k
    · subst e
      simp at hk
      subst hk
      simp [hd']
    · have : Nat.beq d k = false := by rw [← Bool.not_eq_true, Nat.beq_eq]; exact e
      rw [this] at hk
      rw [Array.getElem?_setIfInBounds_ne e]
      exact h.env k u hk
theorem St.to {N w0 l env a w} (h : St N w0 l env a w) {l' w'} (hm : Mem w0 l' w') : St N w0 l' env a w' := ⟨hm, h.size, h.defers, h.env⟩
/-- fewer slots are told of -/
def sub (env' env : List (Nat × Value)) : Prop := ∀ p ∈ env', lk env p.1 = some p.2
theorem lk_mem {env : List (Nat × Value)} {d : Nat} {v : Value} (h : lk env d = some v) : (d, v) ∈ env := by
  induction env with
  | nil => cases h
  | cons p r ih =>
    obtain ⟨k, u⟩ := p
    unfold lk at h
    cases e : Nat.beq k d with
    | true => rw [e] at h; simp at h; subst h; rw [Nat.eq_of_beq_eq_true e]; exact List.mem_cons_self
    | false => rw [e] at h; exact List.mem_cons_of_mem _ (ih h)
theorem sub_nil (env : List (Nat × Value)) : sub [] env := fun p hp => by cases hp
theorem sub_cons {env' env : List (Nat × Value)} {d : Nat} {v : Value} (h : lk env d = some v) (hs : sub env' env) : sub ((d, v) :: env') env := fun p hp => by
  rcases List.mem_cons.1 hp with rfl | hp
  · exact h
  · exact hs p hp
theorem St.less {N w0 l env env' l' a w} (h : St N w0 l env a w) (hs : sub env' env) (hl : l'.Sublist l) : St N w0 l' env' a w :=
  ⟨h.mem.sub hl, h.size, h.defers, fun d v hd => h.env d v (hs _ (lk_mem hd))⟩
/-! ### states before operations and code -/
abbrev Post := Exit → Act → World → Prop
def HL (P : Program) (N : Nat) (ops : Array Oper) (w0 : World) (l : List HP) (env : List (Nat × Value)) (rest : List Oper) (Q : Post) : Prop := ∀ a w, St N w0 l env a w → wpList P ops Q rest a w
def HC (P : Program) (N : Nat) (w0 : World) (l : List HP) (env : List (Nat × Value)) (c : Code) (Q : Post) : Prop := ∀ a w, St N w0 l env a w → c.wp P Q a w
/-- an exit's state is enough for what comes behind it -/
def HQ (N : Nat) (w0 : World) (l : List HP) (env : List (Nat × Value)) (e : Exit) (Q : Post) : Prop := ∀ a w, St N w0 l env a w → Q e a w
section
variable {P : Program} {N : Nat} {w0 : World} {l l' : List HP} {env env' : List (Nat × Value)} {Q : Post} {ops : Array Oper} {rest : List Oper}
theorem hc_less (c : Code) (hs : sub env' env) (hl : l'.Sublist l) (h : HC P N w0 l' env' c Q) : HC P N w0 l env c Q := fun a w st => h a w (st.less hs hl)
theorem hl_less (hs : sub env' env) (hl : l'.Sublist l) (h : HL P N ops w0 l' env' rest Q) : HL P N ops w0 l env rest Q := fun a w st => h a w (st.less hs hl)
theorem hc_perm {c : Code} (hl : l.Perm l') (h : HC P N w0 l' env c Q) : HC P N w0 l env c Q := fun a w st => h a w (st.to (st.mem.perm hl))
theorem hl_perm (hl : l.Perm l') (h : HL P N ops w0 l' env rest Q) : HL P N ops w0 l env rest Q := fun a w st => h a w (st.to (st.mem.perm hl))
theorem hc_seq {x y : Code} (h : HC P N w0 l env x (Exit.then (y.wp P Q) Q)) : HC P N w0 l env (.seq x y) Q := fun a w st => wp_seq (h a w st)
theorem hc_skip (h : HQ N w0 l env .normal Q) : HC P N w0 l env .skip Q := fun a w st => wp_skip (h a w st)
theorem hq_then {y : Code} (h : HC P N w0 l env y Q) : HQ N w0 l env .normal (Exit.then (y.wp P Q) Q) := h
theorem hc_ret (h : HQ N w0 l env .ret Q) : HC P N w0 l env .ret Q := fun a w st => wp_ret (h a w st)
theorem hc_exit {i : Nat} (h : HQ N w0 l env (.exit i) Q) : HC P N w0 l env (.exit i) Q := fun a w st => wp_exit (h a w st)
theorem hq_then_ret {K : Act → World → Prop} (h : HQ N w0 l env .ret Q) : HQ N w0 l env .ret (Exit.then K Q) := h
theorem hq_block_ret {i : Nat} (h : HQ N w0 l env .ret Q) : HQ N w0 l env .ret (Exit.inBlock i Q) := h
theorem hq_then_exit {i : Nat} {K : Act → World → Prop} (h : HQ N w0 l env (.exit i) Q) : HQ N w0 l env (.exit i) (Exit.then K Q) := h
theorem hq_block_exit {i : Nat} (h : HQ N w0 l env .normal Q) : HQ N w0 l env (.exit i) (Exit.inBlock i Q) := fun a w st => by simp only [Exit.inBlock, if_true]; exact h a w st
theorem hq_block_past {i j : Nat} (hij : Nat.beq i j = false) (h : HQ N w0 l env (.exit i) Q) : HQ N w0 l env (.exit i) (Exit.inBlock j Q) := fun a w st => by
  have : ¬ i = j := fun e => by subst e; simp at hij
  simp only [Exit.inBlock, if_neg this]; exact h a w st
theorem hq_block_normal {i : Nat} (h : HQ N w0 l env .normal Q) : HQ N w0 l env .normal (Exit.inBlock i Q) := h
theorem hc_block {i : Nat} {c : Code} (h : HC P N w0 l env c (Exit.inBlock i Q)) : HC P N w0 l env (.block i c) Q := fun a w st => wp_block (h a w st)
theorem hc_true {c : Operand} {x y : Code} (hc : ev env c = some (.bool true)) (h : HC P N w0 l env x Q) : HC P N w0 l env (.cond c x y) Q := fun a w st => wp_cond_true (st.eval hc) (h a w st)
theorem hc_false {c : Operand} {x y : Code} (hc : ev env c = some (.bool false)) (h : HC P N w0 l env y Q) : HC P N w0 l env (.cond c x y) Q := fun a w st => wp_cond_false (st.eval hc) (h a w st)
theorem hc_cond {c : Operand} {x y : Code} {b : Bool} (hc : ev env c = some (.bool b)) (h1 : b = true → HC P N w0 l env x Q) (h2 : b = false → HC P N w0 l env y Q) : HC P N w0 l env (.cond c x y) Q :=
  fun a w st => wp_cond_split (st.eval hc) (fun e => h1 e a w st) (fun e => h2 e a w st)
theorem hc_region {i : Nat} {os : List Oper} (h : HL P N os.toArray w0 l env os Q) : HC P N w0 l env (.region i os.toArray false) Q := fun a w st => wp_region_lit (h a w st)
theorem hl_nil (h : HQ N w0 l env .normal Q) : HL P N ops w0 l env [] Q := fun a w st => wpList_nil (h a w st)
/-- a loop: x tells where it stands, m how many rounds are left at most -/
theorem hc_loop {α : Type} {c : Code} (L : α → List HP) (E : α → List (Nat × Value)) (G : α → Prop) (m : α → Nat) (x0 : α) (hG : G x0) (hs : sub (E x0) env) (hl : (L x0).Sublist l)
    (round : ∀ x, G x → HC P N w0 (L x) (E x) c (Exit.then (fun a' w' => ∃ y, G y ∧ m y < m x ∧ St N w0 (L y) (E y) a' w') Q)) : HC P N w0 l env (.loop c) Q := by
  intro a w st
  refine wp_loop_ghost (fun n a w => ∃ x, G x ∧ m x = n ∧ St N w0 (L x) (E x) a w) (m x0) ⟨x0, hG, rfl, st.less hs hl⟩ ?_
  rintro n a w ⟨x, hx, rfl, sx⟩
  refine wp_mono (round x hx a w sx) fun e a' w' h => ?_
  cases e with
  | normal => obtain ⟨y, hy, hlt, sy⟩ := h; exact ⟨m y, hlt, y, hy, rfl, sy⟩
  | exit id => exact h
  | goto l => exact h
  | ret => exact h
  | panic ch => exact h
  | outgrown => exact h
theorem hq_round {α : Type} {L : α → List HP} {E : α → List (Nat × Value)} {G : α → Prop} {m : α → Nat} {x : α} (y : α) (hG : G y) (hm : m y < m x) (hs : sub (E y) env) (hl : (L y).Sublist l) :
    HQ N w0 l env .normal (Exit.then (fun a' w' => ∃ y, G y ∧ m y < m x ∧ St N w0 (L y) (E y) a' w') Q) := fun a w st => ⟨y, hG, hm, st.less hs hl⟩
/-- a meeting point: behind x the state is one of those that G tells of -/
theorem hc_meet {α : Type} {x y : Code} (L : α → List HP) (E : α → List (Nat × Value)) (G : α → Prop) (h : HC P N w0 l env x (Exit.then (fun a' w' => ∃ z, G z ∧ St N w0 (L z) (E z) a' w') Q)) (k : ∀ z, G z → HC P N w0 (L z) (E z) y Q) : HC P N w0 l env (.seq x y) Q := by
  intro a w st
  refine wp_seq (wp_mono (h a w st) fun e a' w' h => ?_)
  cases e with
  | normal => obtain ⟨z, hz, sz⟩ := h; exact k z hz a' w' sz
  | exit id => exact h
  | goto l => exact h
  | ret => exact h
  | panic ch => exact h
  | outgrown => exact h
theorem hq_meet {α : Type} {L : α → List HP} {E : α → List (Nat × Value)} {G : α → Prop} (z : α) (hG : G z) (hs : sub (E z) env) (hl : (L z).Sublist l) :
    HQ N w0 l env .normal (Exit.then (fun a' w' => ∃ z, G z ∧ St N w0 (L z) (E z) a' w') Q) := fun a w st => ⟨z, hG, st.less hs hl⟩
/-! ### operations -/
theorem hl_value {o : Oper} {d : Nat} {v : Value} (hd : o.dst = some d) (hN : Nat.blt d N = true) (hw : want ops env o.guard = some true) (hrun : ∀ a w, St N w0 l env a w → (execOp a.eval o).run P w = .ok (.value v) w)
    (k : HL P N ops w0 l ((d, v) :: env) rest Q) : HL P N ops w0 l env (o :: rest) Q := fun a w st => wpList_step fun K hK => by
  rw [if_pos (st.wanted hw)]
  unfold Oper.wp
  rw [hrun a w st, Oper.upon_value, hd]
  exact hK _ _ (k _ _ (st.put hN st.mem))
theorem hl_skip {o : Oper} {d : Nat} (hd : o.dst = some d) (hN : Nat.blt d N = true) (hw : want ops env o.guard = some false) (k : HL P N ops w0 l ((d, undef) :: env) rest Q) : HL P N ops w0 l env (o :: rest) Q := fun a w st => wpList_step fun K hK => by
  rw [if_neg (by rw [st.wanted hw]; decide), hd]
  exact hK _ _ (k _ _ (st.put hN st.mem))
/-- an operation that makes memory or turns it -/
theorem hl_world {o : Oper} {d : Nat} {v : Value} (hd : o.dst = some d) (hN : Nat.blt d N = true) (hw : want ops env o.guard = some true)
    (hrun : ∀ a w, St N w0 l env a w → ∃ v w' l', (execOp a.eval o).run P w = .ok (.value v) w' ∧ Mem w0 l' w' ∧ HL P N ops w0 l' ((d, v) :: env) rest Q) : HL P N ops w0 l env (o :: rest) Q := fun a w st => wpList_step fun K hK => by
  rw [if_pos (st.wanted hw)]
  unfold Oper.wp
  obtain ⟨v, w', l', hr, hm, k⟩ := hrun a w st
  rw [hr, Oper.upon_value, hd]
  exact hK _ _ (k _ _ (st.put hN hm))
/-- an operation without a value: a store -/
theorem hl_store0 {o : Oper} (hd : o.dst = none) (hw : want ops env o.guard = some true)
    (hrun : ∀ a w, St N w0 l env a w → ∃ w', (execOp a.eval o).run P w = .ok .skip w' ∧ Mem w0 l' w') (k : HL P N ops w0 l' env rest Q) : HL P N ops w0 l env (o :: rest) Q := fun a w st => wpList_step fun K hK => by
  rw [if_pos (st.wanted hw)]
  unfold Oper.wp
  obtain ⟨w', hr, hm⟩ := hrun a w st
  rw [hr, Oper.upon_skip, hd]
  exact hK _ _ (k _ _ (st.to hm))
/-- a call of a function by its name -/
theorem hl_call {o : Oper} {d : Nat} {f : FuncId} {xs : Array Operand} {vs : Array Value} (hd : o.dst = some d) (hN : Nat.blt d N = true) (hw : want ops env o.guard = some true)
    (ho : ∀ a : Act, execOp a.eval o = callFunc f (#[] ++ xs.map a.eval ++ #[])) (hvs : ∀ a w, St N w0 l env a w → #[] ++ xs.map a.eval ++ #[] = vs)
    (hf : ∀ w, (callFunc f vs).run P w = .ok (.enter f vs) w)
    (hc : ∀ w, Mem w0 l w → Calls P f vs w fun e w' => ∃ v l', e = .returned v ∧ Mem w0 l' w' ∧ HL P N ops w0 l' ((d, v) :: env) rest Q) : HL P N ops w0 l env (o :: rest) Q := fun a w st => wpList_step fun K hK => by
  rw [if_pos (st.wanted hw)]
  unfold Oper.wp
  rw [ho, hvs a w st, hf, Oper.upon_enter]
  refine (hc w st.mem).mono fun e w' h => ?_
  obtain ⟨v, l', rfl, hm, k⟩ := h
  simp only [hd]
  exact hK _ _ (k _ _ (st.put hN hm))
end
end Go.Proofs.Yteccnnpcigkmhaa
