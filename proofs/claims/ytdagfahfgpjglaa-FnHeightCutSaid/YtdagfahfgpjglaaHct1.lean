/- Texts of the law FnHeightCut, part 1: what it uses. -/
import Derived.Test.YtdagfahfgpjglaaRows
import Derived.WalkKit
import Derived.WalkSpells
import Derived.WalkLawsBesides
import Derived.OpenShut
import Derived.Lib.Hide
import Derived.Below
import Derived.OwnWalk
import Derived.Deep.LoopGhost
import Derived.Laws.Tables
import Derived.Laws.Bits
import Derived.Great.BuildSlice
import Derived.Maps.AppendAt
import Derived.Orders
import Derived.Deep.QuietTactic
import Derived.BigQuiet
import Derived.Laws.CopyOwn
import Derived.Laws.Cover3
import Derived.Laws.StructEq
import Derived.Maps.Own
import Derived.Maps.Views
import Derived.DeepKeys4
import Derived.WideKeyEntry
import Derived.ArgAppend
import Derived.Deep.Slices
import Derived.Lib.SmallJoins
import Derived.ChangeArms
import Derived.ChangeKeysEq
import Derived.Laws.Pointers
set_option linter.unusedVariables false
set_option linter.unusedSimpArgs false
set_option maxHeartbeats 4000000
set_option maxRecDepth 100000
namespace Go.Proofs.Ytdagfahfgpjglaa
open Go.RowKit Go.ChangeShapes
open Go.RowKit
open Go.Maps
open Go.ChangeMaps (setBlock heap_setBlock_same heap_setBlock_other)
def inR (a b c : Int) : Bool := decide (b ≤ a) && decide (a ≤ c)
theorem inR_left {a b c : Int} (h1 : b ≤ a) : inR a b c = decide (a ≤ c) := by unfold inR; simp [h1]
theorem inR_false {a b c : Int} (h : a < b ∨ c < a) : inR a b c = false := by unfold inR; simp; omega
theorem zeb (a b c : Int) : inR a b c = true ↔ b ≤ a ∧ a ≤ c := by unfold inR; simp
theorem rt_bool {a b : Bool} (h : a = b) : Ending.returned (.bool a) = .returned (.bool b) := by rw [h]
theorem rt_int {k : IntKind} {a b : Int} (h : a = b) : Ending.returned (.int k a) = .returned (.int k b) := by rw [h]
theorem getD_mem {z : List Int} {j : Nat} (h : j < z.length) : z.getD j 0 ∈ z := by
  rw [List.getD_eq_getElem?_getD, List.getElem?_eq_getElem h]; exact List.getElem_mem h
theorem size_alloc' (w : World) (o : Obj) : (w.alloc o).heap.size = w.heap.size + 1 := by show (w.heap.push o).size = _; simp
theorem zgb {a b : World} (h : Below a.heap.size a b) (o : Obj) : Below a.heap.size a (b.alloc o) := h.alloc h.size o
theorem zdr (a b c : Int) (w : World) :
    Calls Try.prog 28 #[.int .i64 a, .int .i64 b, .int .i64 c] w fun e w' => e = .returned (.bool (inR a b c)) ∧ w = w' := by
  go_enter Try.func28, Try.ntmps28
  go_wp2
  all_goals go_ret
  · exact ⟨rt_bool (inR_left (by assumption)).symm, rfl⟩
  · exact ⟨rt_bool (inR_false (Or.inl (by assumption))).symm, rfl⟩
structure HP where
  foot : Nat → Prop
  holds : World → Prop
def HP.Ok (p : HP) : Prop := ∀ w w' : World, w.heap.size ≤ w'.heap.size → (∀ b, p.foot b → w'.heap[b]? = w.heap[b]?) → p.holds w → p.holds w'
def HP.apart (p q : HP) : Prop := ∀ b, p.foot b → ¬ q.foot b
structure Mem (w0 : World) (l : List HP) (w : World) : Prop where
  bel : Below w0.heap.size w0 w
  holds : ∀ p ∈ l, p.holds w
  ok : ∀ p ∈ l, p.Ok
  new : ∀ p ∈ l, ∀ b, p.foot b → w0.heap.size ≤ b ∧ b < w.heap.size
  apart : l.Pairwise HP.apart
theorem Mem.refl (w : World) : Mem w [] w := ⟨Below.refl _ _, by simp, by simp, by simp, .nil⟩
theorem Mem.step {w0 w w' : World} {l : List HP} (h : Mem w0 l w) (hb : Below w.heap.size w w') : Mem w0 l w' :=
  ⟨h.bel.trans (hb.mono h.bel.size), fun p hp => h.ok p hp w w' hb.size (fun b hf => hb.block b (h.new p hp b hf).2) (h.holds p hp), h.ok,
    fun p hp b hf => ⟨(h.new p hp b hf).1, Nat.lt_of_lt_of_le (h.new p hp b hf).2 hb.size⟩, h.apart⟩
theorem Mem.drawn {w0 w : World} {l : List HP} (h : Mem w0 l w) (n : Nat) : Mem w0 l { w with drawn := n } := h.step ⟨rfl, rfl, rfl, Nat.le_refl _, fun _ _ => rfl⟩
theorem Mem.app {w0 w w' : World} {l post : List HP} (h : Mem w0 l w) (hp : Mem w post w') : Mem w0 (post ++ l) w' := by
  have h1 := h.step hp.bel
  refine ⟨h1.bel, fun p hm => ?_, fun p hm => ?_, fun p hm b hf => ?_, ?_⟩
  · rcases List.mem_append.1 hm with hm | hm
    · exact hp.holds p hm
    · exact h1.holds p hm
  · rcases List.mem_append.1 hm with hm | hm
    · exact hp.ok p hm
    · exact h1.ok p hm
  · rcases List.mem_append.1 hm with hm | hm
    · exact ⟨Nat.le_trans h.bel.size (hp.new p hm b hf).1, (hp.new p hm b hf).2⟩
    · exact h1.new p hm b hf
  · rw [List.pairwise_append]
    refine ⟨hp.apart, h.apart, fun p hm q hq b hf hg => ?_⟩
    have := (hp.new p hm b hf).1
    have := (h.new q hq b hg).2
    omega
theorem Mem.sub {w0 w : World} {l l' : List HP} (h : Mem w0 l w) (hs : l'.Sublist l) : Mem w0 l' w :=
  ⟨h.bel, fun p hp => h.holds p (hs.subset hp), fun p hp => h.ok p (hs.subset hp), fun p hp => h.new p (hs.subset hp), h.apart.sublist hs⟩
theorem HP.apart_symm {p q : HP} (h : p.apart q) : q.apart p := fun b hq hp => h b hp hq
theorem Mem.perm {w0 w : World} {l l' : List HP} (h : Mem w0 l w) (hs : l.Perm l') : Mem w0 l' w :=
  ⟨h.bel, fun p hp => h.holds p (hs.mem_iff.2 hp), fun p hp => h.ok p (hs.mem_iff.2 hp), fun p hp => h.new p (hs.mem_iff.2 hp), (hs.pairwise_iff (fun h => HP.apart_symm h)).1 h.apart⟩
theorem Mem.turn {w0 w w' : World} {p p' : HP} {l : List HP} (h : Mem w0 (p :: l) w) (hos : w'.os = w.os) (htape : w'.tape = w.tape) (hout : w'.output = w.output) (hs : w.heap.size ≤ w'.heap.size)
    (hk : ∀ b, b < w.heap.size → ¬ p.foot b → w'.heap[b]? = w.heap[b]?) (ho : p'.Ok) (hn : ∀ b, p'.foot b → p.foot b ∨ w.heap.size ≤ b) (hl : ∀ b, p'.foot b → b < w'.heap.size) (hp : p'.holds w') : Mem w0 (p' :: l) w' := by
  have hnew := h.new p (by simp)
  have hap := List.pairwise_cons.1 h.apart
  refine ⟨⟨hos.trans h.bel.os, htape.trans h.bel.tape, hout.trans h.bel.output, Nat.le_trans h.bel.size hs, fun k hkk => ?_⟩, fun q hq => ?_, fun q hq => ?_, fun q hq b hf => ?_, ?_⟩
  · rw [hk k (Nat.lt_of_lt_of_le hkk h.bel.size) (fun hf => by have := (hnew k hf).1; omega)]
    exact h.bel.block k hkk
  · rcases List.mem_cons.1 hq with rfl | hq
    · exact hp
    · exact h.ok q (List.mem_cons_of_mem _ hq) w w' hs (fun b hf => hk b (h.new q (List.mem_cons_of_mem _ hq) b hf).2 (fun hpf => hap.1 q hq b hpf hf)) (h.holds q (List.mem_cons_of_mem _ hq))
  · rcases List.mem_cons.1 hq with rfl | hq
    · exact ho
    · exact h.ok q (List.mem_cons_of_mem _ hq)
  · rcases List.mem_cons.1 hq with rfl | hq
    · refine ⟨?_, hl b hf⟩
      rcases hn b hf with h1 | h1
      · exact (hnew b h1).1
      · exact Nat.le_trans h.bel.size h1
    · have := h.new q (List.mem_cons_of_mem _ hq) b hf
      exact ⟨this.1, Nat.lt_of_lt_of_le this.2 hs⟩
  · refine List.pairwise_cons.2 ⟨fun q hq b hf hg => ?_, hap.2⟩
    rcases hn b hf with h1 | h1
    · exact hap.1 q hq b h1 hg
    · have := (h.new q (List.mem_cons_of_mem _ hq) b hg).2; omega
def lk : List (Nat × Value) → Nat → Option Value
  | [], _ => none
  | (d, v) :: r, k => bif Nat.beq d k then some v else lk r k
def ev (env : List (Nat × Value)) : Operand → Option Value
  | .tmp t => lk env t
  | .const v => some v
  | .global g => some (.pointer (some ⟨g, 0, none⟩))
  | .func f => some (.func (.func f) #[] #[])
def want (ops : Array Oper) (env : List (Nat × Value)) (g : Option (Nat × Bool)) : Option Bool :=
  match g with
  | none => some true
  | some (j, b) => match ((ops[j]?).bind (·.dst)).bind (lk env) with
    | some (.bool c) => some (c == b)
    | some (.tuple _) => some false
    | _ => none
structure St (N : Nat) (w0 : World) (l : List HP) (env : List (Nat × Value)) (a : Act) (w : World) : Prop where
  mem : Mem w0 l w
  size : a.tmps.size = N
  defers : a.defers = []
  env : ∀ d v, lk env d = some v → a.tmps[d]? = some v
theorem St.eval {N w0 l env a w} (h : St N w0 l env a w) {x : Operand} {v : Value} (hx : ev env x = some v) : a.eval x = v := by
  cases x with
  | tmp t => have := h.env t v hx; simp [Act.eval, this]
  | const v => simpa [ev, Act.eval] using hx
  | global g => simpa [ev, Act.eval] using hx
  | func f => simpa [ev, Act.eval] using hx
theorem St.wanted {N w0 l env a w} (h : St N w0 l env a w) {ops : Array Oper} {o : Oper} {c : Bool} (hw : want ops env o.guard = some c) : Region.wanted o (yielded ops a.tmps) = c := by
  unfold want at hw
  unfold Region.wanted
  split at hw
  · rename_i hg; rw [hg]; simpa using hw
  · rename_i j b hg
    rw [hg]
    simp only
    unfold yielded
    generalize (ops[j]?).bind (·.dst) = od at *
    cases od with
    | none => simp at hw
    | some d =>
      simp only [Option.bind_some] at hw ⊢
      split at hw
      · rename_i c' hl
        rw [h.env d _ hl]
        simp only [Option.some.injEq] at hw
        subst hw
        simp
      · rename_i t hl
        rw [h.env d _ hl]
        simp only [Option.some.injEq] at hw
        subst hw
        simp
      · cases hw
theorem St.put {N w0 l env a w} (h : St N w0 l env a w) {d : Nat} {v : Value} (hd : Nat.blt d N = true) {l' w'} (hm : Mem w0 l' w') : St N w0 l' ((d, v) :: env) (a.put (some d) v) w' := by
  have hd' : d < a.tmps.size := by rw [h.size]; rw [Nat.blt_eq] at hd; exact hd
  refine ⟨hm, ?_, h.defers, fun k u hk => ?_⟩
  · simp [Act.put, h.size]
  · unfold lk at hk
    simp only [Act.put]
    by_cases e : d = k
    · subst e
      simp at hk
      subst hk
      simp [hd']
    · have : Nat.beq d k = false := by rw [← Bool.not_eq_true, Nat.beq_eq]; exact e
      rw [this] at hk
      rw [Array.getElem?_setIfInBounds_ne e]
      exact h.env k u hk
theorem St.to {N w0 l env a w} (h : St N w0 l env a w) {l' w'} (hm : Mem w0 l' w') : St N w0 l' env a w' := ⟨hm, h.size, h.defers, h.env⟩
def sub (env' env : List (Nat × Value)) : Prop := ∀ p ∈ env', lk env p.1 = some p.2
theorem lk_mem {env : List (Nat × Value)} {d : Nat} {v : Value} (h : lk env d = some v) : (d, v) ∈ env := by
  induction env with
  | nil => cases h
  | cons p r ih =>
    obtain ⟨k, u⟩ := p
    unfold lk at h
    cases e : Nat.beq k d with
    | true => rw [e] at h; simp at h; subst h; rw [Nat.eq_of_beq_eq_true e]; exact List.mem_cons_self
    | false => rw [e] at h; exact List.mem_cons_of_mem _ (ih h)
theorem zak (env : List (Nat × Value)) : sub [] env := fun p hp => by cases hp
theorem sub_cons {env' env : List (Nat × Value)} {d : Nat} {v : Value} (h : lk env d = some v) (hs : sub env' env) : sub ((d, v) :: env') env := fun p hp => by
  rcases List.mem_cons.1 hp with rfl | hp
  · exact h
  · exact hs p hp
theorem sx {env' env : List (Nat × Value)} (d : Nat) {v : Value} (h : lk env d = some v) (hs : sub env' env) : sub ((d, v) :: env') env := sub_cons h hs
theorem St.less {N w0 l env env' l' a w} (h : St N w0 l env a w) (hs : sub env' env) (hl : l'.Sublist l) : St N w0 l' env' a w :=
  ⟨h.mem.sub hl, h.size, h.defers, fun d v hd => h.env d v (hs _ (lk_mem hd))⟩
abbrev Post := Exit → Act → World → Prop
def HL (P : Program) (N : Nat) (ops : Array Oper) (w0 : World) (l : List HP) (env : List (Nat × Value)) (rest : List Oper) (Q : Post) : Prop := ∀ a w, St N w0 l env a w → wpList P ops Q rest a w
def HC (P : Program) (N : Nat) (w0 : World) (l : List HP) (env : List (Nat × Value)) (c : Code) (Q : Post) : Prop := ∀ a w, St N w0 l env a w → c.wp P Q a w
def HQ (N : Nat) (w0 : World) (l : List HP) (env : List (Nat × Value)) (e : Exit) (Q : Post) : Prop := ∀ a w, St N w0 l env a w → Q e a w
section
variable {P : Program} {N : Nat} {w0 : World} {l l' : List HP} {env env' : List (Nat × Value)} {Q : Post} {ops : Array Oper} {rest : List Oper}
theorem hc_less (c : Code) (hs : sub env' env) (hl : l'.Sublist l) (h : HC P N w0 l' env' c Q) : HC P N w0 l env c Q := fun a w st => h a w (st.less hs hl)
theorem hl_less (hs : sub env' env) (hl : l'.Sublist l) (h : HL P N ops w0 l' env' rest Q) : HL P N ops w0 l env rest Q := fun a w st => h a w (st.less hs hl)
theorem zaa {x y : Code} (h : HC P N w0 l env x (Exit.then (y.wp P Q) Q)) : HC P N w0 l env (.seq x y) Q := fun a w st => wp_seq (h a w st)
theorem zdg (h : HQ N w0 l env .normal Q) : HC P N w0 l env .skip Q := fun a w st => wp_skip (h a w st)
theorem zaj {y : Code} (h : HC P N w0 l env y Q) : HQ N w0 l env .normal (Exit.then (y.wp P Q) Q) := h
theorem zax (h : HQ N w0 l env .ret Q) : HC P N w0 l env .ret Q := fun a w st => wp_ret (h a w st)
theorem zbi {i : Nat} (h : HQ N w0 l env (.exit i) Q) : HC P N w0 l env (.exit i) Q := fun a w st => wp_exit (h a w st)
theorem zam {K : Act → World → Prop} (h : HQ N w0 l env .ret Q) : HQ N w0 l env .ret (Exit.then K Q) := h
theorem zat {i : Nat} (h : HQ N w0 l env .ret Q) : HQ N w0 l env .ret (Exit.inBlock i Q) := h
theorem zed {i : Nat} {K : Act → World → Prop} (h : HQ N w0 l env (.exit i) Q) : HQ N w0 l env (.exit i) (Exit.then K Q) := h
theorem zal {i : Nat} (h : HQ N w0 l env .normal Q) : HQ N w0 l env (.exit i) (Exit.inBlock i Q) := fun a w st => by simp only [Exit.inBlock, if_true]; exact h a w st
theorem zap {i : Nat} (h : HQ N w0 l env .normal Q) : HQ N w0 l env .normal (Exit.inBlock i Q) := h
theorem zba {i : Nat} {c : Code} (h : HC P N w0 l env c (Exit.inBlock i Q)) : HC P N w0 l env (.block i c) Q := fun a w st => wp_block (h a w st)
theorem zaq {c : Operand} {x y : Code} (hc : ev env c = some (.bool true)) (h : HC P N w0 l env x Q) : HC P N w0 l env (.cond c x y) Q := fun a w st => wp_cond_true (st.eval hc) (h a w st)
theorem zao {c : Operand} {x y : Code} (hc : ev env c = some (.bool false)) (h : HC P N w0 l env y Q) : HC P N w0 l env (.cond c x y) Q := fun a w st => wp_cond_false (st.eval hc) (h a w st)
theorem zgf {c : Operand} {x y : Code} {b : Bool} (hc : ev env c = some (.bool b)) (h1 : b = true → HC P N w0 l env x Q) (h2 : b = false → HC P N w0 l env y Q) : HC P N w0 l env (.cond c x y) Q :=
  fun a w st => wp_cond_split (st.eval hc) (fun e => h1 e a w st) (fun e => h2 e a w st)
theorem zai {i : Nat} {os : List Oper} (h : HL P N os.toArray w0 l env os Q) : HC P N w0 l env (.region i os.toArray false) Q := fun a w st => wp_region_lit (h a w st)
theorem zay (h : HQ N w0 l env .normal Q) : HL P N ops w0 l env [] Q := fun a w st => wpList_nil (h a w st)
theorem hc_loop {α : Type} {c : Code} (L : α → List HP) (E : α → List (Nat × Value)) (G : α → Prop) (m : α → Nat) (x0 : α) (hG : G x0) (hs : sub (E x0) env) (hl : (L x0).Sublist l)
    (round : ∀ x, G x → HC P N w0 (L x) (E x) c (Exit.then (fun a' w' => ∃ y, G y ∧ m y < m x ∧ St N w0 (L y) (E y) a' w') Q)) : HC P N w0 l env (.loop c) Q := by
  intro a w st
  refine wp_loop_ghost (fun n a w => ∃ x, G x ∧ m x = n ∧ St N w0 (L x) (E x) a w) (m x0) ⟨x0, hG, rfl, st.less hs hl⟩ ?_
  rintro n a w ⟨x, hx, rfl, sx⟩
  refine wp_mono (round x hx a w sx) fun e a' w' h => ?_
  cases e with
  | normal => obtain ⟨y, hy, hlt, sy⟩ := h; exact ⟨m y, hlt, y, hy, rfl, sy⟩
  | exit id => exact h
  | goto l => exact h
  | ret => exact h
  | panic ch => exact h
  | outgrown => exact h
theorem hl_value {o : Oper} {d : Nat} {v : Value} (hd : o.dst = some d) (hN : Nat.blt d N = true) (hw : want ops env o.guard = some true) (hrun : ∀ a w, St N w0 l env a w → (execOp a.eval o).run P w = .ok (.value v) w)
    (k : HL P N ops w0 l ((d, v) :: env) rest Q) : HL P N ops w0 l env (o :: rest) Q := fun a w st => wpList_step fun K hK => by
  rw [if_pos (st.wanted hw)]
  unfold Oper.wp
  rw [hrun a w st, Oper.upon_value, hd]
  exact hK _ _ (k _ _ (st.put hN st.mem))
theorem hl_skip {o : Oper} {d : Nat} (hd : o.dst = some d) (hN : Nat.blt d N = true) (hw : want ops env o.guard = some false) (k : HL P N ops w0 l ((d, undef) :: env) rest Q) : HL P N ops w0 l env (o :: rest) Q := fun a w st => wpList_step fun K hK => by
  rw [if_neg (by rw [st.wanted hw]; decide), hd]
  exact hK _ _ (k _ _ (st.put hN st.mem))
theorem hl_store0 {o : Oper} (hd : o.dst = none) (hw : want ops env o.guard = some true)
    (hrun : ∀ a w, St N w0 l env a w → ∃ w', (execOp a.eval o).run P w = .ok .skip w' ∧ Mem w0 l' w') (k : HL P N ops w0 l' env rest Q) : HL P N ops w0 l env (o :: rest) Q := fun a w st => wpList_step fun K hK => by
  rw [if_pos (st.wanted hw)]
  unfold Oper.wp
  obtain ⟨w', hr, hm⟩ := hrun a w st
  rw [hr, Oper.upon_skip, hd]
  exact hK _ _ (k _ _ (st.to hm))
theorem hl_call {o : Oper} {d : Nat} {f : FuncId} {xs : Array Operand} {vs : Array Value} (hd : o.dst = some d) (hN : Nat.blt d N = true) (hw : want ops env o.guard = some true)
    (ho : ∀ a : Act, execOp a.eval o = callFunc f (#[] ++ xs.map a.eval ++ #[])) (hvs : ∀ a w, St N w0 l env a w → #[] ++ xs.map a.eval ++ #[] = vs)
    (hf : ∀ w, (callFunc f vs).run P w = .ok (.enter f vs) w)
    (hc : ∀ w, Mem w0 l w → Calls P f vs w fun e w' => ∃ v l', e = .returned v ∧ Mem w0 l' w' ∧ HL P N ops w0 l' ((d, v) :: env) rest Q) : HL P N ops w0 l env (o :: rest) Q := fun a w st => wpList_step fun K hK => by
  rw [if_pos (st.wanted hw)]
  unfold Oper.wp
  rw [ho, hvs a w st, hf, Oper.upon_enter]
  refine (hc w st.mem).mono fun e w' h => ?_
  obtain ⟨v, l', rfl, hm, k⟩ := h
  simp only [hd]
  exact hK _ _ (k _ _ (st.put hN hm))
end
def boxE (b : Nat) (cs : Array Value) (t : TypeId) : HP := ⟨fun k => k = b, fun w => w.heap[b]? = some (.cells cs t (0, 0))⟩
def rowE (e size : Nat) (v : Value) (n : Nat) (xs : List Value) : HP := ⟨fun k => v.ownBlock = some k, fun w => w.ownsRow 0 e size v n xs⟩
theorem boxE_ok (b cs t) : (boxE b cs t).Ok := fun w w' _ hb h => by show w'.heap[b]? = _; rw [hb b rfl]; exact h
theorem rowE_ok (e size v n xs) : (rowE e size v n xs).Ok := fun w w' hs hb h => by
  refine ⟨h.1, ?_⟩
  rcases h.2 with hn | ⟨g, cap, cur, rfl, hB, hgg, rest⟩
  · exact .inl hn
  · exact .inr ⟨g, cap, cur, rfl, hB, by rw [hb g rfl]; exact hgg, rest⟩
theorem own_base {w : World} {B B' E size n : Nat} {v : Value} {xs : List Value} (h : w.ownsRow B E size v n xs) (hB : ∀ k, v.ownBlock = some k → B' ≤ k) : w.ownsRow B' E size v n xs := by
  refine ⟨h.1, ?_⟩
  rcases h.2 with hn | ⟨g, cap, cur, rfl, h1, rest⟩
  · exact .inl hn
  · exact .inr ⟨g, cap, cur, rfl, hB g rfl, rest⟩
theorem zdc {w : World} {b o : Nat} {cs : Array Value} {t : TypeId} {fr : Nat × Nat} (h : w.heap[b]? = some (.cells cs t fr)) : w.cell? ⟨b, o, none⟩ = cs[o]? := by simp [World.cell?, h]
theorem zfr {w : World} {b o : Nat} {cs : Array Value} {t : TypeId} (h : w.heap[b]? = some (.cells cs t (0, 0))) : w.frozen? ⟨b, o, none⟩ = false := by simp [World.frozen?, h]
theorem zbw {l : List HP} {i : Nat} {p : HP} (h : l[i]? = some p) : p ∈ l := List.mem_of_getElem? h
theorem zah {w0 : World} {l : List HP} {b : Nat} {cs : Array Value} {t : TypeId} (i : Nat) (h : l[i]? = some (boxE b cs t)) {o : Nat} {v : Value} (hc : cs[o]? = some v) : ∀ w, Mem w0 l w → w.cell? ⟨b, o, none⟩ = some v := fun w hm =>
  (zdc (hm.holds _ (zbw h))).trans hc
theorem Mem.alloc {w0 w : World} {l : List HP} (h : Mem w0 l w) (cs : Array Value) (t : TypeId) : Mem w0 (boxE w.heap.size cs t :: l) (w.alloc (.cells cs t)) := by
  have hb : Below w.heap.size w (w.alloc (.cells cs t)) := zgb (Below.refl _ _) _
  have : Mem w [boxE w.heap.size cs t] (w.alloc (.cells cs t)) := by
    refine ⟨hb, ?_, ?_, ?_, by simp⟩
    · intro p hp; rw [List.mem_singleton] at hp; subst hp; exact heap_alloc_new w _
    · intro p hp; rw [List.mem_singleton] at hp; subst hp; exact boxE_ok _ _ _
    · intro p hp b hf; rw [List.mem_singleton] at hp; subst hp; cases hf; rw [size_alloc']; omega
  exact h.app this
theorem Mem.newRow {w0 w w' : World} {l : List HP} {e size n : Nat} {v : Value} {xs : List Value} (h : Mem w0 l w) (ho : w'.ownsRow w.heap.size e size v n xs) (hb : Below w.heap.size w w') : Mem w0 (rowE e size v n xs :: l) w' := by
  have : Mem w [rowE e size v n xs] w' := by
    refine ⟨hb, ?_, ?_, ?_, by simp⟩
    · intro p hp; rw [List.mem_singleton] at hp; subst hp; exact own_base ho (fun _ _ => Nat.zero_le _)
    · intro p hp; rw [List.mem_singleton] at hp; subst hp; exact rowE_ok _ _ _ _ _
    · intro p hp b hf; rw [List.mem_singleton] at hp; subst hp; exact ho.lt b hf
  exact h.app this
theorem perm_set {l : List HP} {i : Nat} {p p' : HP} (hi : l[i]? = some p) : ∃ r, l.Perm (p :: r) ∧ (p' :: r).Perm (l.set i p') := by
  induction l generalizing i with
  | nil => simp at hi
  | cons q l ih =>
    cases i with
    | zero =>
      simp at hi
      subst hi
      exact ⟨l, .refl _, .refl _⟩
    | succ i =>
      obtain ⟨r, h1, h2⟩ := ih (i := i) (by simpa using hi)
      exact ⟨q :: r, (h1.cons q).trans (.swap _ _ _), (List.Perm.swap _ _ _).trans (h2.cons q)⟩
theorem Mem.turnAt {w0 w w' : World} {p p' : HP} {l : List HP} {i : Nat} (hi : l[i]? = some p) (h : Mem w0 l w) (hos : w'.os = w.os) (htape : w'.tape = w.tape) (hout : w'.output = w.output) (hs : w.heap.size ≤ w'.heap.size)
    (hk : ∀ b, b < w.heap.size → ¬ p.foot b → w'.heap[b]? = w.heap[b]?) (ho : p'.Ok) (hn : ∀ b, p'.foot b → p.foot b ∨ w.heap.size ≤ b) (hl : ∀ b, p'.foot b → b < w'.heap.size) (hp : p'.holds w') : Mem w0 (l.set i p') w' := by
  obtain ⟨r, h1, h2⟩ := perm_set (p' := p') hi
  exact ((h.perm h1).turn hos htape hout hs hk ho hn hl hp).perm h2
theorem Mem.setBox {w0 w : World} {l : List HP} {b : Nat} {cs : Array Value} {t : TypeId} {i : Nat} (hi : l[i]? = some (boxE b cs t)) (h : Mem w0 l w) (o : Nat) (v : Value) : Mem w0 (l.set i (boxE b (cs.setIfInBounds o v) t)) (w.setCell ⟨b, o, none⟩ v) := by
  have hb : w.heap[b]? = some (.cells cs t (0, 0)) := h.holds _ (zbw hi)
  refine h.turnAt hi rfl rfl rfl (by simp [World.setCell]) (fun k _ hf => Below.heap_setCell w _ v k (fun e => hf e)) (boxE_ok _ _ _) (fun k hk => .inl hk) (fun k hk => ?_) ?_
  · cases hk; simp only [World.setCell, Array.size_modify]; exact (h.new _ (zbw hi) b rfl).2
  · show (w.setCell ⟨b, o, none⟩ v).heap[b]? = _
    exact heap_setCell_same w b o cs t v hb
theorem Mem.setRow {w0 w : World} {l : List HP} {e size n g cap : Nat} {xs : List Value} {i : Nat} (hi : l[i]? = some (rowE e size (.slice (some ⟨g, 0, none⟩) n cap) n xs)) (h : Mem w0 l w) (j : Nat) (u : Value) : Mem w0 (l.set i (rowE e size (.slice (some ⟨g, 0, none⟩) n cap) n (xs.set j u))) (w.setCell ⟨g, j, none⟩ u) := by
  have hb : w.ownsRow 0 e size (.slice (some ⟨g, 0, none⟩) n cap) n xs := h.holds _ (zbw hi)
  have hst := hb.stored j u
  refine h.turnAt hi rfl rfl rfl (by simp [World.setCell]) (fun k _ hf => Below.heap_setCell w _ u k (fun e => hf (by subst e; rfl))) (rowE_ok _ _ _ _ _) (fun k hk => .inl hk) (fun k hk => ?_) hst.1
  have e : g = k := by simpa [rowE, Value.ownBlock] using hk
  subst e
  have := (h.new _ (zbw hi) g rfl).2
  simpa [World.setCell] using this
def RdsW (w : World) (v : Value) (s n : Nat) (cs : List Value) : Prop :=
  ∃ a cap, v = .slice a n cap ∧ cs.length = n * s ∧ (n ≤ 9223372036854775807 ∧ n ≤ cap) ∧ (0 < n → ∃ b off, a = some ⟨b, off, none⟩ ∧ ∀ j u, cs[j]? = some u → w.cell? ⟨b, off + j, none⟩ = some u)
def Rd (w0 : World) (l : List HP) (v : Value) (s n : Nat) (cs : List Value) : Prop := ∀ w, Mem w0 l w → RdsW w v s n cs
theorem zcz {w : World} {B e size n : Nat} {v : Value} {xs : List Value} (ho : w.ownsRow B e size v n xs) : RdsW w v size n xs := by
  have h1 := ho.1
  rcases ho.2 with ⟨rfl, rfl⟩ | ⟨g, cap, cur, rfl, hB, hgg, hn, hcap, hsz, htk⟩
  · exact ⟨_, _, rfl, h1, ⟨by omega, by omega⟩, fun h => absurd h (by omega)⟩
  · refine ⟨_, _, rfl, h1, ⟨by unfold maxLen at hcap; omega, hn⟩, fun _ => ⟨g, 0, rfl, fun j u hj => ?_⟩⟩
    have hlt : j < n * size := by rw [← h1]; exact (List.getElem?_eq_some_iff.1 hj).1
    rw [Nat.zero_add, World.ownsRow.cellAt ⟨h1, .inr ⟨g, cap, cur, rfl, hB, hgg, hn, hcap, hsz, htk⟩⟩ j hlt]; exact hj
theorem zad {w0 : World} {l : List HP} {e size n : Nat} {v : Value} {xs : List Value} (i : Nat) (hi : l[i]? = some (rowE e size v n xs)) : Rd w0 l v size n xs := fun w hm => zcz (hm.holds _ (zbw hi))
theorem RdsW.below {w w' : World} {v : Value} {s n : Nat} {cs : List Value} (h : RdsW w v s n cs) (hb : Below w.heap.size w w') : RdsW w' v s n cs := by
  obtain ⟨a, cap, rfl, h1, h2, h3⟩ := h
  refine ⟨a, cap, rfl, h1, h2, fun hp => ?_⟩
  obtain ⟨b, off, rfl, hc⟩ := h3 hp
  exact ⟨b, off, rfl, fun j u hj => (hb.cell (p := ⟨b, off + j, none⟩) (World.block_lt_of_cell? _ _ (hc j u hj))).trans (hc j u hj)⟩
theorem zac {w0 : World} {v : Value} {s n : Nat} {cs : List Value} (h : RdsW w0 v s n cs) {l : List HP} : Rd w0 l v s n cs := fun w hm => h.below hm.bel
def elP (v : Value) (o : Nat) : Value := match v with | .slice (some ⟨b, off, none⟩) _ _ => .pointer (some ⟨b, off + o, none⟩) | _ => undef
theorem zez {P : Program} {e s : Nat} (h : (P.info? e).map (·.size) = some s) (w : World) : (sizeOf e).run P w = .ok s w := by
  obtain ⟨i, hi, rfl⟩ := Option.map_eq_some_iff.1 h
  simp [sizeOf, typeInfo, hi]
def aggB (P : Program) (t : TypeId) : Option Bool := match P.underlying t with | some (.struct _) => some true | some (.array _ _) => some true | some _ => some false | none => none
theorem run_agg {P : Program} {t : TypeId} {c : Bool} (h : aggB P t = some c) (w : World) : (isAgg t).run P w = .ok c w := by
  unfold aggB at h
  unfold isAgg
  cases hu : P.underlying t with
  | none => rw [hu] at h; cases h
  | some d => rw [hu] at h; cases d <;> simp_all [run_underlying hu]
def fieldOff (P : Program) (t : TypeId) (f : Nat) : Option Nat := match P.underlying t with
  | some (.struct fs) => match fs[f]? with
    | some fd => match P.info? fd.type with | some i => bif Nat.beq i.size 0 then none else some fd.offset | none => none
    | none => none
  | _ => none
theorem zfk (b o k : Nat) : (⟨b, o, none⟩ : Addr).add k = ⟨b, o + k, none⟩ := by unfold Addr.add; split <;> simp_all
theorem run_field {P : Program} {t : TypeId} {f off : Nat} (h : fieldOff P t f = some off) (b o : Nat) (w : World) : (Instr.fieldAt t (.pointer (some ⟨b, o, none⟩)) f).run P w = .ok (.pointer (some ⟨b, o + off, none⟩)) w := by
  unfold fieldOff at h
  cases hu : P.underlying t with
  | none => rw [hu] at h; cases h
  | some d =>
    rw [hu] at h
    cases d <;> simp only at h <;> try (cases h; done)
    rename_i fs
    cases hf : fs[f]? with
    | none => rw [hf] at h; cases h
    | some fd =>
      rw [hf] at h
      simp only at h
      cases hi : P.info? fd.type with
      | none => rw [hi] at h; cases h
      | some i =>
        rw [hi] at h
        simp only at h
        cases hz : Nat.beq i.size 0 with
        | true => rw [hz] at h; cases h
        | false =>
          rw [hz] at h
          simp at h
          subst h
          have hne : ¬ i.size = 0 := fun e => by rw [e] at hz; cases hz
          have hs : (sizeOf fd.type).run P w = .ok i.size w := zez (by rw [hi]; rfl) w
          simp [Instr.fieldAt, run_underlying hu, hf, Instr.sureAddr, fieldPlace, hs, hne, zfk]
section
variable {P : Program} {N : Nat} {w0 : World} {l l' : List HP} {env env' : List (Nat × Value)} {Q : Post} {ops : Array Oper} {rest : List Oper} {o : Oper} {d : Nat}
def evOp (env : List (Nat × Value)) : Op → Option Value
  | .move x => ev env x
  | .assign x => ev env x
  | .pick c a b => match ev env c with | some (.bool true) => ev env a | some (.bool false) => ev env b | _ => none
  | .unOp .not _ x => match ev env x with | some (.bool b) => some (.bool !b) | _ => none
  | .extract t i => match ev env t with | some (.tuple vs) => vs[i]? | _ => none
  | _ => none
def RunV (P : Program) (N : Nat) (w0 : World) (l : List HP) (env : List (Nat × Value)) (o : Oper) (v : Value) : Prop := ∀ a w, St N w0 l env a w → (execOp a.eval o).run P w = .ok (.value v) w
theorem zeu {v : Value} (hd : o.dst = some d) (hN : Nat.blt d N = true) (hw : want ops env o.guard = some true) (h : RunV P N w0 l env o v) (k : HL P N ops w0 l ((d, v) :: env) rest Q) : HL P N ops w0 l env (o :: rest) Q := hl_value hd hN hw h k
theorem run_evOp {a w} (st : St N w0 l env a w) {v : Value} (h : evOp env o.op = some v) : (execOp a.eval o).run P w = .ok (.value v) w := by
  obtain ⟨dst, op, ty, pos, af, gd⟩ := o
  simp only at h
  cases op <;> simp only [evOp] at h <;> try (cases h; done)
  case move x => simp [execOp, st.eval h]
  case assign x => simp [execOp, st.eval h]
  case pick c x y =>
    split at h
    · rename_i hc; simp [execOp, st.eval hc, asBool, st.eval h]
    · rename_i hc; simp [execOp, st.eval hc, asBool, st.eval h]
    · cases h
  case unOp u t x =>
    cases u <;> simp only [evOp] at h <;> try (cases h; done)
    split at h
    · rename_i hc; cases h; simp [execOp, st.eval hc, Op.unary]
    · cases h
  case extract t i =>
    split at h
    · rename_i vs hc; simp [execOp, st.eval hc, Instr.extract, h]
    · cases h
theorem zae {v : Value} (h : evOp env o.op = some v) : RunV P N w0 l env o (v) := fun a w st => run_evOp st h
theorem run_arith {a w} (st : St N w0 l env a w) {op : BinOp} {t t' : TypeId} {x y : Operand} {m n r : Int} (ho : o.op = .binOp op t x y t') (hx : ev env x = some (.int .i64 m)) (hy : ev env y = some (.int .i64 n))
    (hop : (op = .add ∧ IntKind.i64.wrap (m + n) = r) ∨ (op = .sub ∧ IntKind.i64.wrap (m - n) = r) ∨ (op = .mul ∧ IntKind.i64.wrap (m * n) = r)) : (execOp a.eval o).run P w = .ok (.value (.int .i64 r)) w := by
  rcases hop with ⟨rfl, rfl⟩ | ⟨rfl, rfl⟩ | ⟨rfl, rfl⟩ <;> simp [execOp, ho, st.eval hx, st.eval hy, eqGuard, binOp, Op.intArith]
theorem zfl {t t' : TypeId} {x y : Operand} {m n : Int} (ho : o.op = .binOp .add t x y t') (hx : ev env x = some (.int .i64 m)) (hy : ev env y = some (.int .i64 n))
    (hr : -9223372036854775808 ≤ m + n ∧ m + n ≤ 9223372036854775807) : RunV P N w0 l env o (.int .i64 (m + n)) := fun a w st => run_arith st ho hx hy (.inl ⟨rfl, IntWalk.i64_in _ hr⟩)
theorem rv_sub {t t' : TypeId} {x y : Operand} {m n : Int} (ho : o.op = .binOp .sub t x y t') (hx : ev env x = some (.int .i64 m)) (hy : ev env y = some (.int .i64 n))
    (hr : -9223372036854775808 ≤ m - n ∧ m - n ≤ 9223372036854775807) : RunV P N w0 l env o (.int .i64 (m - n)) := fun a w st => run_arith st ho hx hy (.inr (.inl ⟨rfl, IntWalk.i64_in _ hr⟩))
theorem zer {t t' : TypeId} {x y : Operand} {m n : Int} (ho : o.op = .binOp .mul t x y t') (hx : ev env x = some (.int .i64 m)) (hy : ev env y = some (.int .i64 n))
    (hr : -9223372036854775808 ≤ m * n ∧ m * n ≤ 9223372036854775807) : RunV P N w0 l env o (.int .i64 (m * n)) := fun a w st => run_arith st ho hx hy (.inr (.inr ⟨rfl, IntWalk.i64_in _ hr⟩))
theorem zdy {t t' : TypeId} {x y : Operand} {m n : Int} (ho : o.op = .binOp .quo t x y t') (hx : ev env x = some (.int .i64 m)) (hy : ev env y = some (.int .i64 n))
    (hr : 0 ≤ m ∧ m ≤ 9223372036854775807 ∧ 1 ≤ n) : RunV P N w0 l env o (.int .i64 (m / n)) := fun a w st => by
    have hne : ¬ n = 0 := by omega
    have e := IntWalk.i64_quo m n hr
    simp [execOp, ho, st.eval hx, st.eval hy, eqGuard, binOp, Op.intDiv, hne, e]
theorem rv_rem {t t' : TypeId} {x y : Operand} {m n : Int} (ho : o.op = .binOp .rem t x y t') (hx : ev env x = some (.int .i64 m)) (hy : ev env y = some (.int .i64 n))
    (hr : 0 ≤ m ∧ n ≠ 0) : RunV P N w0 l env o (.int .i64 (m % n)) := fun a w st => by
    have hne : ¬ n = 0 := hr.2
    have e := IntWalk.rem_in m n hr.1
    simp [execOp, ho, st.eval hx, st.eval hy, eqGuard, binOp, Op.intDiv, hne, e]
def cmpOp : BinOp → Int → Int → Option Bool
  | .lss, m, n => some (decide (m < n))
  | .leq, m, n => some (decide (m ≤ n))
  | .gtr, m, n => some (decide (n < m))
  | .geq, m, n => some (decide (n ≤ m))
  | .eql, m, n => some (m == n)
  | .neq, m, n => some (m != n)
  | _, _, _ => none
theorem zbo {op : BinOp} {t t' : TypeId} {x y : Operand} {m n : Int} {c : Bool} {kk : IntKind} (ho : o.op = .binOp op t x y t') (hx : ev env x = some (.int kk m)) (hy : ev env y = some (.int kk n))
    (hc : cmpOp op m n = some c) : RunV P N w0 l env o (.bool c) := fun a w st => by
    cases op <;> simp only [cmpOp, Option.some.injEq] at hc <;> (first | (cases hc; done) | (subst hc; simp [execOp, ho, st.eval hx, st.eval hy, eqGuard, binOp, Op.intCmp, GT.gt, GE.ge]))
theorem zbc {c : Bool} (h1 : c = true → HL P N ops w0 l ((d, .bool true) :: env) rest Q) (h2 : c = false → HL P N ops w0 l ((d, .bool false) :: env) rest Q) : HL P N ops w0 l ((d, .bool c) :: env) rest Q := by
  cases c
  · exact h2 rfl
  · exact h1 rfl
theorem zbr {t t' : TypeId} {x y : Operand} {m n : Int} {kk : IntKind} (hd : o.dst = some d) (hN : Nat.blt d N = true) (hw : want ops env o.guard = some true) (ho : o.op = .binOp .lss t x y t') (hx : ev env x = some (.int kk m)) (hy : ev env y = some (.int kk n))
    (h1 : m < n → HL P N ops w0 l ((d, .bool true) :: env) rest Q) (h2 : n ≤ m → HL P N ops w0 l ((d, .bool false) :: env) rest Q) : HL P N ops w0 l env (o :: rest) Q :=
  zeu hd hN hw (zbo ho hx hy rfl) (zbc (fun h => h1 (of_decide_eq_true h)) (fun h => h2 (by have := of_decide_eq_false h; omega)))
theorem hl_leq {t t' : TypeId} {x y : Operand} {m n : Int} {kk : IntKind} (hd : o.dst = some d) (hN : Nat.blt d N = true) (hw : want ops env o.guard = some true) (ho : o.op = .binOp .leq t x y t') (hx : ev env x = some (.int kk m)) (hy : ev env y = some (.int kk n))
    (h1 : m ≤ n → HL P N ops w0 l ((d, .bool true) :: env) rest Q) (h2 : n < m → HL P N ops w0 l ((d, .bool false) :: env) rest Q) : HL P N ops w0 l env (o :: rest) Q :=
  zeu hd hN hw (zbo ho hx hy rfl) (zbc (fun h => h1 (of_decide_eq_true h)) (fun h => h2 (by have := of_decide_eq_false h; omega)))
theorem zes {t t' : TypeId} {x y : Operand} {m n : Int} {kk : IntKind} (hd : o.dst = some d) (hN : Nat.blt d N = true) (hw : want ops env o.guard = some true) (ho : o.op = .binOp .gtr t x y t') (hx : ev env x = some (.int kk m)) (hy : ev env y = some (.int kk n))
    (h1 : n < m → HL P N ops w0 l ((d, .bool true) :: env) rest Q) (h2 : m ≤ n → HL P N ops w0 l ((d, .bool false) :: env) rest Q) : HL P N ops w0 l env (o :: rest) Q :=
  zeu hd hN hw (zbo ho hx hy rfl) (zbc (fun h => h1 (of_decide_eq_true h)) (fun h => h2 (by have := of_decide_eq_false h; omega)))
theorem zeh {t t' : TypeId} {x y : Operand} {m n : Int} {kk : IntKind} (hd : o.dst = some d) (hN : Nat.blt d N = true) (hw : want ops env o.guard = some true) (ho : o.op = .binOp .geq t x y t') (hx : ev env x = some (.int kk m)) (hy : ev env y = some (.int kk n))
    (h1 : n ≤ m → HL P N ops w0 l ((d, .bool true) :: env) rest Q) (h2 : m < n → HL P N ops w0 l ((d, .bool false) :: env) rest Q) : HL P N ops w0 l env (o :: rest) Q :=
  zeu hd hN hw (zbo ho hx hy rfl) (zbc (fun h => h1 (of_decide_eq_true h)) (fun h => h2 (by have := of_decide_eq_false h; omega)))
theorem zcj {t t' : TypeId} {x y : Operand} {m n : Int} {kk : IntKind} (hd : o.dst = some d) (hN : Nat.blt d N = true) (hw : want ops env o.guard = some true) (ho : o.op = .binOp .eql t x y t') (hx : ev env x = some (.int kk m)) (hy : ev env y = some (.int kk n))
    (h1 : m = n → HL P N ops w0 l ((d, .bool true) :: env) rest Q) (h2 : m ≠ n → HL P N ops w0 l ((d, .bool false) :: env) rest Q) : HL P N ops w0 l env (o :: rest) Q :=
  zeu hd hN hw (zbo ho hx hy rfl) (zbc (fun h => h1 (beq_iff_eq.1 h)) (fun h => h2 (beq_eq_false_iff_ne.1 h)))
theorem hl_neq {t t' : TypeId} {x y : Operand} {m n : Int} {kk : IntKind} (hd : o.dst = some d) (hN : Nat.blt d N = true) (hw : want ops env o.guard = some true) (ho : o.op = .binOp .neq t x y t') (hx : ev env x = some (.int kk m)) (hy : ev env y = some (.int kk n))
    (h1 : m ≠ n → HL P N ops w0 l ((d, .bool true) :: env) rest Q) (h2 : m = n → HL P N ops w0 l ((d, .bool false) :: env) rest Q) : HL P N ops w0 l env (o :: rest) Q :=
  zeu hd hN hw (zbo ho hx hy rfl) (zbc (fun h => h1 (bne_iff_ne.1 h)) (fun h => h2 (by simpa using h)))
end
section
variable {P : Program} {N : Nat} {w0 : World} {l l' : List HP} {env env' : List (Nat × Value)} {Q : Post} {ops : Array Oper} {rest : List Oper} {o : Oper} {d : Nat}
def RunQ (P : Program) (N : Nat) (w0 : World) (l : List HP) (env : List (Nat × Value)) (o : Oper) (R : Value → List HP → Prop) : Prop :=
  ∀ a w, St N w0 l env a w → ∀ (Q : Post) (K : Act → World → Prop), (∀ v post w', R v post → Mem w post w' → K (a.put o.dst v) w') → o.wp P a w K Q
theorem zbz {v : Value} (h : RunV P N w0 l env o v) : RunQ P N w0 l env o (fun v' post => v' = v ∧ post = []) := fun a w st Q K hK => by
  unfold Oper.wp
  rw [h a w st, Oper.upon_value]
  exact hK _ _ _ ⟨rfl, rfl⟩ (Mem.refl w)
theorem zdd {R R' : Value → List HP → Prop} (h : RunQ P N w0 l env o R) (hr : ∀ v post, R v post → R' v post) : RunQ P N w0 l env o R' := fun a w st Q K hK => h a w st Q K fun v post w' hv hm => hK v post w' (hr _ _ hv) hm
theorem zby {R : Value → List HP → Prop} (hs : sub env' env) (hl : l'.Sublist l) (h : RunQ P N w0 l' env' o R) : RunQ P N w0 l env o R := fun a w st => h a w (st.less hs hl)
theorem hl_q {R : Value → List HP → Prop} (hd : o.dst = some d) (hN : Nat.blt d N = true) (hw : want ops env o.guard = some true) (h : RunQ P N w0 l env o R) (k : ∀ v post, R v post → HL P N ops w0 (post ++ l) ((d, v) :: env) rest Q) : HL P N ops w0 l env (o :: rest) Q := fun a w st => wpList_step fun K hK => by
  rw [if_pos (st.wanted hw)]
  refine h a w st Q K fun v post w' hv hm => ?_
  rw [hd]
  exact hK _ _ (k v post hv _ _ (st.put hN (st.mem.app hm)))
theorem rq_of {R : Value → List HP → Prop} (h : ∀ a w, St N w0 l env a w → ∃ v post w', (execOp a.eval o).run P w = .ok (.value v) w' ∧ R v post ∧ Mem w post w') : RunQ P N w0 l env o R := fun a w st Q K hK => by
  unfold Oper.wp
  obtain ⟨v, post, w', hr, hv, hm⟩ := h a w st
  rw [hr, Oper.upon_value]
  exact hK _ _ _ hv hm
theorem mem_box (w : World) (cs : Array Value) (t : TypeId) : Mem w [boxE w.heap.size cs t] (w.alloc (.cells cs t)) := (Mem.refl w).alloc cs t
theorem zef {t : TypeId} {x : Operand} {f b off k0 : Nat} (ho : o.op = .fieldAddr t x f) (hf : fieldOff P t f = some k0) (hx : ev env x = some (.pointer (some ⟨b, off, none⟩))) : RunV P N w0 l env o (.pointer (some ⟨b, off + k0, none⟩)) :=
  fun a w st => by simp [execOp, ho, st.eval hx, run_field hf]
theorem zbf {x : Operand} {ad : Addr} (ho : o.op = .nilCheck x) (hx : ev env x = some (.pointer (some ad))) : RunV P N w0 l env o (.pointer (some ad)) :=
  fun a w st => by simp [execOp, ho, st.eval hx]
theorem zen {t e s n : Nat} {cs : List Value} {v : Value} {x i : Operand} {m : Int} {kk : IntKind} (ho : o.op = .indexAddr t x i) (hu : P.underlying t = some (.slice e)) (hs : (P.info? e).map (·.size) = some s)
    (hx : ev env x = some v) (hi : ev env i = some (.int kk m)) (hr : Rd w0 l v s n cs) (h0 : 0 ≤ m) (h1 : m < n) : RunV P N w0 l env o (elP v (m.toNat * s)) := fun a w st => by
  obtain ⟨ad, cap, rfl, hl, hn, hc0⟩ := hr w st.mem
  obtain ⟨b, off, rfl, hc⟩ := hc0 (by omega)
  have he : P.underlying t = some (.slice (P.elem t)) := by simp [Program.elem, hu]
  have hs' : P.elem t = e := by simp [Program.elem, hu]
  simp [execOp, ho, st.eval hx, st.eval hi, run_indexAt_slice w t _ _ _ _ _ he, h0, h1, hs', zez hs, zfk, elP]
theorem zem {t : TypeId} {x : Operand} {f k0 s n o' : Nat} {v : Value} {cs : List Value} (ho : o.op = .fieldAddr t x f) (hf : fieldOff P t f = some k0) (hx : ev env x = some (elP v o')) (hr : Rd w0 l v s n cs) (hn : 0 < n) : RunV P N w0 l env o (elP v (o' + k0)) := fun a w st => by
  obtain ⟨ad, cap, rfl, hl, _, hc0⟩ := hr w st.mem
  obtain ⟨b, off, rfl, hc⟩ := hc0 hn
  simp [execOp, ho, st.eval hx, elP, run_field hf, Nat.add_assoc]
theorem zfa {b off : Nat} {w : World} : ∀ (n i : Nat) (cs : List Value) (acc : Array Value), cs.length = n → (∀ j u, cs[j]? = some u → w.cell? ⟨b, off + i + j, none⟩ = some u) → (loadCellsFrom ⟨b, off, none⟩ i n acc).run P w = .ok (acc ++ cs.toArray) w
  | 0, i, cs, acc, hl, h => by
    have : cs = [] := List.length_eq_zero_iff.1 hl
    subst this
    simp [loadCellsFrom]
  | n + 1, i, [], acc, hl, h => by simp at hl
  | n + 1, i, c :: cs, acc, hl, h => by
    have h0 := h 0 c rfl
    have h1 : (load (⟨b, off + i, none⟩ : Addr)).run P w = .ok c w := by simp [run_load, Nat.add_zero] at h0 ⊢; simp [h0]
    have ih := zfa (b := b) (off := off) (w := w) n (i + 1) cs (acc.push c) (by simpa using hl) (fun j u hj => by have := h (j + 1) u (by simpa using hj); rw [show off + (i + 1) + j = off + i + (j + 1) by omega]; exact this)
    simp only [loadCellsFrom, Sem.run_bind, zfk, h1, Result.andThen_ok, ih]
    simp
theorem zan {t b off : Nat} {x : Operand} {v : Value} (ho : o.op = .load t x) (ha : aggB P t = some false) (hx : ev env x = some (.pointer (some ⟨b, off, none⟩)))
    (hc : ∀ w, Mem w0 l w → w.cell? ⟨b, off, none⟩ = some v) : RunV P N w0 l env o v := fun a w st => by
  have h1 : (load (⟨b, off, none⟩ : Addr)).run P w = .ok v w := by simp [run_load, hc w st.mem]
  simp only [execOp, ho, st.eval hx, Instr.loadAt, Instr.sureAddr, loadVar, Sem.run_bind, Sem.run_pure, run_agg ha, Result.andThen_ok, Bool.false_eq_true, if_false, h1]
theorem zaf {t b off s : Nat} {x : Operand} {cs : List Value} (ho : o.op = .load t x) (ha : aggB P t = some true) (hs : (P.info? t).map (·.size) = some s) (hx : ev env x = some (.pointer (some ⟨b, off, none⟩)))
    (hl : cs.length = s) (hc : ∀ w, Mem w0 l w → ∀ j u, cs[j]? = some u → w.cell? ⟨b, off + j, none⟩ = some u) : RunV P N w0 l env o (.agg cs.toArray) := fun a w st => by
  have h1 := zfa (P := P) (b := b) (off := off) (w := w) s 0 cs #[] hl (fun j u hj => hc w st.mem j u hj)
  simp at h1
  simp [execOp, ho, st.eval hx, Instr.loadAt, Instr.sureAddr, loadVar, run_agg ha, zez hs, loadCells, h1]
theorem zav {t s n o' : Nat} {x : Operand} {v u : Value} {cs : List Value} (ho : o.op = .load t x) (ha : aggB P t = some false) (hx : ev env x = some (elP v o')) (hr : Rd w0 l v s n cs) (hc : cs[o']? = some u) : RunV P N w0 l env o u := fun a w st => by
  obtain ⟨ad, cap, rfl, hl, _, hc0⟩ := hr w st.mem
  have hlt : o' < cs.length := (List.getElem?_eq_some_iff.1 hc).1
  obtain ⟨b, off, rfl, hc1⟩ := hc0 (by rcases Nat.eq_zero_or_pos n with h | h; (subst h; omega); exact h)
  have h1 : (load (⟨b, off + o', none⟩ : Addr)).run P w = .ok u w := by simp [run_load, hc1 o' u hc]
  simp only [execOp, ho, st.eval hx, elP, Instr.loadAt, Instr.sureAddr, loadVar, Sem.run_bind, Sem.run_pure, run_agg ha, Result.andThen_ok, Bool.false_eq_true, if_false, h1]
theorem zdj {t s s' n o' : Nat} {x : Operand} {v : Value} {us cs : List Value} (ho : o.op = .load t x) (ha : aggB P t = some true) (hs : (P.info? t).map (·.size) = some s') (hx : ev env x = some (elP v o')) (hr : Rd w0 l v s n cs) (hn : 0 < n)
    (hl : us.length = s') (hc : ∀ j u, us[j]? = some u → cs[o' + j]? = some u) : RunV P N w0 l env o (.agg us.toArray) := fun a w st => by
  obtain ⟨ad, cap, rfl, hl', _, hc0⟩ := hr w st.mem
  obtain ⟨b, off, rfl, hc1⟩ := hc0 hn
  have h1 := zfa (P := P) (b := b) (off := off + o') (w := w) s' 0 us #[] hl (fun j u hj => by have := hc1 _ u (hc j u hj); rw [Nat.add_zero, Nat.add_assoc]; exact this)
  simp at h1
  simp [execOp, ho, st.eval hx, elP, Instr.loadAt, Instr.sureAddr, loadVar, run_agg ha, zez hs, loadCells, h1]
def IsBox (cs : Array Value) (t : TypeId) (v : Value) (post : List HP) : Prop := ∃ b, v = .pointer (some ⟨b, 0, none⟩) ∧ post = [boxE b cs t]
theorem zco {t : TypeId} {x : Operand} {v : Value} (ho : o.op = .box t x) (hx : ev env x = some v) : RunQ P N w0 l env o (IsBox v.cells t) := rq_of fun a w st =>
  ⟨.pointer (some ⟨w.heap.size, 0, none⟩), _, w.alloc (.cells v.cells t), by simp [execOp, ho, st.eval hx, Instr.box, newVar, newRow], ⟨_, rfl, rfl⟩, mem_box w _ _⟩
theorem zbq {t : TypeId} {z : Value} (ho : o.op = .alloc t) (hz : (P.info? t).bind (·.zero) = some z) : RunQ P N w0 l env o (IsBox z.cells t) := rq_of fun a w st => by
  obtain ⟨i, hi, hz⟩ := Option.bind_eq_some_iff.1 hz
  exact ⟨.pointer (some ⟨w.heap.size, 0, none⟩), _, w.alloc (.cells z.cells t), by simp [execOp, ho, Instr.alloc, zeroValue, typeInfo, hi, hz, newVar, newRow], ⟨_, rfl, rfl⟩, mem_box w _ _⟩
theorem evParts {a w} (st : St N w0 l env a w) : ∀ (ps : List (Nat × Operand)) (vs : List (Nat × Value)), ps.mapM (fun p => (ev env p.2).map fun v => (p.1, v)) = some vs → ps.map (fun p => (p.1, a.eval p.2)) = vs
  | [], vs, h => by simp at h; subst h; rfl
  | p :: ps, vs, h => by
    simp only [List.mapM_cons, Option.bind_eq_bind, Option.pure_def] at h
    cases hp : ev env p.2 with
    | none => rw [hp] at h; simp at h
    | some v =>
      cases hr : ps.mapM (fun p => (ev env p.2).map fun v => (p.1, v)) with
      | none => rw [hp, hr] at h; simp at h
      | some r =>
        rw [hp, hr] at h
        simp at h
        subst h
        simp [evParts st ps r hr, st.eval hp]
theorem zcp {t : TypeId} {ps : Array (Nat × Operand)} {vs : List (Nat × Value)} {cs : Array Value} (ho : o.op = .build t ps)
    (hp : ps.toList.mapM (fun p => (ev env p.2).map fun v => (p.1, v)) = some vs) (hb : P.built t vs = some cs) : RunV P N w0 l env o (.agg cs) := fun a w st => by
  have h1 := evParts st _ _ hp
  have h2 : (ps.map fun (p : Nat × Operand) => (p.1, a.eval p.2)).toList = vs := by simpa using h1
  simp [execOp, ho, run_build w t (ps.map fun (p : Nat × Operand) => (p.1, a.eval p.2)) cs (by rw [h2]; exact hb)]
theorem builtS_zero {t e n : Nat} {vs : Array (Nat × Value)} (hu : P.underlying t = some (.slice e)) (hs : (P.info? e).map (·.size) = some n) (w : World) : (Instr.buildSlice t 0 #[]).run P w = .ok (.slice (some ⟨w.heap.size, 0, none⟩) 0 0) (w.alloc (.cells #[] e)) := by
  simp [Instr.buildSlice, run_underlying hu, zez hs, Instr.fill, newRow]
  congr 2
  apply Array.eq_empty_of_size_eq_zero; simp
def IsRow (e s n : Nat) (cs : List Value) (v : Value) (post : List HP) : Prop := ∃ b, v = .slice (some ⟨b, 0, none⟩) n n ∧ post = [rowE e s v n cs]
theorem mem_row {w w' : World} {e s n : Nat} {v : Value} {cs : List Value} (h : w'.ownsRow w.heap.size e s v n cs) (hb : Below w.heap.size w w') : Mem w [rowE e s v n cs] w' := (Mem.refl w).newRow h hb
theorem zcl {t e s : Nat} (ho : o.op = .buildSlice t 0 #[]) (hu : P.underlying t = some (.slice e)) (hs : (P.info? e).map (·.size) = some s) : RunQ P N w0 l env o (IsRow e s 0 []) := rq_of fun a w st =>
  ⟨.slice (some ⟨w.heap.size, 0, none⟩) 0 0, _, w.alloc (.cells #[] e), by have := builtS_zero (P := P) (vs := #[]) hu hs w; simp [execOp, ho, this], ⟨_, rfl, rfl⟩,
    mem_row (World.ownsRow_made w #[] 0 (Nat.le_refl _) (by decide) (by simp)) (zgb (Below.refl _ _) _)⟩
theorem zaw {t e len s : Nat} {ps : Array (Nat × Operand)} {vs : List (Nat × Value)} {cs : List Value} {z : Value} (ho : o.op = .buildSlice t len ps) (hu : P.underlying t = some (.slice e))
    (hi : (P.info? e).map (fun i => (i.zero, i.size)) = some (some z, s)) (hpos : (0 < len * s ∧ len * s ≤ 1000000) ∧ len ≤ 1000000)
    (hp : ps.toList.mapM (fun p => (ev env p.2).map fun v => (p.1, v)) = some vs) (hb : (Instr.fill (fun i => some (i * s, s)) ((Array.range (len * s)).map (z.cells[· % z.cells.size]!)) vs).map (·.toList) = some cs) (hl : cs.length = len * s) : RunQ P N w0 l env o (IsRow e s len cs) := rq_of fun a w st => by
  obtain ⟨i, hi', he⟩ := Option.map_eq_some_iff.1 hi
  simp only [Prod.mk.injEq] at he
  obtain ⟨hz, rfl⟩ := he
  obtain ⟨ca, hca, rfl⟩ := Option.map_eq_some_iff.1 hb
  have h1 := evParts st _ _ hp
  have h2 : (ps.map fun (p : Nat × Operand) => (p.1, a.eval p.2)).toList = vs := by simpa using h1
  have := run_buildSlice (P := P) w t e len (ps.map fun (p : Nat × Operand) => (p.1, a.eval p.2)) ca i z hu hi' hz (by have := hpos.1.2; omega) (by have := hpos.1.1; omega) (by rw [h2]; exact hca)
  refine ⟨.slice (some ⟨w.heap.size, 0, none⟩) len len, _, w.alloc (.cells ca e), by simp [execOp, ho, this], ⟨_, rfl, rfl⟩, mem_row ?_ (zgb (Below.refl _ _) _)⟩
  refine ⟨hl, .inr ⟨w.heap.size, len, ca, rfl, Nat.le_refl _, heap_alloc_new w _, Nat.le_refl _, by unfold maxLen; omega, by simpa using hl, ?_⟩⟩
  rw [List.take_of_length_le (by rw [hl]; exact Nat.le_refl _)]
theorem zff {t e s bytes n : Nat} {x y : Operand} {z : Value} {cs : List Value} (ho : o.op = .makeSlice t x y) (hu : P.underlying t = some (.slice e))
    (hi : (P.info? e).map (fun i => (i.zero, i.size, i.bytes)) = some (some z, s, bytes)) (hb : bytes ≤ 1000) {m m' : Int} (hx : ev env x = some (.int .i64 m)) (hy : ev env y = some (.int .i64 m')) (hm : m = (n : Int)) (hm' : m' = (n : Int)) (hn : n ≤ 100000000000) (hcs : (madeCells z.cells (n * s)).toList = cs) : RunQ P N w0 l env o (IsRow e s n cs) := rq_of fun a w st => by
  obtain ⟨i, hi, hz, hs, hby⟩ := info_parts hi
  subst hm hm' hcs
  obtain ⟨w', hrun, r1, r2⟩ := run_make_full (P := P) w w.heap.size t e i z s hu hi hz hs .i64 .i64 n (by rw [hby]; have := Nat.mul_le_mul hb hn; omega) (by unfold maxLen; omega) (Nat.le_refl _)
  exact ⟨.slice (some ⟨w.heap.size, 0, none⟩) n n, _, w', by simp [execOp, ho, st.eval hx, st.eval hy, hrun], ⟨_, rfl, rfl⟩, mem_row r1 ((Below.refl _ _).grown r2 (Nat.le_refl _) (by simp))⟩
theorem hl_box {cs : Array Value} {t : TypeId} (hd : o.dst = some d) (hN : Nat.blt d N = true) (hw : want ops env o.guard = some true) (h : RunQ P N w0 l env o (IsBox cs t)) (k : ∀ b, HL P N ops w0 (boxE b cs t :: l) ((d, .pointer (some ⟨b, 0, none⟩)) :: env) rest Q) : HL P N ops w0 l env (o :: rest) Q :=
  hl_q hd hN hw h fun v post hv => by obtain ⟨b, rfl, rfl⟩ := hv; exact k b
theorem hl_row {e s n : Nat} {cs : List Value} (hd : o.dst = some d) (hN : Nat.blt d N = true) (hw : want ops env o.guard = some true) (h : RunQ P N w0 l env o (IsRow e s n cs)) (k : ∀ b, HL P N ops w0 (rowE e s (.slice (some ⟨b, 0, none⟩) n n) n cs :: l) ((d, .slice (some ⟨b, 0, none⟩) n n) :: env) rest Q) : HL P N ops w0 l env (o :: rest) Q :=
  hl_q hd hN hw h fun v post hv => by obtain ⟨b, rfl, rfl⟩ := hv; exact k b
theorem run_store1 {t b off : Nat} {v : Value} {w : World} (hs : (P.info? t).map (·.size) = some 1) (h1 : v.oneCell' = true) (hc : (w.cell? ⟨b, off, none⟩).isSome = true) (hf : w.frozen? ⟨b, off, none⟩ = false) :
    (Instr.storeAt t (.pointer (some ⟨b, off, none⟩)) v).run P w = .ok () (w.setCell ⟨b, off, none⟩ v) := by
  have hcs : v.cells = #[v] := by cases v <;> first | rfl | (cases h1; done)
  obtain ⟨u, hu⟩ := Option.isSome_iff_exists.1 hc
  have hst := run_store P w ⟨b, off, none⟩ v .plain h1
  rw [hu] at hst
  simp only [hf] at hst
  simp [Instr.storeAt, Instr.sureAddr, storeVar, hcs, zez hs, storeCells, zfk, hst]
theorem hl_storeBox {t b off i : Nat} {x y : Operand} {cs : Array Value} {tb : TypeId} {v : Value} (hd : o.dst = none) (hw : want ops env o.guard = some true) (ho : o.op = .store t x y) (hs : (P.info? t).map (·.size) = some 1)
    (hx : ev env x = some (.pointer (some ⟨b, off, none⟩))) (hy : ev env y = some v) (h1 : v.oneCell' = true) (hi : l[i]? = some (boxE b cs tb)) (hlt : Nat.blt off cs.size = true)
    (hl' : l.set i (boxE b (cs.setIfInBounds off v) tb) = l') (k : HL P N ops w0 l' env rest Q) : HL P N ops w0 l env (o :: rest) Q := by
  subst hl'
  exact hl_store0 hd hw (fun a w st => by
    have hb : w.heap[b]? = some (.cells cs tb (0, 0)) := st.mem.holds _ (zbw hi)
    rw [Nat.blt_eq] at hlt
    refine ⟨w.setCell ⟨b, off, none⟩ v, ?_, st.mem.setBox hi off v⟩
    have := run_store1 (P := P) (t := t) (v := v) (w := w) (b := b) (off := off) hs h1 (by rw [zdc hb]; simp [hlt]) (zfr hb)
    simp [execOp, ho, st.eval hx, st.eval hy, this]) k
theorem hl_storeEl {t i e size n j : Nat} {x y : Operand} {xs : List Value} {v u : Value} (hd : o.dst = none) (hw : want ops env o.guard = some true) (ho : o.op = .store t x y) (hs : (P.info? t).map (·.size) = some 1)
    (hx : ev env x = some (elP v j)) (hy : ev env y = some u) (h1 : u.oneCell' = true) (hi : l[i]? = some (rowE e size v n xs)) (hlt : j < n * size)
    {n' : Nat} {xs' : List Value} (hn' : n = n') (hx' : xs.set j u = xs') (hl' : l.set i (rowE e size v n' xs') = l') (k : HL P N ops w0 l' env rest Q) : HL P N ops w0 l env (o :: rest) Q := by
  subst hl' hn' hx'
  exact hl_store0 hd hw (fun a w st => by
    have hb : w.ownsRow 0 e size v n xs := st.mem.holds _ (zbw hi)
    obtain ⟨g, cap, rfl⟩ : ∃ g cap, v = .slice (some ⟨g, 0, none⟩) n cap := by
      rcases hb.2 with ⟨rfl, rfl⟩ | ⟨g, cap', cur, rfl, _⟩
      · omega
      · exact ⟨g, cap', rfl⟩
    refine ⟨w.setCell ⟨g, j, none⟩ u, ?_, st.mem.setRow hi j u⟩
    have := run_store1 (P := P) (t := t) (v := u) (w := w) (b := g) (off := j) hs h1 (by rw [hb.cellAt j hlt, List.getElem?_eq_getElem (by rw [hb.1]; exact hlt)]; rfl) (hb.frozenAt j)
    simp [execOp, ho, st.eval hx, elP, st.eval hy, this]) k
theorem zeg (xs : List Int) (m : Nat) (y : Int) : (xs.map (Value.int .i64)).set (m * 1) (.int .i64 y) = (xs.set m y).map (Value.int .i64) := by rw [Nat.mul_one, List.map_set]
theorem Mem.append {w0 w w' : World} {l : List HP} {e size n n' i : Nat} {v v' : Value} {xs ys : List Value} (hi : l[i]? = some (rowE e size v n xs)) (h : Mem w0 l w) (ho : w'.ownsRow 0 e size v' n' ys) (hg : w.grownBy w' v.ownBlock) (hv : v'.ownBlock = v.ownBlock ∨ v'.ownBlock = some w.heap.size) : Mem w0 (l.set i (rowE e size v' n' ys)) w' := by
  refine h.turnAt hi hg.os hg.tape hg.output hg.size (fun k hk hf => hg.block k hk (fun e => hf e.symm)) (rowE_ok _ _ _ _ _) (fun k hk => ?_) (fun k hk => (ho.lt k hk).2) ho
  have hk' : v'.ownBlock = some k := hk
  rcases hv with h1 | h1
  · exact .inl (show v.ownBlock = some k from h1 ▸ hk')
  · rw [h1] at hk'; cases hk'; exact .inr (Nat.le_refl _)
theorem hl_append {t e s bytes n m i : Nat} {x y : Operand} {v u z : Value} {xs news : List Value} (hd : o.dst = some d) (hN : Nat.blt d N = true) (hw : want ops env o.guard = some true) (ho : o.op = .call { callee := .builtin .append, args := #[x, y], argTypes := #[t, t] })
    (hu : P.underlying t = some (.slice e)) (hinf : (P.info? e).map (fun i => (i.zero, i.size, i.bytes)) = some (some z, s, bytes)) (hzs : (Nat.beq z.cells.size s && Nat.blt 0 s && Nat.ble bytes 1000) = true)
    (hx : ev env x = some v) (hy : ev env y = some u) (hi : l[i]? = some (rowE e s v n xs)) (hr : Rd w0 l u s m news) (h1 : ∀ q ∈ news, q.oneCell' = true) (hnm : n + m ≤ 100000000000)
    {n' : Nat} {xs' : List Value} (hn' : n + m = n') (hx' : xs ++ news = xs') {L : Value → List HP} (hL : ∀ v', l.set i (rowE e s v' n' xs') = L v')
    (k : ∀ v', HL P N ops w0 (L v') ((d, v') :: env) rest Q) : HL P N ops w0 l env (o :: rest) Q := fun a w st => wpList_step fun K hK => by
  rw [if_pos (st.wanted hw)]
  unfold Oper.wp
  obtain ⟨inf, hi', hz, hs, hby⟩ := info_parts hinf
  simp only [Bool.and_eq_true, Nat.beq_eq, Nat.blt_eq, Nat.ble_eq] at hzs
  obtain ⟨⟨hz1, hz2⟩, hz3⟩ := hzs
  obtain ⟨ad, cap, rfl, hl, hm, hc⟩ := hr w st.mem
  have hown : w.ownsRow 0 e s v n xs := st.mem.holds _ (zbw hi)
  have hrun : ∃ v' w', (Builtin.append_ #[t, t] o.type #[v, .slice ad m cap]).run P w = .ok v' w' ∧ w'.ownsRow 0 e s v' (n + m) (xs ++ news) ∧ w.grownBy w' v.ownBlock ∧ (v'.ownBlock = v.ownBlock ∨ v'.ownBlock = some w.heap.size) := by
    by_cases hm0 : m = 0
    · subst hm0
      have hn : news = [] := List.eq_nil_of_length_eq_zero (by simpa using hl)
      subst hn
      refine ⟨v, w, ?_, by simpa using hown, World.grownBy.refl _ _, .inl rfl⟩
      rcases hown.2 with ⟨rfl, rfl⟩ | ⟨g, cap', cur, rfl, _, hg, hnc, hcm, hcs, htake⟩
      · cases ad <;> simp [Builtin.append_, run_underlying hu, sizeOf, typeInfo, hi', Builtin.lenOf, Builtin.firstCells, loadCells, loadCellsFrom]
      · cases ad <;> simp [Builtin.append_, run_underlying hu, sizeOf, typeInfo, hi', Builtin.lenOf, Builtin.firstCells, loadCells, loadCellsFrom, hnc, storeCells]
    · obtain ⟨b, off, rfl, hc'⟩ := hc (by omega)
      have hb : (n + m) * bytes ≤ 140737488355328 := by have := Nat.mul_le_mul hnm hz3; omega
      obtain ⟨v', w', e1, e2, e3, _, e5⟩ := run_append_own_at (P := P) w 0 t o.type e inf z s bytes hu hi' hz hs hby hz1 hz2 v n xs hown ⟨b, off, none⟩ m cap news hl (fun j q hj => by rw [zfk]; exact hc' j q hj) h1 (by unfold maxLen; omega) hb (Nat.zero_le _)
      exact ⟨v', w', e1, e2, e3, e5⟩
  obtain ⟨v', w', e1, e2, e3, e4⟩ := hrun
  have hr : (execOp a.eval o).run P w = .ok (.value v') w' := by
    simp only [execOp, ho, resolve, invoke, builtin, Sem.run_bind, Sem.run_pure, Result.andThen_ok, List.map_toArray, List.map_cons, List.map_nil, st.eval hx, st.eval hy, e1]
  rw [hr, Oper.upon_value, hd]
  subst hn' hx'
  refine hK _ _ (k v' _ _ (st.put hN ?_))
  rw [← hL]
  exact Mem.append hi st.mem e2 e3 e4
theorem rv_len {t e s n : Nat} {v : Value} {cs : List Value} {x : Operand} (ho : o.op = .call { callee := .builtin .len, args := #[x], argTypes := #[t] }) (hu : P.underlying t = some (.slice e)) (hx : ev env x = some v) (hr : Rd w0 l v s n cs) : RunV P N w0 l env o (.int .i64 (n : Int)) := fun a w st => by
  obtain ⟨ad, cap, rfl, _⟩ := hr w st.mem
  have he : P.underlying t = some (.slice (P.elem t)) := by simp [Program.elem, hu]
  have := run_len_slice (P := P) w t o.type ad n cap he
  simp only [execOp, ho, resolve, invoke, builtin, Sem.run_bind, Sem.run_pure, Result.andThen_ok, List.map_toArray, List.map_cons, List.map_nil, st.eval hx, this, goInt]
def slV (v : Value) (lo hi s : Nat) : Value := match v with | .slice a _ cap => sliced a lo hi cap s | _ => undef
theorem rdW_sl {w : World} {v : Value} {s n : Nat} {cs : List Value} (h : RdsW w v s n cs) {lo hi : Nat} (h1 : lo ≤ hi) (h2 : hi ≤ n) : RdsW w (slV v lo hi s) s (hi - lo) ((cs.drop (lo * s)).take ((hi - lo) * s)) := by
  obtain ⟨a, cap, rfl, hl, ⟨hn, hcap⟩, hc0⟩ := h
  refine ⟨_, _, rfl, ?_, ⟨by omega, by omega⟩, fun hp => ?_⟩
  · rw [List.length_take, List.length_drop, hl, ← Nat.sub_mul]
    exact Nat.min_eq_left (Nat.mul_le_mul_right _ (by omega))
  · obtain ⟨b, off, rfl, hc⟩ := hc0 (by omega)
    refine ⟨b, off + lo * s, ?_, fun j u hj => ?_⟩
    · rw [if_neg (by omega)]; simp [zfk]
    · rw [List.getElem?_take] at hj
      split at hj
      · rw [List.getElem?_drop] at hj; rw [Nat.add_assoc]; exact hc _ u hj
      · cases hj
theorem rv_slL {t e s n : Nat} {v : Value} {cs : List Value} {x y : Operand} {k : Int} {kk : IntKind} (ho : o.op = .slice t x (some y) none none) (hu : P.underlying t = some (.slice e)) (hs : (P.info? e).map (·.size) = some s) (hx : ev env x = some v) (hy : ev env y = some (.int kk k)) (hr : Rd w0 l v s n cs) (h0 : 0 ≤ k) (h1 : k ≤ n) : RunV P N w0 l env o (slV v k.toNat n s) := fun a w st => by
  obtain ⟨ad, cap, rfl, hl, ⟨hn, hcap⟩, hc⟩ := hr w st.mem
  have he : P.underlying t = some (.slice (P.elem t)) := by simp [Program.elem, hu]
  have hs' : P.elem t = e := by simp [Program.elem, hu]
  have := run_slice_l (P := P) w t ad n cap he kk k h0 (by omega)
  simp [execOp, ho, st.eval hx, st.eval hy, run_sliceAt_slice w t _ _ _ _ he, this, hs', zez hs, slV]
def goesB (P : Program) (f : FuncId) : Bool := match P.funcs[f]? with | some fn => !(fn.name == "runtime.NumGoroutine") && fn.body.isSome | none => false
theorem run_go {f : FuncId} (h : goesB P f = true) (vs : Array Value) (w : World) : (callFunc f vs).run P w = .ok (.enter f vs) w := by
  unfold goesB at h
  unfold callFunc
  cases hf : P.funcs[f]? with
  | none => rw [hf] at h; cases h
  | some fn =>
    rw [hf] at h
    simp only [Bool.and_eq_true, Bool.not_eq_true', beq_eq_false_iff_ne] at h
    have h2 : fn.body.isNone = false := by cases hb : fn.body <;> simp_all
    simp only [Sem.run_bind, run_program, Result.andThen_ok, hf]
    rw [if_neg (by simpa using h.1), if_neg (by rw [h2]; decide)]
    rfl
def evs (env : List (Nat × Value)) (xs : List Operand) : Option (List Value) := xs.mapM (ev env)
theorem evs_map {a w} (st : St N w0 l env a w) : ∀ (xs : List Operand) (vs : List Value), evs env xs = some vs → xs.map a.eval = vs
  | [], vs, h => by simp [evs] at h; subst h; rfl
  | x :: xs, vs, h => by
    simp only [evs, List.mapM_cons, Option.bind_eq_bind, Option.pure_def] at h
    cases hx : ev env x with
    | none => rw [hx] at h; simp at h
    | some v =>
      cases hr : xs.mapM (ev env) with
      | none => rw [hx, hr] at h; simp at h
      | some r =>
        rw [hx, hr] at h
        simp at h
        subst h
        simp [evs_map st xs r hr, st.eval hx]
def Ret (w : World) (R : Value → List HP → Prop) (e : Ending) (w' : World) : Prop := ∃ v post, e = .returned v ∧ R v post ∧ Mem w post w'
def Ans (w : World) (v : Value) (e : Ending) (w' : World) : Prop := e = .returned v ∧ Below w.heap.size w w'
theorem zas {f : FuncId} {xs : Array Operand} {ats : Array TypeId} {vs : List Value} {R : Value → List HP → Prop} {ty : TypeId} {pos : String} {af : Array Edge} {gd : Option (Nat × Bool)} {ds : Option Nat}
    (hgo : goesB P f = true) (hvs : evs env xs.toList = some vs) (hc : ∀ w, Mem w0 l w → Calls P f vs.toArray w (Ret w R)) : RunQ P N w0 l env { dst := ds, op := .call { callee := .value (.func f), args := xs, argTypes := ats }, type := ty, pos := pos, after := af, guard := gd } R := fun a w st Q K hK => by
  unfold Oper.wp
  have h1 := evs_map st _ _ hvs
  have h2 : #[] ++ xs.map a.eval ++ #[] = vs.toArray := by
    rw [Array.empty_append, Array.append_empty]
    apply Array.toList_inj.1
    simpa using h1
  rw [execOp_call_go, h2, run_go hgo, Oper.upon_enter]
  refine (hc w st.mem).mono fun e w' h => ?_
  obtain ⟨v, post, rfl, hR, hpost⟩ := h
  exact hK _ _ _ hR hpost
theorem zaz {f : FuncId} {vs : Array Value} {v : Value} {w : World} (h : Calls P f vs w (Ans w v)) : Calls P f vs w (Ret w (fun v' post => v' = v ∧ post = [])) := h.mono fun e w' ⟨h1, h2⟩ => ⟨v, [], h1, ⟨rfl, rfl⟩, (Mem.refl w).step h2⟩
theorem hl_callV {v : Value} (hd : o.dst = some d) (hN : Nat.blt d N = true) (hw : want ops env o.guard = some true) (h : RunQ P N w0 l env o (fun v' post => v' = v ∧ post = [])) (k : HL P N ops w0 l ((d, v) :: env) rest Q) : HL P N ops w0 l env (o :: rest) Q :=
  hl_q hd hN hw h fun v' post hv => by obtain ⟨rfl, rfl⟩ := hv; exact k
theorem zbg {f : FuncId} {fn : Func} {c : Code} {args : List Value} {w : World} {R : Ending → World → Prop} (hf : P.funcs[f]? = some fn) (hb : fn.body = some c) (hN : (fn.ntmps == N && Nat.ble args.length N) = true)
    (h : HC P N w [] (args.zipIdx.map fun p => (p.2, p.1)) c (bodyPost P fn R)) : Calls P f args.toArray w R := by
  simp only [Bool.and_eq_true, beq_iff_eq, Nat.ble_eq] at hN
  refine calls_of_wp hf hb (h _ w ⟨Mem.refl w, ?_, rfl, fun d v hd => ?_⟩)
  · simp; omega
  · have hm := lk_mem hd
    rw [List.mem_map] at hm
    obtain ⟨p, hp, he⟩ := hm
    have := List.mem_zipIdx_iff_getElem?.1 hp
    simp only [Prod.mk.injEq] at he
    obtain ⟨rfl, rfl⟩ := he
    have hlt : p.2 < args.length := (List.getElem?_eq_some_iff.1 this).1
    rw [Array.getElem?_append_left (by simpa using hlt)]
    simpa using this
def ResIs (P : Program) (w0 : World) (l : List HP) (env : List (Nat × Value)) (r : ResultVar) (v : Value) : Prop := match r with
  | .tmp t => lk env t = some v
  | .cell a t => ∃ b off cs, lk env a = some (.pointer (some ⟨b, off, none⟩)) ∧ v = .agg (List.toArray cs) ∧ aggB P t = some true ∧ (P.info? t).map (·.size) = some cs.length ∧ ∀ w, Mem w0 l w → ∀ j u, cs[j]? = some u → w.cell? ⟨b, off + j, none⟩ = some u
def resRun (tm : Array Value) : ResultVar → Sem Value
  | .tmp t => pure (tm.getD t undef)
  | .cell c t => do loadVar t (← asAddr (tm.getD c undef))
theorem results_eq (fn : Func) (tm : Array Value) : results fn tm = (do let vs ← fn.results.mapM (resRun tm); pure (if h : vs.size = 1 then vs[0] else .tuple vs)) := by
  unfold results
  congr 1
theorem ResIs.run {a w} (st : St N w0 l env a w) {r : ResultVar} {v : Value} (h : ResIs P w0 l env r v) : (resRun a.tmps r).run P w = .ok v w := by
  cases r with
  | tmp t =>
    have := st.env t v h
    simp [resRun, this]
  | cell c t =>
    obtain ⟨b, off, cs, hl, rfl, ha, hs, hc⟩ := h
    have := st.env c _ hl
    have h1 := zfa (P := P) (b := b) (off := off) (w := w) cs.length 0 cs #[] rfl (fun j u hj => hc w st.mem j u hj)
    simp at h1
    simp [resRun, this, asAddr, loadVar, run_agg ha, zez hs, loadCells, h1]
def AllIs (P : Program) (w0 : World) (l : List HP) (env : List (Nat × Value)) : List ResultVar → List Value → Prop
  | [], [] => True
  | r :: rs, v :: vs => ResIs P w0 l env r v ∧ AllIs P w0 l env rs vs
  | _, _ => False
theorem ResIs.all {a w} (st : St N w0 l env a w) : ∀ (rs : List ResultVar) (vs : List Value), AllIs P w0 l env rs vs → (rs.mapM (resRun a.tmps)).run P w = .ok vs w
  | [], [], h => by simp
  | [], _ :: _, h => h.elim
  | r :: rs, [], h => h.elim
  | r :: rs, v :: vs, h => by
    simp only [List.mapM_cons, Sem.run_bind]
    rw [ResIs.run st h.1]
    simp only [Result.andThen_ok, ResIs.all st rs vs h.2, Sem.run_pure]
def tupled (vs : List Value) : Value := match vs with | [v] => v | vs => .tuple vs.toArray
theorem zex {fn : Func} {R : Ending → World → Prop} {rs : List ResultVar} {vs : List Value} {v : Value} (hr : fn.results = rs.toArray) (hv : AllIs P w0 l env rs vs) (ht : tupled vs = v) (h : ∀ w, Mem w0 l w → R (.returned v) w) : HQ N w0 l env .ret (bodyPost P fn R) := fun a w st => by
  refine ⟨st.defers, v, ?_, h w st.mem⟩
  have h1 := ResIs.all (P := P) st rs vs hv
  rw [results_eq, hr]
  simp only [List.mapM_toArray, Sem.run_bind, Sem.run_map]
  rw [h1]
  simp only [Result.andThen_ok, Sem.run_pure]
  subst ht
  cases vs with
  | nil => rfl
  | cons v vs => cases vs <;> rfl
theorem zdo (h : l = l') (k : HL P N ops w0 l' env rest Q) : HL P N ops w0 l env rest Q := h ▸ k
theorem zag {b : Nat} {cs : Array Value} {t : TypeId} {us : List Value} (i : Nat) (h : l[i]? = some (boxE b cs t)) (k : Nat) (hu : (cs.toList.drop k).take us.length = us) : ∀ w, Mem w0 l w → ∀ j u, us[j]? = some u → w.cell? ⟨b, k + j, none⟩ = some u := fun w hm j u hj => by
  rw [zdc (hm.holds _ (zbw h))]
  rw [← hu, List.getElem?_take] at hj
  split at hj
  · simpa using hj
  · cases hj
theorem ans_of {f : FuncId} {vs : Array Value} {v : Value} {w : World} (h : Calls P f vs w fun e w' => e = .returned v ∧ w = w') : Calls P f vs w (Ans w v) := h.mono fun _ _ ⟨h1, h2⟩ => ⟨h1, h2 ▸ Below.refl _ _⟩
theorem zcc {α : Type} (a b : List α) : a.length + b.length = (a ++ b).length := List.length_append.symm
theorem zcv (a b : List Int) : a.map (Value.int .i64) ++ b.map (Value.int .i64) = (a ++ b).map (Value.int .i64) := List.map_append.symm
theorem zca (xs : List Int) : ∀ q ∈ xs.map (Value.int .i64), q.oneCell' = true := by
  intro q hq; rw [List.mem_map] at hq; obtain ⟨x, -, rfl⟩ := hq; rfl
theorem zcr {xs : List Int} {m : Int} (h : m.toNat < xs.length) : (xs.map (Value.int .i64))[m.toNat * 1]? = some (.int .i64 (xs.getD m.toNat 0)) := by
  simp [h]
theorem zce {fn : Func} {t : Tmp} {v u : Value} (hr : fn.results = #[.tmp t]) (hv : lk env t = some v) (hu : v = u) : HQ N w0 l env .ret (bodyPost P fn (Ans w0 u)) :=
  zex (rs := [.tmp t]) (vs := [v]) hr ⟨hv, trivial⟩ rfl (fun w hm => ⟨by rw [hu]; rfl, hm.bel⟩)
theorem zct {fn : Func} {R : Value → List HP → Prop} {t : Tmp} {v : Value} {post : List HP} (hr : fn.results = #[.tmp t]) (hv : lk env t = some v) (hl : post.Sublist l) (h : R v post) : HQ N w0 l env .ret (bodyPost P fn (Ret w0 R)) :=
  zex (rs := [.tmp t]) (vs := [v]) hr ⟨hv, trivial⟩ rfl (fun w hm => ⟨v, post, rfl, h, hm.sub hl⟩)
theorem hq_normal {fn : Func} {R : Ending → World → Prop} (h : HQ N w0 l env .ret (bodyPost P fn R)) : HQ N w0 l env .normal (bodyPost P fn R) := h
end
def depsOf (os : List Oper) (i : Nat) : List Nat := match os[i]? with | some o => (o.after.toList.filter (fun e => Region.binds .any e)).map (·.on) | none => []
def msk : List (List Nat) → List Nat → List Nat
  | [], acc => acc
  | ds :: r, acc => msk r (acc ++ [ds.foldl (fun s d => s ||| 2 ^ d ||| acc.getD d 0) 0])
inductive Dep (os : List Oper) : Nat → Nat → Prop
  | one {i j : Nat} : j ∈ depsOf os i → Dep os i j
  | more {i k j : Nat} : k ∈ depsOf os i → Dep os k j → Dep os i j
theorem fold_mask (acc : List Nat) (j : Nat) : ∀ (ds : List Nat) (s : Nat), (ds.foldl (fun s d => s ||| 2 ^ d ||| acc.getD d 0) s).testBit j = true → s.testBit j = true ∨ ∃ d ∈ ds, d = j ∨ (acc.getD d 0).testBit j = true
  | [], s, h => .inl h
  | d :: ds, s, h => by
    rcases fold_mask acc j ds _ h with h1 | ⟨e, he, h1⟩
    · rw [Nat.testBit_or, Nat.testBit_or, Bool.or_eq_true, Bool.or_eq_true, Nat.testBit_two_pow] at h1
      rcases h1 with (h1 | h1) | h1
      · exact .inl h1
      · exact .inr ⟨d, by simp, .inl (by simpa using h1)⟩
      · exact .inr ⟨d, by simp, .inr h1⟩
    · exact .inr ⟨e, by simp [he], h1⟩
theorem msk_dep (os : List Oper) : ∀ (r : List (List Nat)) (acc : List Nat), (∀ t ds, r[t]? = some ds → ∀ d ∈ ds, d ∈ depsOf os (acc.length + t)) → (∀ i j, (acc.getD i 0).testBit j = true → Dep os i j) → ∀ i j, ((msk r acc).getD i 0).testBit j = true → Dep os i j
  | [], acc, _, h, i, j, hb => h i j hb
  | ds :: r, acc, hr, h, i, j, hb => by
    refine msk_dep os r _ (fun t es ht d hd => ?_) (fun i j hb => ?_) i j hb
    · have := hr (t + 1) es (by simpa using ht) d hd
      rw [List.length_append]
      rw [show acc.length + [ds.foldl (fun s d => s ||| 2 ^ d ||| acc.getD d 0) 0].length + t = acc.length + (t + 1) by simp; omega]
      exact this
    · by_cases hi : i < acc.length
      · refine h i j ?_
        rw [List.getD_eq_getElem?_getD, List.getElem?_append_left hi, ← List.getD_eq_getElem?_getD] at hb
        exact hb
      · by_cases hi2 : i = acc.length
        · subst hi2
          rw [List.getD_eq_getElem?_getD, List.getElem?_append_right (Nat.le_refl _), Nat.sub_self] at hb
          simp only [List.getElem?_cons_zero, Option.getD_some] at hb
          rcases fold_mask acc j ds 0 hb with h1 | ⟨d, hd, h1⟩
          · simp at h1
          · have h2 := hr 0 ds rfl d hd
            rw [Nat.add_zero] at h2
            rcases h1 with rfl | h1
            · exact .one h2
            · exact .more h2 (h d j h1)
        · rw [List.getD_eq_getElem?_getD, List.getElem?_append_right (by omega), List.getElem?_eq_none (by simp; omega)] at hb
          simp at hb
def drawOk (os : List Oper) (m : Nat) (dps : List (List Nat)) (dsts : List Nat) : Bool :=
  Nat.ble m os.length &&
  (List.range os.length).all (fun i => (depsOf os i).all (fun j => Nat.blt j i)) &&
  (List.range os.length).all (fun k => Nat.blt k m || (List.range m).all (fun j => ((msk ((List.range os.length).map (depsOf os)) []).getD k 0).testBit j)) &&
  (List.range (os.length - m)).all (fun t => Region.ready .any os.toArray (List.replicate (m + t) true ++ List.replicate (os.length - (m + t)) false).toArray == [m + t]) &&
  (os.take m).map (·.dst) == dsts.map some && decide (dsts.Nodup) &&
  (List.range m).all (fun i => (dps.getD i []).all (fun j => ((msk ((List.range os.length).map (depsOf os)) []).getD i 0).testBit j) && decide ((dps.getD i []).Nodup))
def drawOkG (os : List Oper) (m : Nat) (dps : List (List Nat)) (dsts : List Nat) : Bool :=
  Nat.ble m os.length &&
  (List.range os.length).all (fun i => (depsOf os i).all (fun j => Nat.blt j i)) &&
  (List.range os.length).all (fun k => Nat.blt k m || (List.range m).all (fun j => ((msk ((List.range os.length).map (depsOf os)) []).getD k 0).testBit j)) &&
  (os.take m).map (·.dst) == dsts.map some && decide (dsts.Nodup) &&
  (List.range m).all (fun i => (dps.getD i []).all (fun j => ((msk ((List.range os.length).map (depsOf os)) []).getD i 0).testBit j) && decide ((dps.getD i []).Nodup))
def Obl (P : Program) (ops : Array Oper) (N : Nat) (w0 : World) (l : List HP) (env : List (Nat × Value)) (o : Oper) (R : Value → List HP → Prop) : Prop :=
  (want ops env o.guard = some true ∧ RunQ P N w0 l env o R) ∨ (want ops env o.guard = some false ∧ R undef [])
theorem zdq : ∀ (dp ord : List Nat), dp.Nodup → (∀ j ∈ dp, j ∈ ord) → ∃ r, ord.Perm (dp ++ r)
  | [], ord, _, _ => ⟨ord, .refl _⟩
  | j :: dp, ord, hn, hs => by
    obtain ⟨r, hr⟩ := zdq dp ord (List.nodup_cons.1 hn).2 (fun k hk => hs k (by simp [hk]))
    have hj : j ∈ dp ++ r := hr.mem_iff.1 (hs j (by simp))
    have hjr : j ∈ r := by
      rcases List.mem_append.1 hj with h | h
      · exact absurd h (List.nodup_cons.1 hn).1
      · exact h
    exact ⟨r.erase j, hr.trans (((List.perm_cons_erase hjr).append_left dp).trans List.perm_middle)⟩
theorem Mem.pick {w0 w : World} {l : List HP} {pf : Nat → List HP} {dp ord : List Nat} (h : Mem w0 (ord.flatMap pf ++ l) w) (hn : dp.Nodup) (hs : ∀ j ∈ dp, j ∈ ord) : Mem w0 (dp.flatMap pf ++ l) w := by
  obtain ⟨r, hr⟩ := zdq dp ord hn hs
  have h1 := h.perm ((hr.flatMap_right pf).append_right l)
  rw [List.flatMap_append] at h1
  exact h1.sub (((List.sublist_append_left _ _)).append_right l)
section
variable {P : Program} {N : Nat} {w0 : World} {l : List HP} {env : List (Nat × Value)} {Q : Post} {os : List Oper} {m : Nat} {dps : List (List Nat)} {dsts : List Nat} {R : Nat → List Value → Value → List HP → Prop}
def preT (n k : Nat) : Array Bool := (List.replicate k true ++ List.replicate (n - k) false).toArray
theorem zfb (n k i : Nat) (hk : k ≤ n) (hi : i < n) : (preT n k).getD i true = decide (i < k) := by
  unfold preT
  simp only [Array.getD_eq_getD_getElem?, List.getElem?_toArray]
  by_cases h : i < k
  · rw [List.getElem?_append_left (by simpa using h)]; simp [h]
  · rw [List.getElem?_append_right (by simpa using h), List.getElem?_eq_getElem (by simp; omega)]; simp [h]
theorem zdp (n k : Nat) (hk : k ≤ n) : (preT n k).size = n := by unfold preT; simp; omega
theorem preT_set (n k : Nat) (hk : k < n) : (preT n k).setIfInBounds k true = preT n (k + 1) := by
  apply Array.ext
  · simp [zdp n k (by omega), zdp n (k + 1) (by omega)]
  · intro i h1 h2
    have hi : i < n := by rw [zdp n (k + 1) (by omega)] at h2; exact h2
    have e1 := zfb n k i (by omega) hi
    have e2 := zfb n (k + 1) i (by omega) hi
    rw [Array.getD_eq_getD_getElem?, Array.getElem?_eq_getElem (by rw [zdp n k (by omega)]; exact hi)] at e1
    rw [Array.getD_eq_getD_getElem?, Array.getElem?_eq_getElem h2] at e2
    simp only [Option.getD_some] at e1 e2
    rw [e2, Array.getElem_setIfInBounds]
    · split
      · rename_i h; subst h; simp
      · rw [e1]; rw [decide_eq_decide]; omega
    · rw [zdp n k (by omega)]; exact hi
theorem tail_any (hr : ∀ k, m ≤ k → k < os.length → Region.ready .any os.toArray (preT os.length k) = [k]) : ∀ (f k : Nat), m ≤ k → f + k = os.length → ∀ a w, wpList P os.toArray Q (os.drop k) a w → wpAny P .any os.toArray Q f (preT os.length k) a w
  | 0, k, hk, hf, a, w, h => by
    have : os.drop k = [] := List.drop_eq_nil_of_le (by omega)
    rw [this] at h
    refine ⟨?_, h⟩
    unfold Region.ready
    rw [List.filter_eq_nil_iff]
    intro i hi
    rw [List.mem_range] at hi
    simp only [List.size_toArray] at hi
    rw [zfb _ _ i (by omega) (by omega)]
    simp [show i < k by omega]
  | f + 1, k, hk, hf, a, w, h => by
    have hlt : k < os.length := by omega
    have hd : os.drop k = os[k] :: os.drop (k + 1) := List.drop_eq_getElem_cons hlt
    rw [hd] at h
    refine ⟨fun h0 => (by rw [hr k hk hlt] at h0; cases h0), fun i hi => ?_⟩
    rw [hr k hk hlt, List.mem_singleton] at hi
    subst hi
    unfold wpOp
    have ho : os.toArray[i]? = some os[i] := by simp [hlt]
    rw [ho]
    unfold wpList at h
    rw [preT_set _ _ hlt]
    have ih := tail_any hr f (i + 1) (by omega) (by omega)
    simp only
    split
    · rename_i hw
      rw [if_pos hw] at h
      exact h.imp (Oper.wp_mono fun a w hh => ih a w hh) id
    · rename_i hw
      rw [if_neg hw] at h
      exact ih _ _ h
structure Mid (N : Nat) (w0 : World) (l : List HP) (env : List (Nat × Value)) (os : List Oper) (m : Nat) (dps : List (List Nat)) (dsts : List Nat) (R : Nat → List Value → Value → List HP → Prop) (listed : Array Bool) (ord : List Nat) (vf : Nat → Value) (pf : Nat → List HP) (a : Act) (w : World) : Prop where
  size : listed.size = os.length
  iff : ∀ i, i < os.length → (listed.getD i true = true ↔ i ∈ ord)
  low : ∀ i ∈ ord, i < m
  closed : ∀ i ∈ ord, ∀ j ∈ depsOf os i, j ∈ ord
  nodup : ord.Nodup
  dcl : ∀ i ∈ ord, ∀ j ∈ dps.getD i [], j ∈ ord
  rel : ∀ i ∈ ord, R i ((dps.getD i []).map vf) (vf i) (pf i)
  mem : Mem w0 (ord.flatMap pf ++ l) w
  asize : a.tmps.size = N
  defers : a.defers = []
  env : ∀ d v, lk env d = some v → a.tmps[d]? = some v
  slots : ∀ i ∈ ord, ∀ d, dsts[i]? = some d → a.tmps[d]? = some (vf i)
def envOf (dsts : List Nat) (vf : Nat → Value) (is : List Nat) : List (Nat × Value) := is.map fun i => (dsts.getD i 0, vf i)
theorem lk_append (e1 e2 : List (Nat × Value)) (d : Nat) (v : Value) (h : lk (e1 ++ e2) d = some v) : (d, v) ∈ e1 ∨ lk e2 d = some v := by
  induction e1 with
  | nil => exact .inr h
  | cons p e1 ih =>
    obtain ⟨k, u⟩ := p
    rw [List.cons_append] at h
    unfold lk at h
    cases e : Nat.beq k d with
    | true => rw [e] at h; simp at h; subst h; rw [Nat.eq_of_beq_eq_true e]; exact .inl List.mem_cons_self
    | false =>
      rw [e] at h
      rcases ih h with h | h
      · exact .inl (List.mem_cons_of_mem _ h)
      · exact .inr h
theorem Mid.st {listed ord vf pf a w} (h : Mid N w0 l env os m dps dsts R listed ord vf pf a w) (hm : m ≤ dsts.length) {is : List Nat} (hn : is.Nodup) (hs : ∀ j ∈ is, j ∈ ord) : St N w0 (is.flatMap pf ++ l) (envOf dsts vf is ++ env) a w := by
  refine ⟨h.mem.pick hn hs, h.asize, h.defers, fun d v hd => ?_⟩
  rcases lk_append _ _ _ _ hd with h1 | h1
  · unfold envOf at h1
    rw [List.mem_map] at h1
    obtain ⟨i, hi, he⟩ := h1
    have hio := hs i hi
    have hlt := h.low i hio
    have : dsts[i]? = some (dsts.getD i 0) := by rw [List.getD_eq_getElem?_getD, List.getElem?_eq_getElem (by omega)]; rfl
    simp only [Prod.mk.injEq] at he
    obtain ⟨rfl, rfl⟩ := he
    exact h.slots i hio _ this
  · exact h.env d v h1
theorem hc_drawnG {id : Nat} (hmix : P.follows .mixedOrders = true) (m : Nat) (dps : List (List Nat)) (dsts : List Nat) (R : Nat → List Value → Value → List HP → Prop) (hok : drawOkG os m dps dsts = true) (hfresh : dsts.all (fun d => (lk env d).isNone) = true) (hN : dsts.all (fun d => Nat.blt d N) = true)
    (due : ∀ i o, os[i]? = some o → i < m → ∀ vf pf, (∀ j ∈ dps.getD i [], R j ((dps.getD j []).map vf) (vf j) (pf j)) → Obl P os.toArray N w0 ((dps.getD i []).flatMap pf ++ l) (envOf dsts vf (dps.getD i []) ++ env) o (R i ((dps.getD i []).map vf)))
    (fin : ∀ vf pf, (∀ i, i < m → R i ((dps.getD i []).map vf) (vf i) (pf i)) → ∀ f a w, f + m = os.length → St N w0 ((List.range m).flatMap pf ++ l) (envOf dsts vf (List.range m) ++ env) a w → wpAny P .any os.toArray Q f (preT os.length m) a w) : HC P N w0 l env (.region id os.toArray true) Q := by
  intro a w st
  refine wp_region_any hmix ?_
  simp only [drawOkG, Bool.and_eq_true, Nat.ble_eq, List.all_eq_true, List.mem_range, Bool.or_eq_true, Nat.blt_eq, beq_iff_eq, decide_eq_true_eq, Array.all_eq_true'] at hok
  obtain ⟨⟨⟨⟨⟨hml, hback⟩, hcov⟩, hdst⟩, hdn⟩, hdp⟩ := hok
  have hml' : m ≤ dsts.length := by have := congrArg List.length hdst; simp at this; omega
  have hlen : dsts.length = m := by have := congrArg List.length hdst; simp at this; omega
  have hmsk : ∀ i j, ((msk ((List.range os.length).map (depsOf os)) []).getD i 0).testBit j = true → Dep os i j := msk_dep os _ _ (fun t ds ht d hd => by
    rw [List.getElem?_map] at ht
    by_cases h : t < os.length
    · rw [List.getElem?_range h] at ht; simp at ht; subst ht; simpa using hd
    · rw [List.getElem?_eq_none (by simp; omega)] at ht; cases ht) (fun i j h => by simp at h)
  have dstAt : ∀ i, i < m → ∀ o, os[i]? = some o → o.dst = some (dsts.getD i 0) := fun i hi o ho => by
    have h1 : ((os.take m).map (·.dst))[i]? = some o.dst := by rw [List.getElem?_map, List.getElem?_take, if_pos hi, ho]; rfl
    rw [hdst, List.getElem?_map] at h1
    rw [List.getD_eq_getElem?_getD]
    rw [List.getElem?_eq_getElem (by omega)] at h1 ⊢
    simp at h1 ⊢
    exact h1.symm
  -- what may come up
  have key : ∀ (f : Nat) (listed : Array Bool) (ord : List Nat) (vf : Nat → Value) (pf : Nat → List HP) (a : Act) (w : World), f + ord.length = os.length → Mid N w0 l env os m dps dsts R listed ord vf pf a w → wpAny P .any os.toArray Q f listed a w := by
    intro f
    induction f with
    | zero =>
      intro listed ord vf pf a w hf h
      -- all are listed: m = the length
      have hall : ∀ i, i < os.length → i ∈ ord := by
        intro i hi
        have hsub : ord.Perm (List.range os.length) ∨ True := .inr trivial
        obtain ⟨r, hr⟩ := zdq ord (List.range os.length) h.nodup (fun j hj => by have := h.low j hj; simp; omega)
        have hl := hr.length_eq
        simp at hl
        have : r = [] := List.length_eq_zero_iff.1 (by omega)
        subst this
        have := hr.mem_iff.1 (List.mem_range.2 hi)
        simpa using this
      have hm2 : m = os.length := by
        by_cases hc : m < os.length
        · have := h.low m (hall m hc); omega
        · omega
      have hp : listed = preT os.length m := by
        apply Array.ext
        · rw [h.size, zdp _ _ hml]
        · intro i h1 h2
          have hi : i < os.length := by rw [h.size] at h1; exact h1
          have e1 := (h.iff i hi).2 (hall i hi)
          have e2 := zfb os.length m i hml hi
          rw [Array.getD_eq_getD_getElem?, Array.getElem?_eq_getElem h1] at e1
          rw [Array.getD_eq_getD_getElem?, Array.getElem?_eq_getElem h2] at e2
          simp only [Option.getD_some] at e1 e2
          rw [e1, e2]; simp; omega
      rw [hp]
      exact fin vf pf (fun i hi => h.rel i (hall i (by omega))) 0 a w (by omega) (h.st hml' List.nodup_range (fun j hj => hall j (by rw [List.mem_range] at hj; omega)))
    | succ f ih =>
      intro listed ord vf pf a w hf h
      by_cases hall : ∀ i, i < m → i ∈ ord
      · -- the tail's turn
        have hp : listed = preT os.length m := by
          apply Array.ext
          · rw [h.size, zdp _ _ hml]
          · intro i h1 h2
            have hi : i < os.length := by rw [h.size] at h1; exact h1
            have e1 := h.iff i hi
            have e2 := zfb os.length m i hml hi
            rw [Array.getD_eq_getD_getElem?, Array.getElem?_eq_getElem h1] at e1
            rw [Array.getD_eq_getD_getElem?, Array.getElem?_eq_getElem h2] at e2
            simp only [Option.getD_some] at e1 e2
            rw [e2, Bool.eq_iff_iff, e1, decide_eq_true_eq]
            exact ⟨fun hx => h.low i hx, fun hx => hall i hx⟩
        have hord : ord.length = m := by
          obtain ⟨r, hr⟩ := zdq ord (List.range m) h.nodup (fun j hj => by have := h.low j hj; simpa using this)
          obtain ⟨r', hr'⟩ := zdq (List.range m) ord List.nodup_range (fun j hj => hall j (by simpa using hj))
          have h1 := hr.length_eq
          have h2 := hr'.length_eq
          simp at h1 h2
          omega
        rw [hp]
        exact fin vf pf (fun i hi => h.rel i (hall i hi)) (f + 1) a w (by omega) (h.st hml' List.nodup_range (fun j hj => hall j (by simpa using hj)))
      · -- some quiet one is not done yet
        have hsome : ∃ i, i < m ∧ i ∉ ord := by
          by_cases hx : ∃ i, i < m ∧ i ∉ ord
          · exact hx
          · exact absurd (fun i hi => Decidable.byContradiction fun hn => hx ⟨i, hi, hn⟩) hall
        have mem_rdy : ∀ i, i ∈ Region.ready .any os.toArray listed ↔ i < os.length ∧ i ∉ ord ∧ ∀ j ∈ depsOf os i, j ∈ ord := by
          intro i
          unfold Region.ready
          rw [List.mem_filter, List.mem_range]
          simp only [List.size_toArray]
          constructor
          · rintro ⟨hi, hb⟩
            rw [Bool.and_eq_true] at hb
            have hno : i ∉ ord := fun hx => by rw [(h.iff i hi).2 hx] at hb; simp at hb
            refine ⟨hi, hno, fun j hj => ?_⟩
            have ho : os.toArray[i]? = some os[i] := by simp [hi]
            rw [ho] at hb
            simp only [Option.map_some, Option.getD_some, Array.all_eq_true'] at hb
            unfold depsOf at hj
            rw [List.getElem?_eq_getElem hi] at hj
            simp only [List.mem_map, List.mem_filter] at hj
            obtain ⟨e, ⟨he, hbd⟩, rfl⟩ := hj
            have hb2 := hb.2 e (by simpa using he)
            rw [hbd] at hb2
            simp at hb2
            have hlt := hback i hi e.on (by unfold depsOf; rw [List.getElem?_eq_getElem hi]; exact List.mem_map.2 ⟨e, List.mem_filter.2 ⟨he, hbd⟩, rfl⟩)
            refine (h.iff e.on (by omega)).1 ?_
            have hs : e.on < listed.size := by rw [h.size]; omega
            rw [Array.getD_eq_getD_getElem?, Array.getElem?_eq_getElem hs] 
            simp only [Option.getD_some]
            rw [Array.getElem?_eq_getElem hs] at hb2
            simpa using hb2
          · rintro ⟨hi, hno, hd⟩
            refine ⟨hi, ?_⟩
            have ho : os.toArray[i]? = some os[i] := by simp [hi]
            rw [ho]
            simp only [Option.map_some, Option.getD_some, Bool.and_eq_true, Array.all_eq_true']
            refine ⟨?_, fun e he => ?_⟩
            · cases hb : listed.getD i true with
              | true => exact absurd ((h.iff i hi).1 hb) hno
              | false => rfl
            · rw [Bool.or_eq_true]
              by_cases hbd : Region.binds .any e = true
              rotate_left
              · left; simpa using hbd
              right
              have hon : e.on ∈ depsOf os i := by unfold depsOf; rw [List.getElem?_eq_getElem hi]; exact List.mem_map.2 ⟨e, List.mem_filter.2 ⟨by simpa using he, hbd⟩, rfl⟩
              have hlt := hback i hi e.on hon
              have := (h.iff e.on (by omega)).2 (hd e.on hon)
              have hs : e.on < listed.size := by rw [h.size]; omega
              rw [Array.getD_eq_getD_getElem?, Array.getElem?_eq_getElem hs] at this
              simp only [Option.getD_some] at this
              rw [Array.getD_eq_getD_getElem?, Array.getElem?_eq_getElem hs]
              simpa using this
        have hdep : ∀ k j, Dep os k j → (∀ d ∈ depsOf os k, d ∈ ord) → j ∈ ord := by
          intro k j hd
          induction hd with
          | one hj => intro hx; exact hx _ hj
          | more hk _ ih2 => intro hx; exact ih2 (fun d hd => h.closed _ (hx _ hk) d hd)
        have hlow : ∀ i ∈ Region.ready .any os.toArray listed, i < m := by
          intro i hi
          obtain ⟨h1, h2, h3⟩ := (mem_rdy i).1 hi
          by_cases hc : i < m
          · exact hc
          · exfalso
            obtain ⟨q, hq, hqn⟩ := hsome
            rcases hcov i h1 with h4 | h4
            · exact hc h4
            · exact hqn (hdep i q (hmsk i q (h4 q hq)) h3)
        refine ⟨fun h0 => ?_, fun i hi => ?_⟩
        · -- the least one that is not done may come up
          exfalso
          obtain ⟨q, hq, hqn⟩ := hsome
          obtain ⟨p, hp, hmin⟩ := exists_least (p := fun i => i < m ∧ i ∉ ord) ⟨q, hq, hqn⟩
          have : p ∈ Region.ready .any os.toArray listed := by
            rw [mem_rdy]
            refine ⟨by omega, hp.2, fun j hj => ?_⟩
            have hlt := hback p (by omega) j hj
            apply Decidable.byContradiction
            intro hn
            have := hmin j ⟨by omega, hn⟩
            omega
          rw [h0] at this
          cases this
        · have him := hlow i hi
          obtain ⟨h1, h2, h3⟩ := (mem_rdy i).1 hi
          have ho : os[i]? = some os[i] := List.getElem?_eq_getElem h1
          have hdps := hdp i him
          have hsub : ∀ j ∈ dps.getD i [], j ∈ ord := fun j hj => hdep i j (hmsk i j (hdps.1 j hj)) h3
          have hst := h.st hml' hdps.2 hsub
          have hobl := due i os[i] ho him vf pf (fun j hj => h.rel j (hsub j hj))
          have hdd := dstAt i him _ ho
          have hdlt : dsts.getD i 0 < N := by
            have := List.all_eq_true.1 hN (dsts.getD i 0) (by rw [List.getD_eq_getElem?_getD, List.getElem?_eq_getElem (by omega)]; exact List.getElem_mem _)
            simpa [Nat.blt_eq] using this
          have hdnone : lk env (dsts.getD i 0) = none := by
            have := List.all_eq_true.1 hfresh (dsts.getD i 0) (by rw [List.getD_eq_getElem?_getD, List.getElem?_eq_getElem (by omega)]; exact List.getElem_mem _)
            simpa using this
          have next : ∀ v post w', R i ((dps.getD i []).map vf) v post → Mem w post w' → wpAny P .any os.toArray Q f (listed.setIfInBounds i true) (a.put (some (dsts.getD i 0)) v) w' := by
            intro v post w' hv hm
            have hne : ∀ j ∈ ord, j ≠ i := fun j hj e => h2 (e ▸ hj)
            refine ih (listed.setIfInBounds i true) (i :: ord) (fun k => if k = i then v else vf k) (fun k => if k = i then post else pf k) _ w' (by simp; omega) ⟨?_, ?_, ?_, ?_, ?_, ?_, ?_, ?_, ?_, ?_, ?_, ?_⟩
            · simp [h.size]
            · intro k hk
              by_cases hki : k = i
              · subst hki
                have hs : k < listed.size := by rw [h.size]; exact hk
                simp [Array.getD_eq_getD_getElem?, hs]
              · rw [getD_set_ne true (fun e => hki e.symm), h.iff k hk]
                simp [hki]
            · intro k hk; rcases List.mem_cons.1 hk with rfl | hk; exact him; exact h.low k hk
            · intro k hk j hj
              rcases List.mem_cons.1 hk with rfl | hk
              · exact List.mem_cons_of_mem _ (h3 j hj)
              · exact List.mem_cons_of_mem _ (h.closed k hk j hj)
            · exact List.nodup_cons.2 ⟨h2, h.nodup⟩
            · intro k hk j hj
              rcases List.mem_cons.1 hk with rfl | hk
              · exact List.mem_cons_of_mem _ (hsub j hj)
              · exact List.mem_cons_of_mem _ (h.dcl k hk j hj)
            · intro k hk
              rcases List.mem_cons.1 hk with rfl | hk
              · have e : (dps.getD k []).map (fun j => if j = k then v else vf j) = (dps.getD k []).map vf := List.map_congr_left fun j hj => if_neg (hne j (hsub j hj))
                rw [e, if_pos rfl, if_pos rfl]; exact hv
              · have e : (dps.getD k []).map (fun j => if j = i then v else vf j) = (dps.getD k []).map vf := List.map_congr_left fun j hj => if_neg (hne j (h.dcl k hk j hj))
                rw [e, if_neg (hne k hk), if_neg (hne k hk)]; exact h.rel k hk
            · have e : (i :: ord).flatMap (fun k => if k = i then post else pf k) = post ++ ord.flatMap pf := by
                rw [List.flatMap_cons, if_pos rfl]
                congr 1
                rw [List.flatMap_def, List.flatMap_def]
                congr 1
                refine List.map_congr_left fun k hk => ?_
                rw [if_neg (hne k hk)]
              rw [e, List.append_assoc]
              exact h.mem.app hm
            · simp [Act.put, h.asize]
            · exact h.defers
            · intro d u hd
              have hdne : dsts.getD i 0 ≠ d := fun e => by rw [← e, hdnone] at hd; cases hd
              simp only [Act.put]
              rw [Array.getElem?_setIfInBounds_ne hdne]
              exact h.env d u hd
            · intro k hk d hd
              have hlt : dsts.getD i 0 < a.tmps.size := by rw [h.asize]; exact hdlt
              rcases List.mem_cons.1 hk with rfl | hk
              · have : d = dsts.getD k 0 := by rw [List.getD_eq_getElem?_getD, hd]; rfl
                subst this
                simp only [Act.put, if_true]
                simp only [Array.getElem?_setIfInBounds_self_of_lt hlt]
              · have hdne : dsts.getD i 0 ≠ d := by
                  intro e
                  have hi2 : dsts[i]? = some d := by rw [← e, List.getD_eq_getElem?_getD, List.getElem?_eq_getElem (by omega)]; rfl
                  have hk2 : k < dsts.length := (List.getElem?_eq_some_iff.1 hd).1
                  have := (List.getElem?_inj hk2 hdn).1 (hd.trans hi2.symm)
                  exact hne k hk this
                simp only [Act.put]
                rw [Array.getElem?_setIfInBounds_ne hdne, if_neg (hne k hk)]
                exact h.slots k hk d hd
          unfold wpOp
          have hoa : os.toArray[i]? = some os[i] := by simp [h1]
          rw [hoa]
          simp only
          rcases hobl with ⟨hw, hq⟩ | ⟨hw, hq⟩
          · rw [if_pos (hst.wanted hw)]
            refine .inl (hq a w hst Q _ fun v post w' hv hm => ?_)
            rw [hdd]
            exact next v post w' hv hm
          · rw [if_neg (by rw [hst.wanted hw]; decide), hdd]
            exact next undef [] w hq (Mem.refl w)
  refine key os.length (Array.replicate os.length false) [] (fun _ => undef) (fun _ => []) a _ (by simp) ⟨by simp, ?_, by simp, by simp, by simp, by simp, by simp, ?_, st.size, st.defers, st.env, by simp⟩
  · intro i hi; simp [hi]
  · exact st.mem.drawn _
theorem hc_drawn {id : Nat} (hmix : P.follows .mixedOrders = true) (m : Nat) (dps : List (List Nat)) (dsts : List Nat) (R : Nat → List Value → Value → List HP → Prop) (hok : drawOk os m dps dsts = true) (hfresh : dsts.all (fun d => (lk env d).isNone) = true) (hN : dsts.all (fun d => Nat.blt d N) = true)
    (due : ∀ i o, os[i]? = some o → i < m → ∀ vf pf, (∀ j ∈ dps.getD i [], R j ((dps.getD j []).map vf) (vf j) (pf j)) → Obl P os.toArray N w0 ((dps.getD i []).flatMap pf ++ l) (envOf dsts vf (dps.getD i []) ++ env) o (R i ((dps.getD i []).map vf)))
    (fin : ∀ vf pf, (∀ i, i < m → R i ((dps.getD i []).map vf) (vf i) (pf i)) → HL P N os.toArray w0 ((List.range m).flatMap pf ++ l) (envOf dsts vf (List.range m) ++ env) (os.drop m) Q) : HC P N w0 l env (.region id os.toArray true) Q := by
  have h0 := hok
  simp only [drawOk, Bool.and_eq_true] at h0
  obtain ⟨⟨⟨⟨⟨⟨g1, g2⟩, g3⟩, hready⟩, g5⟩, g6⟩, g7⟩ := h0
  have hrdy : ∀ k, m ≤ k → k < os.length → Region.ready .any os.toArray (preT os.length k) = [k] := fun k h1 h2 => by
    have := beq_iff_eq.1 (List.all_eq_true.1 hready (k - m) (List.mem_range.2 (by omega)))
    rw [show m + (k - m) = k by omega] at this
    exact this
  exact hc_drawnG hmix m dps dsts R (by simp only [drawOkG, Bool.and_eq_true]; exact ⟨⟨⟨⟨⟨g1, g2⟩, g3⟩, g5⟩, g6⟩, g7⟩) hfresh hN due (fun vf pf hR f a w hf st => tail_any hrdy f m (Nat.le_refl _) hf a w (fin vf pf hR a w st))
def Dues (P : Program) (ops : Array Oper) (N : Nat) (w0 : World) (l : List HP) (env : List (Nat × Value)) (dsts : List Nat) (all : List (List Nat)) (R : Nat → List Value → Value → List HP → Prop) : Nat → List (List Nat) → List Oper → Prop
  | _, _, [] => True
  | k, [], o :: os => (∀ (vf : Nat → Value) (pf : Nat → List HP), Obl P ops N w0 l env o (R k [])) ∧ Dues P ops N w0 l env dsts all R (k + 1) [] os
  | k, ds :: dps, o :: os => (∀ (vf : Nat → Value) (pf : Nat → List HP), (∀ j ∈ ds, R j ((all.getD j []).map vf) (vf j) (pf j)) → Obl P ops N w0 (ds.flatMap pf ++ l) (envOf dsts vf ds ++ env) o (R k (ds.map vf))) ∧ Dues P ops N w0 l env dsts all R (k + 1) dps os
theorem dues_at {P : Program} {ops : Array Oper} {N : Nat} {w0 : World} {l : List HP} {env : List (Nat × Value)} {dsts : List Nat} {all : List (List Nat)} {R : Nat → List Value → Value → List HP → Prop} : ∀ (os : List Oper) (dps : List (List Nat)) (k : Nat), Dues P ops N w0 l env dsts all R k dps os → ∀ i o, os[i]? = some o → ∀ vf pf, (∀ j ∈ dps.getD i [], R j ((all.getD j []).map vf) (vf j) (pf j)) → Obl P ops N w0 ((dps.getD i []).flatMap pf ++ l) (envOf dsts vf (dps.getD i []) ++ env) o (R (k + i) ((dps.getD i []).map vf))
  | [], _, _, _, i, o, ho, _, _, _ => by simp at ho
  | o' :: os, [], k, h, 0, o, ho, vf, pf, _ => by simp at ho; subst ho; exact h.1 vf pf
  | o' :: os, [], k, h, i + 1, o, ho, vf, pf, hR => by
    have := dues_at os [] (k + 1) h.2 i o (by simpa using ho) vf pf (by simp)
    rw [show k + 1 + i = k + (i + 1) by omega] at this
    simpa using this
  | o' :: os, ds :: dps, k, h, 0, o, ho, vf, pf, hR => by simp at ho; subst ho; exact h.1 vf pf hR
  | o' :: os, ds :: dps, k, h, i + 1, o, ho, vf, pf, hR => by
    have := dues_at os dps (k + 1) h.2 i o (by simpa using ho) vf pf (by simpa using hR)
    rw [show k + 1 + i = k + (i + 1) by omega] at this
    simpa using this
theorem zfq {id : Nat} (hmix : P.follows .mixedOrders = true) (m : Nat) (qs : List Nat) (quiet tail : List Oper) (dps : List (List Nat)) (dsts : List Nat) (R : Nat → List Value → Value → List HP → Prop) (hos : os = quiet ++ tail) (hq : (Nat.beq quiet.length m && (List.range m == qs)) = true) (hok : drawOk os m dps dsts = true) (hfresh : dsts.all (fun d => (lk env d).isNone) = true) (hN : dsts.all (fun d => Nat.blt d N) = true)
    (due : Dues P os.toArray N w0 l env dsts dps R 0 dps quiet)
    (fin : ∀ vf pf, (∀ i, i < m → R i ((dps.getD i []).map vf) (vf i) (pf i)) → HL P N os.toArray w0 (qs.flatMap pf ++ l) (envOf dsts vf qs ++ env) tail Q) : HC P N w0 l env (.region id os.toArray true) Q := by
  simp only [Bool.and_eq_true, Nat.beq_eq, beq_iff_eq] at hq
  refine hc_drawn hmix m dps dsts R hok hfresh hN (fun i o ho hi vf pf hR => ?_) (fun vf pf hR => ?_)
  · have ho' : quiet[i]? = some o := by rw [hos, List.getElem?_append_left (by omega)] at ho; exact ho
    have := dues_at quiet dps 0 due i o ho' vf pf hR
    rwa [Nat.zero_add] at this
  · rw [hq.2, hos, List.drop_left' hq.1, ← hos]; exact fin vf pf hR
theorem hc_loop1 {α : Type} {c : Code} (L : α → List HP) (E : α → List (Nat × Value)) (G : α → Prop) (m : α → Nat) (x0 : α) (hG : G x0) (hs : sub (E x0) env) (hl : (L x0).Sublist l)
    (round : ∀ x, G x → HC P N w0 (L x) (E x) c (Exit.then (fun a' w' => ∃ x', G x' ∧ m x' < m x ∧ St N w0 (L x') (E x') a' w') Q)) : HC P N w0 l env (.loop c) Q :=
  hc_loop (fun q : α => L q) (fun q => E q) (fun q => G q) (fun q => m q) (x0) hG hs hl (fun q hq a w st => wp_mono (round q hq a w st) fun e a' w' h => by
    cases e with
    | normal => obtain ⟨x', h1, h2, h3⟩ := h; exact ⟨(x'), h1, h2, h3⟩
    | exit id => exact h
    | goto l => exact h
    | ret => exact h
    | panic ch => exact h
    | outgrown => exact h)
theorem zci {α : Type} {L : α → List HP} {E : α → List (Nat × Value)} {G : α → Prop} {m : α → Nat} {M : Nat} (x' : α) (hG : G x') (hm : m x' < M) (hs : sub (E x') env) (hl : (L x').Sublist l) :
    HQ N w0 l env .normal (Exit.then (fun a' w' => ∃ x', G x' ∧ m x' < M ∧ St N w0 (L x') (E x') a' w') Q) := fun a w st => ⟨x', hG, hm, st.less hs hl⟩
theorem zfn {α : Type} {c1 c2 : Code} (L : α → List HP) (E : α → List (Nat × Value)) (G : α → Prop) (h : HC P N w0 l env c1 (Exit.then (fun a' w' => ∃ x', G x' ∧ St N w0 (L x') (E x') a' w') Q)) (k : ∀ x, G x → HC P N w0 (L x) (E x) c2 Q) : HC P N w0 l env (.seq c1 c2) Q := by
  intro a w st
  refine wp_seq (wp_mono (h a w st) fun e a' w' h => ?_)
  cases e with
  | normal => obtain ⟨x', hz, sz⟩ := h; exact k x' hz a' w' sz
  | exit id => exact h
  | goto l => exact h
  | ret => exact h
  | panic ch => exact h
  | outgrown => exact h
theorem zcb {α : Type} {L : α → List HP} {E : α → List (Nat × Value)} {G : α → Prop} (x' : α) (hG : G x') (hs : sub (E x') env) (hl : (L x').Sublist l) :
    HQ N w0 l env .normal (Exit.then (fun a' w' => ∃ x', G x' ∧ St N w0 (L x') (E x') a' w') Q) := fun a w st => ⟨x', hG, st.less hs hl⟩
theorem hc_loop2 {α β : Type} {c : Code} (L : α → β → List HP) (E : α → β → List (Nat × Value)) (G : α → β → Prop) (m : α → β → Nat) (x0 : α) (y0 : β) (hG : G x0 y0) (hs : sub (E x0 y0) env) (hl : (L x0 y0).Sublist l)
    (round : ∀ x y, G x y → HC P N w0 (L x y) (E x y) c (Exit.then (fun a' w' => ∃ x' y', G x' y' ∧ m x' y' < m x y ∧ St N w0 (L x' y') (E x' y') a' w') Q)) : HC P N w0 l env (.loop c) Q :=
  hc_loop (fun q : α × β => L q.1 q.2) (fun q => E q.1 q.2) (fun q => G q.1 q.2) (fun q => m q.1 q.2) (x0, y0) hG hs hl (fun q hq a w st => wp_mono (round q.1 q.2 hq a w st) fun e a' w' h => by
    cases e with
    | normal => obtain ⟨x', y', h1, h2, h3⟩ := h; exact ⟨(x', y'), h1, h2, h3⟩
    | exit id => exact h
    | goto l => exact h
    | ret => exact h
    | panic ch => exact h
    | outgrown => exact h)
theorem zch {α β : Type} {L : α → β → List HP} {E : α → β → List (Nat × Value)} {G : α → β → Prop} {m : α → β → Nat} {M : Nat} (x' : α) (y' : β) (hG : G x' y') (hm : m x' y' < M) (hs : sub (E x' y') env) (hl : (L x' y').Sublist l) :
    HQ N w0 l env .normal (Exit.then (fun a' w' => ∃ x' y', G x' y' ∧ m x' y' < M ∧ St N w0 (L x' y') (E x' y') a' w') Q) := fun a w st => ⟨x', y', hG, hm, st.less hs hl⟩
theorem hc_meet2 {α β : Type} {c1 c2 : Code} (L : α → β → List HP) (E : α → β → List (Nat × Value)) (G : α → β → Prop) (h : HC P N w0 l env c1 (Exit.then (fun a' w' => ∃ x' y', G x' y' ∧ St N w0 (L x' y') (E x' y') a' w') Q)) (k : ∀ x y, G x y → HC P N w0 (L x y) (E x y) c2 Q) : HC P N w0 l env (.seq c1 c2) Q := by
  intro a w st
  refine wp_seq (wp_mono (h a w st) fun e a' w' h => ?_)
  cases e with
  | normal => obtain ⟨x', y', hz, sz⟩ := h; exact k x' y' hz a' w' sz
  | exit id => exact h
  | goto l => exact h
  | ret => exact h
  | panic ch => exact h
  | outgrown => exact h
theorem hq_meet2 {α β : Type} {L : α → β → List HP} {E : α → β → List (Nat × Value)} {G : α → β → Prop} (x' : α) (y' : β) (hG : G x' y') (hs : sub (E x' y') env) (hl : (L x' y').Sublist l) :
    HQ N w0 l env .normal (Exit.then (fun a' w' => ∃ x' y', G x' y' ∧ St N w0 (L x' y') (E x' y') a' w') Q) := fun a w st => ⟨x', y', hG, st.less hs hl⟩
theorem hc_loop3 {α β γ : Type} {c : Code} (L : α → β → γ → List HP) (E : α → β → γ → List (Nat × Value)) (G : α → β → γ → Prop) (m : α → β → γ → Nat) (x0 : α) (y0 : β) (z0 : γ) (hG : G x0 y0 z0) (hs : sub (E x0 y0 z0) env) (hl : (L x0 y0 z0).Sublist l)
    (round : ∀ x y z, G x y z → HC P N w0 (L x y z) (E x y z) c (Exit.then (fun a' w' => ∃ x' y' z', G x' y' z' ∧ m x' y' z' < m x y z ∧ St N w0 (L x' y' z') (E x' y' z') a' w') Q)) : HC P N w0 l env (.loop c) Q :=
  hc_loop (fun q : α × β × γ => L q.1 q.2.1 q.2.2) (fun q => E q.1 q.2.1 q.2.2) (fun q => G q.1 q.2.1 q.2.2) (fun q => m q.1 q.2.1 q.2.2) (x0, y0, z0) hG hs hl (fun q hq a w st => wp_mono (round q.1 q.2.1 q.2.2 hq a w st) fun e a' w' h => by
    cases e with
    | normal => obtain ⟨x', y', z', h1, h2, h3⟩ := h; exact ⟨(x', y', z'), h1, h2, h3⟩
    | exit id => exact h
    | goto l => exact h
    | ret => exact h
    | panic ch => exact h
    | outgrown => exact h)
theorem zbv {α β γ : Type} {L : α → β → γ → List HP} {E : α → β → γ → List (Nat × Value)} {G : α → β → γ → Prop} {m : α → β → γ → Nat} {M : Nat} (x' : α) (y' : β) (z' : γ) (hG : G x' y' z') (hm : m x' y' z' < M) (hs : sub (E x' y' z') env) (hl : (L x' y' z').Sublist l) :
    HQ N w0 l env .normal (Exit.then (fun a' w' => ∃ x' y' z', G x' y' z' ∧ m x' y' z' < M ∧ St N w0 (L x' y' z') (E x' y' z') a' w') Q) := fun a w st => ⟨x', y', z', hG, hm, st.less hs hl⟩
theorem hc_meet3 {α β γ : Type} {c1 c2 : Code} (L : α → β → γ → List HP) (E : α → β → γ → List (Nat × Value)) (G : α → β → γ → Prop) (h : HC P N w0 l env c1 (Exit.then (fun a' w' => ∃ x' y' z', G x' y' z' ∧ St N w0 (L x' y' z') (E x' y' z') a' w') Q)) (k : ∀ x y z, G x y z → HC P N w0 (L x y z) (E x y z) c2 Q) : HC P N w0 l env (.seq c1 c2) Q := by
  intro a w st
  refine wp_seq (wp_mono (h a w st) fun e a' w' h => ?_)
  cases e with
  | normal => obtain ⟨x', y', z', hz, sz⟩ := h; exact k x' y' z' hz a' w' sz
  | exit id => exact h
  | goto l => exact h
  | ret => exact h
  | panic ch => exact h
  | outgrown => exact h
theorem hq_meet3 {α β γ : Type} {L : α → β → γ → List HP} {E : α → β → γ → List (Nat × Value)} {G : α → β → γ → Prop} (x' : α) (y' : β) (z' : γ) (hG : G x' y' z') (hs : sub (E x' y' z') env) (hl : (L x' y' z').Sublist l) :
    HQ N w0 l env .normal (Exit.then (fun a' w' => ∃ x' y' z', G x' y' z' ∧ St N w0 (L x' y' z') (E x' y' z') a' w') Q) := fun a w st => ⟨x', y', z', hG, st.less hs hl⟩
theorem hc_loop4 {α β γ δ : Type} {c : Code} (L : α → β → γ → δ → List HP) (E : α → β → γ → δ → List (Nat × Value)) (G : α → β → γ → δ → Prop) (m : α → β → γ → δ → Nat) (x0 : α) (y0 : β) (z0 : γ) (u0 : δ) (hG : G x0 y0 z0 u0) (hs : sub (E x0 y0 z0 u0) env) (hl : (L x0 y0 z0 u0).Sublist l)
    (round : ∀ x y z u, G x y z u → HC P N w0 (L x y z u) (E x y z u) c (Exit.then (fun a' w' => ∃ x' y' z' u', G x' y' z' u' ∧ m x' y' z' u' < m x y z u ∧ St N w0 (L x' y' z' u') (E x' y' z' u') a' w') Q)) : HC P N w0 l env (.loop c) Q :=
  hc_loop (fun q : α × β × γ × δ => L q.1 q.2.1 q.2.2.1 q.2.2.2) (fun q => E q.1 q.2.1 q.2.2.1 q.2.2.2) (fun q => G q.1 q.2.1 q.2.2.1 q.2.2.2) (fun q => m q.1 q.2.1 q.2.2.1 q.2.2.2) (x0, y0, z0, u0) hG hs hl (fun q hq a w st => wp_mono (round q.1 q.2.1 q.2.2.1 q.2.2.2 hq a w st) fun e a' w' h => by
    cases e with
    | normal => obtain ⟨x', y', z', u', h1, h2, h3⟩ := h; exact ⟨(x', y', z', u'), h1, h2, h3⟩
    | exit id => exact h
    | goto l => exact h
    | ret => exact h
    | panic ch => exact h
    | outgrown => exact h)
theorem zbe {α β γ δ : Type} {L : α → β → γ → δ → List HP} {E : α → β → γ → δ → List (Nat × Value)} {G : α → β → γ → δ → Prop} {m : α → β → γ → δ → Nat} {M : Nat} (x' : α) (y' : β) (z' : γ) (u' : δ) (hG : G x' y' z' u') (hm : m x' y' z' u' < M) (hs : sub (E x' y' z' u') env) (hl : (L x' y' z' u').Sublist l) :
    HQ N w0 l env .normal (Exit.then (fun a' w' => ∃ x' y' z' u', G x' y' z' u' ∧ m x' y' z' u' < M ∧ St N w0 (L x' y' z' u') (E x' y' z' u') a' w') Q) := fun a w st => ⟨x', y', z', u', hG, hm, st.less hs hl⟩
theorem Mem.nilRow {w0 w : World} {l : List HP} (h : Mem w0 l w) (e s : Nat) : Mem w0 (rowE e s (.slice none 0 0) 0 [] :: l) w := by
  have : Mem w [rowE e s (.slice none 0 0) 0 []] w := by
    refine ⟨Below.refl _ _, ?_, ?_, ?_, by simp⟩
    · intro p hp; rw [List.mem_singleton] at hp; subst hp; exact World.ownsRow_nil ..
    · intro p hp; rw [List.mem_singleton] at hp; subst hp; exact rowE_ok _ _ _ _ _
    · intro p hp b hf; rw [List.mem_singleton] at hp; subst hp; cases hf
  exact h.app this
theorem zds {rest : List Oper} {ops : Array Oper} (e s : Nat) (k : HL P N ops w0 (rowE e s (.slice none 0 0) 0 [] :: l) env rest Q) : HL P N ops w0 l env rest Q := fun a w st => k a w (st.to (st.mem.nilRow e s))
theorem zda {ops : Array Oper} {rest : List Oper} {d : Nat} {f : FuncId} {xs : Array Operand} {ats : Array TypeId} {vs : List Value} {p : HP} {R : Value → HP → Prop} {ty : TypeId} {pos : String} {af : Array Edge} {gd : Option (Nat × Bool)} (i : Nat) (hN : Nat.blt d N = true) (hw : want ops env gd = some true)
    (hgo : goesB P f = true) (hvs : evs env xs.toList = some vs) (hi : l[i]? = some p)
    (hc : ∀ l' w, Mem w0 (p :: l') w → Calls P f vs.toArray w fun e w' => ∃ v p', e = .returned v ∧ R v p' ∧ Mem w0 (p' :: l') w') (k : ∀ v p', R v p' → HL P N ops w0 (l.set i p') ((d, v) :: env) rest Q) : HL P N ops w0 l env ({ dst := some d, op := .call { callee := .value (.func f), args := xs, argTypes := ats }, type := ty, pos := pos, after := af, guard := gd } :: rest) Q := fun a w st => by
  obtain ⟨r, h1, -⟩ := perm_set (p' := p) hi
  refine hl_call (vs := vs.toArray) rfl hN hw (fun a => execOp_call_go a (some d) f xs ats ty pos af gd) (fun a w st => ?_) (fun w => run_go hgo _ w) (fun w hm => (hc r w (hm.perm h1)).mono fun e w' h => ?_) a w st
  · have := evs_map st _ _ hvs
    rw [Array.empty_append, Array.append_empty]
    apply Array.toList_inj.1
    simpa using this
  · obtain ⟨v, p', rfl, hR, hm'⟩ := h
    have h2 : (p' :: r).Perm (l.set i p') := by
      obtain ⟨r', h3, h4⟩ := perm_set (p' := p') hi
      have : r.Perm r' := by
        have := h1.symm.trans h3
        exact (List.perm_cons p).1 this
      exact (this.cons p').trans h4
    exact ⟨v, _, rfl, hm'.perm h2, k v p' hR⟩
end
def pickE (env : List (Nat × Value)) : List Nat → List (Nat × Value) → Option (List (Nat × Value))
  | [], acc => some acc
  | k :: ks, acc => match lk env k with
    | some v => pickE env ks ((k, v) :: acc)
    | none => none
theorem zbx {env env' : List (Nat × Value)} : ∀ (ks : List Nat) (acc : List (Nat × Value)), sub acc env → pickE env ks acc = some env' → sub env' env
  | [], acc, hs, h => by unfold pickE at h; cases h; exact hs
  | k :: ks, acc, hs, h => by
    unfold pickE at h
    split at h
    · rename_i v hl; exact zbx ks _ (sub_cons hl hs) h
    · cases h
theorem zau {env env' : List (Nat × Value)} (ks : List Nat) (h : pickE env ks [] = some env') : sub env' env := zbx ks [] (zak _) h
theorem sk {env' env : List (Nat × Value)} (d : Nat) {v : Value} (h : lk env d = some v) (hs : sub env' env) : sub ((d, v) :: env') env := sub_cons h hs
def evRun (ops : Array Oper) (N : Nat) : Nat → List Oper → List (Nat × Value) → Option (List (Nat × Value) × List Oper)
  | 0, os, env => some (env, os)
  | _ + 1, [], _ => none
  | k + 1, o :: os, env => match o.dst with
    | none => none
    | some d => bif Nat.blt d N then (match want ops env o.guard with
      | some true => (match evOp env o.op with | some v => evRun ops N k os ((d, v) :: env) | none => none)
      | some false => evRun ops N k os ((d, undef) :: env)
      | none => none) else none
section
variable {P : Program} {N : Nat} {w0 : World} {l l' : List HP} {env env' : List (Nat × Value)} {Q : Post} {o : Oper} {os : List Oper}
theorem zbd {ops : Array Oper} {rest : List Oper} (ks : List Nat) (h : pickE env ks [] = some env') (k : HL P N ops w0 l env' rest Q) : HL P N ops w0 l env rest Q := hl_less (zau ks h) (.refl _) k
theorem hc_keep (c : Code) (ks : List Nat) (h : pickE env ks [] = some env') (k : HC P N w0 l env' c Q) : HC P N w0 l env c Q := hc_less c (zau ks h) (.refl _) k
theorem zab {ops : Array Oper} {rest : List Oper} : ∀ (k : Nat) {os : List Oper} {env : List (Nat × Value)}, evRun ops N k os env = some (env', rest) → HL P N ops w0 l env' rest Q → HL P N ops w0 l env os Q
  | 0, os, env, h, H => by unfold evRun at h; cases h; exact H
  | k + 1, [], env, h, H => by unfold evRun at h; cases h
  | k + 1, o :: os, env, h, H => by
    unfold evRun at h
    split at h
    · cases h
    · rename_i d hd
      cases hN : Nat.blt d N with
      | false => rw [hN] at h; cases h
      | true =>
        rw [hN] at h
        simp only [cond_true] at h
        split at h
        · rename_i hw
          split at h
          · rename_i v hv
            exact zeu hd hN hw (zae hv) (zab k h H)
          · cases h
        · rename_i hw
          exact hl_skip hd hN hw (zab k h H)
        · cases h
theorem zcd {R : Value → List HP → Prop} (hs : sub env' env) (h : RunQ P N w0 l env' o R) : RunQ P N w0 l env o R := zby hs (.refl _) h
theorem zcf {v u : Value} (h : RunV P N w0 l env o v) (e : v = u) : RunQ P N w0 l env o (fun x p => x = u ∧ p = []) := e ▸ zbz h
theorem zcq {b c : Bool} (h : RunV P N w0 l env o (.bool b)) (hb : b = c) : RunQ P N w0 l env o (fun v p => v = .bool c ∧ p = []) := hb ▸ zbz h
theorem rq_cb {b c : Bool} (h : RunQ P N w0 l env o (fun v p => v = .bool b ∧ p = [])) (hb : b = c) : RunQ P N w0 l env o (fun v p => v = .bool c ∧ p = []) := hb ▸ h
def envV (dsts : List Nat) (vals : List Value) (is : List Nat) : List (Nat × Value) := is.map fun i => (dsts.getD i 0, vals.getD i undef)
def ObV (P : Program) (ops : Array Oper) (N : Nat) (w0 : World) (l : List HP) (env : List (Nat × Value)) (o : Oper) (v : Value) : Prop :=
  (want ops env o.guard = some true ∧ RunQ P N w0 l env o (fun u p => u = v ∧ p = [])) ∨ (want ops env o.guard = some false ∧ v = undef)
def DuesV (P : Program) (ops : Array Oper) (N : Nat) (w0 : World) (l : List HP) (env : List (Nat × Value)) (dsts : List Nat) (vals : List Value) : Nat → List (List Nat) → List Oper → Prop
  | _, _, [] => True
  | k, [], o :: os => ObV P ops N w0 l env o (vals.getD k undef) ∧ DuesV P ops N w0 l env dsts vals (k + 1) [] os
  | k, ds :: dps, o :: os => ObV P ops N w0 l (envV dsts vals ds ++ env) o (vals.getD k undef) ∧ DuesV P ops N w0 l env dsts vals (k + 1) dps os
theorem ob_of_V {ops : Array Oper} {v : Value} (h : ObV P ops N w0 l env o v) : Obl P ops N w0 l env o (fun u p => u = v ∧ p = []) := by
  rcases h with h | ⟨h1, h2⟩
  · exact .inl h
  · exact .inr ⟨h1, h2.symm, rfl⟩
theorem dues_of_V {ops : Array Oper} {dsts : List Nat} {vals : List Value} {all : List (List Nat)} : ∀ (os : List Oper) (dps : List (List Nat)) (k : Nat), DuesV P ops N w0 l env dsts vals k dps os → Dues P ops N w0 l env dsts all (fun i _ v p => v = vals.getD i undef ∧ p = []) k dps os
  | [], _, _, _ => by unfold Dues; trivial
  | o :: os, [], k, h => ⟨fun _ _ => ob_of_V h.1, dues_of_V os [] (k + 1) h.2⟩
  | o :: os, ds :: dps, k, h => by
    refine ⟨fun vf pf hR => ?_, dues_of_V os dps (k + 1) h.2⟩
    have e1 : ds.flatMap pf = [] := List.flatMap_eq_nil_iff.2 (fun j hj => (hR j hj).2)
    have e2 : envOf dsts vf ds = envV dsts vals ds := List.map_congr_left (fun j hj => by rw [(hR j hj).1])
    rw [e1, e2, List.nil_append]
    exact ob_of_V h.1
theorem zbl {id : Nat} (m : Nat) (dps : List (List Nat)) (dsts : List Nat) (vals : List Value) (hchk : (P.follows .mixedOrders && Nat.ble m os.length && drawOk os m dps dsts && dsts.all (fun d => Nat.blt d N)) = true) (hfresh : dsts.all (fun d => (lk env d).isNone) = true)
    (due : DuesV P os.toArray N w0 l env dsts vals 0 dps (os.take m)) (fin : HL P N os.toArray w0 l (envV dsts vals (List.range m) ++ env) (os.drop m) Q) : HC P N w0 l env (.region id os.toArray true) Q := by
  simp only [Bool.and_eq_true, Nat.ble_eq] at hchk
  obtain ⟨⟨⟨h1, h2⟩, h3⟩, h4⟩ := hchk
  refine zfq h1 m (List.range m) (os.take m) (os.drop m) dps dsts (fun i _ v p => v = vals.getD i undef ∧ p = []) (List.take_append_drop m os).symm ?_ h3 hfresh h4 (dues_of_V _ _ _ due) (fun vf pf hR => ?_)
  · simp only [Bool.and_eq_true, Nat.beq_eq, beq_self_eq_true, and_true, List.length_take]; omega
  · have e1 : (List.range m).flatMap pf = [] := List.flatMap_eq_nil_iff.2 (fun j hj => (hR j (List.mem_range.1 hj)).2)
    have e2 : envOf dsts vf (List.range m) = envV dsts vals (List.range m) := List.map_congr_left (fun j hj => by rw [(hR j (List.mem_range.1 hj)).1])
    rw [e1, e2, List.nil_append]; exact fin
end
def BRow (k : IntKind) (w : World) (a : Option Addr) (len cap : Nat) (zs : List Int) : Prop :=
  (a = none ∧ len = 0 ∧ cap = 0 ∧ zs = []) ∨
  ∃ x, a = some x ∧ len ≤ cap ∧ cap ≤ maxLen ∧ zs.length = cap ∧ (∀ i, i < zs.length → w.cell? (x.add i) = some (.int k (zs.getD i 0))) ∧ ∀ n ∈ zs, (Lit.int k n).wf = true
def cod (z : List Int) (len i : Nat) : Nat := if len = 0 then 0 else (z.getD ((i * 5 + 1) % len) 0).toNat
theorem byte_rng {n : Int} (h : (Lit.int .u8 n).wf = true) : 0 ≤ n ∧ n ≤ 255 := by
  simp [Lit.wf, IntKind.min, IntKind.max, IntKind.signed, IntKind.bits] at h; omega
theorem BRow.len_le {k w a len cap zs} (h : BRow k w a len cap zs) : len ≤ 9223372036854775807 := by
  rcases h with ⟨_, rfl, _⟩ | ⟨_, _, h1, h2, _⟩
  · omega
  · unfold maxLen at h2; omega
theorem BRow.at_facts {w a len cap zs} (h : BRow .u8 w a len cap zs) (hl : 0 < len) (j : Nat) (hj : j < len) :
    ∃ b off, a = some ⟨b, off, none⟩ ∧ w.cell? ⟨b, off + j, none⟩ = some (.int .u8 (zs.getD j 0)) ∧ 0 ≤ zs.getD j 0 ∧ zs.getD j 0 ≤ 255 := by
  rcases h with ⟨_, rfl, _⟩ | ⟨x, rfl, h1, h2, h3, h4, h5⟩
  · omega
  · obtain ⟨b, off, rfl, hc⟩ := ints_at h4 (by omega)
    refine ⟨b, off, rfl, hc j (by omega), byte_rng (h5 _ ?_)⟩
    exact getD_mem (by omega)
theorem cod_le {w a len cap zs} (h : BRow .u8 w a len cap zs) (i : Nat) : cod zs len i ≤ 255 := by
  unfold cod
  split
  · omega
  · rename_i h0
    obtain ⟨b, off, _, _, h2, h3⟩ := h.at_facts (by omega) ((i * 5 + 1) % len) (Nat.mod_lt _ (by omega))
    omega
theorem big_any (a : Option Addr) (len cap : Nat) (w : World) (h : len ≤ 9223372036854775807) :
    Calls Try.prog 4 #[.slice a len cap] w fun e w' => e = .returned (.bool (decide (1048576 < len))) ∧ w = w' := by
  go_enter Try.func4, Try.ntmps4
  go_wp2
  go_ret
  exact ⟨rt_bool (by rw [Bool.eq_iff_iff]; simp; omega), rfl⟩
theorem cod_pos (z : List Int) (len i : Nat) (h : 0 < len) : cod z len i = (z.getD ((i * 5 + 1) % len) 0).toNat := if_neg (by omega)
theorem at_any (a : Option Addr) (len cap : Nat) (z : List Int) (w : World) (h : BRow .u8 w a len cap z) (i : Nat) (hi : i ≤ 1000000) :
    Calls Try.prog 8 #[.slice a len cap, .int .i64 (i : Int)] w fun e w' => e = .returned (.int .i64 (cod z len i : Nat)) ∧ w = w' := by
  have hlen := h.len_le
  by_cases h0 : len = 0
  · subst h0
    clear h
    go_enter Try.func8, Try.ntmps8
    go_wp2
    go_ret
    exact ⟨rfl, rfl⟩
  · have hp : 0 < len := by omega
    have hm : (i * 5 + 1) % len < len := Nat.mod_lt _ hp
    obtain ⟨b, off, rfl, hc, r1, r2⟩ := h.at_facts hp ((i * 5 + 1) % len) hm
    have hcod := Lib.hid (cod_pos z len i hp)
    have h1 : ((len : Int) == 0) = false := by simp; omega
    have e1 : ((i : Int) * 5 + 1) % (len : Int) = (((i * 5 + 1) % len : Nat) : Int) := by rw [Int.natCast_emod]; rfl
    clear h h0
    generalize (i * 5 + 1) % len = j at *
    generalize z.getD j 0 = v at *
    go_enter Try.func8, Try.ntmps8
    go_wp2
    go_ret
    exact ⟨rt_int (by rw [hcod.out]; omega), rfl⟩
def i64ok (x : Int) : Prop := -9223372036854775808 ≤ x ∧ x ≤ 9223372036854775807
def IntS (w : World) (a : Option Addr) (n cap : Nat) (xs : List Int) : Prop :=
  n = xs.length ∧ n ≤ 9223372036854775807 ∧ (∀ x ∈ xs, i64ok x) ∧
  (0 < n → ∃ b off, a = some ⟨b, off, none⟩ ∧ b < w.heap.size ∧ ∀ j, j < n → w.cell? ⟨b, off + j, none⟩ = some (.int .i64 (xs.getD j 0)))
theorem and_range (x m : Int) (h0 : 0 ≤ m) (h1 : m ≤ 4611686018427387904) : 0 ≤ bits BinOp.and IntKind.i64 x m ∧ bits BinOp.and IntKind.i64 x m ≤ m := by
  obtain ⟨k, rfl⟩ := Int.eq_ofNat_of_zero_le h0
  have e : (BitVec.ofInt 64 (k : Int)).toNat = k := by rw [BitVec.ofInt_natCast, BitVec.toNat_ofNat]; omega
  have hle : (BitVec.ofInt 64 x &&& BitVec.ofInt 64 (k : Int)).toNat ≤ k := by
    rw [BitVec.toNat_and, e]; exact Nat.and_le_right
  have : bits BinOp.and IntKind.i64 x (k : Int) = IntKind.i64.wrap (((BitVec.ofInt 64 x &&& BitVec.ofInt 64 (k : Int)).toNat : Nat) : Int) := rfl
  rw [this, IntKind.wrap_i64]
  omega
theorem BRow.zlen {k w a len cap zs} (h : BRow k w a len cap zs) : len ≤ zs.length := by
  rcases h with ⟨_, rfl, _, rfl⟩ | ⟨_, _, h1, _, h3, _⟩
  · exact Nat.le_refl _
  · omega
def Cur (w : World) (B g : Nat) (a : Option Addr) (len cap : Nat) (z : List Int) : Prop :=
  (∃ i : Nat, i ≤ len ∧ w.cell? ⟨g, 1, none⟩ = some (.int .i64 (i : Int))) ∧ (∃ h : Int, w.cell? ⟨g, 2, none⟩ = some (.int .i64 h)) ∧
  w.cell? ⟨g, 0, none⟩ = some (.slice a len cap) ∧ w.frozen? ⟨g, 1, none⟩ = false ∧ w.frozen? ⟨g, 2, none⟩ = false ∧ BRow .u8 w a len cap z ∧ B ≤ g ∧ (∀ x, a = some x → 0 < z.length → x.block < B)
theorem BRow.grown {k w w1 a len cap zs} {row : Option Nat} (h : BRow k w a len cap zs) (hg : w.grownBy w1 row) (hne : ∀ x, a = some x → 0 < zs.length → some x.block ≠ row) : BRow k w1 a len cap zs := by
  rcases h with h | ⟨x, rfl, h1, h2, h3, h4, h5⟩
  · exact .inl h
  · exact .inr ⟨x, rfl, h1, h2, h3, fun i hi => hg.cell (h4 i hi) (by have := hne x rfl (by omega); unfold Addr.add; split <;> simpa using this), h5⟩
theorem zgg {w w1 w2 : World} {row : Option Nat} (h1 : w.grownBy w1 row) (h2 : w1.grownBy w2 row) : w.grownBy w2 row :=
  ⟨h2.os.trans h1.os, h2.tape.trans h1.tape, h2.output.trans h1.output, Nat.le_trans h1.size h2.size, fun k hk hne => (h2.block k (Nat.lt_of_lt_of_le hk h1.size) hne).trans (h1.block k hk hne)⟩
theorem grown_set (w : World) (g o : Nat) (v : Value) : w.grownBy (w.setCell ⟨g, o, none⟩ v) (some g) :=
  ⟨rfl, rfl, rfl, by simp [World.setCell], fun k _ hne => Below.heap_setCell w _ v k (fun h => hne (by rw [h]))⟩
theorem zet (w : World) (n : Nat) (row : Option Nat) : w.grownBy (w.drewN n) row := ⟨rfl, rfl, rfl, Nat.le_refl _, fun _ _ _ => rfl⟩
theorem grown_of_below {w w1 : World} (h : Below w.heap.size w w1) (row : Option Nat) : w.grownBy w1 row := ⟨h.os, h.tape, h.output, h.size, fun k hk _ => h.block k hk⟩
def RetLt (n : Nat) (e : Ending) : Prop := ∃ x : Nat, x < n ∧ e = .returned (.int .i64 (x : Int))
theorem RetLt.of_and (x : Int) : RetLt 256 (.returned (.int .i64 (bits BinOp.and IntKind.i64 x 255))) := by
  obtain ⟨h1, h2⟩ := and_range x 255 (by omega) (by omega)
  exact ⟨(bits BinOp.and IntKind.i64 x 255).toNat, by omega, rt_int (by omega)⟩
theorem set_other {w : World} {g o o' : Nat} {v : Value} (h : o ≠ o') : (w.setCell ⟨g, o, none⟩ v).cell? ⟨g, o', none⟩ = w.cell? ⟨g, o', none⟩ := by
  apply World.cell?_setCell_other
  intro e; exact h (congrArg Addr.off e)
theorem set_same {w : World} {p : Addr} {u v : Value} (h : w.cell? p = some u) : (w.setCell p v).cell? p = some v := by
  apply World.cell?_setCell_same; exact h
theorem cur_h {w : World} {B g : Nat} {a : Option Addr} {len cap : Nat} {z : List Int} {i : Nat} (hi : i ≤ len) (hci : w.cell? ⟨g, 1, none⟩ = some (.int .i64 (i : Int))) {h : Int} (hch : w.cell? ⟨g, 2, none⟩ = some (.int .i64 h))
    (hcb : w.cell? ⟨g, 0, none⟩ = some (.slice a len cap)) (hf1 : w.frozen? ⟨g, 1, none⟩ = false) (hf2 : w.frozen? ⟨g, 2, none⟩ = false) (hrow : BRow .u8 w a len cap z) (hBg : B ≤ g) (hne : ∀ x, a = some x → 0 < z.length → x.block < B) (h' : Int) (n : Nat) :
    Cur ((w.setCell ⟨g, 2, none⟩ (.int .i64 h')).drewN n) B g a len cap z := by
  refine ⟨⟨i, hi, ?_⟩, ⟨h', ?_⟩, ?_, ?_, ?_, ?_, hBg, hne⟩
  · rw [World.cell?_drewN, set_other (by decide)]; exact hci
  · rw [World.cell?_drewN, set_same hch]
  · rw [World.cell?_drewN, set_other (by decide)]; exact hcb
  · exact (World.frozen?_setCell ..).trans hf1
  · exact (World.frozen?_setCell ..).trans hf2
  · exact (hrow.grown (grown_set w g 2 _) (fun x hx hp => by have := hne x hx hp; simp; omega)).grown (zet _ n none) (fun _ _ _ => by simp)
theorem cur_i {w : World} {B g : Nat} {a : Option Addr} {len cap : Nat} {z : List Int} (hc : Cur w B g a len cap z) {i : Nat} (hi : i < len) : Cur (w.setCell ⟨g, 1, none⟩ (.int .i64 ((i : Int) + 1))) B g a len cap z := by
  obtain ⟨⟨j, hj, hci⟩, ⟨h, hch⟩, hcb, hf1, hf2, hrow, hBg, hne⟩ := hc
  refine ⟨⟨i + 1, hi, ?_⟩, ⟨h, ?_⟩, ?_, ?_, ?_, ?_, hBg, hne⟩
  · rw [set_same hci]; rfl
  · rw [set_other (by decide)]; exact hch
  · rw [set_other (by decide)]; exact hcb
  · exact (World.frozen?_setCell ..).trans hf1
  · exact (World.frozen?_setCell ..).trans hf2
  · exact hrow.grown (grown_set w g 1 _) (fun x hx hp => by have := hne x hx hp; simp; omega)
theorem cur_drewN {w : World} {B g : Nat} {a : Option Addr} {len cap : Nat} {z : List Int} (hc : Cur w B g a len cap z) (n : Nat) : Cur (w.drewN n) B g a len cap z := by
  obtain ⟨h1, h2, h3, h4, h5, h6, h7, h8⟩ := hc
  exact ⟨h1, h2, h3, h4, h5, h6.grown (zet _ n none) (fun _ _ _ => by simp), h7, h8⟩
theorem l01Byte_any (B g : Nat) (a : Option Addr) (len cap : Nat) (z : List Int) (w : World) (hc : Cur w B g a len cap z) :
    Calls Try.prog 32 #[.pointer (some ⟨g, 0, none⟩)] w fun e w' => RetLt 256 e ∧ Cur w' B g a len cap z ∧ w.grownBy w' (some g) := by
  obtain ⟨⟨i, hi, hci⟩, ⟨h, hch⟩, hcb, hf1, hf2, hrow, hBg, hne⟩ := hc
  have hlen := hrow.len_le
  by_cases hlt : i < len
  · obtain ⟨b, off, rfl, hcell, r1, r2⟩ := hrow.at_facts (by omega) i hlt
    have hzl := hrow.zlen
    have hnb : b ≠ g := by have : b < B := hne _ rfl (by omega); omega
    have Hrow := Lib.hid hrow
    have Hne := Lib.hid hne
    clear hrow hne
    generalize z.getD i 0 = v at *
    go_enter Try.func32, Try.ntmps32
    go_wp2
    generalize wrap64 (wrap64 (h * 6364136223846793005) + 1442695040888963407) = h' at *
    go_quiet (fail)
    go_wp2
    go_quiet (fail)
    go_wp2
    go_quiet (fail)
    go_wp2
    go_ret
    refine ⟨RetLt.of_and _, ?_, ?_⟩
    · refine cur_i ?_ hlt
      exact cur_h hi hci hch hcb hf1 hf2 Hrow.out hBg Hne.out _ _
    · exact zgg (zgg (grown_set w g 2 _) (zet _ _ _)) (grown_set _ g 1 _)
  · have hil : i = len := by omega
    subst hil
    have Hrow := Lib.hid hrow
    have Hne := Lib.hid hne
    clear hrow hne hlt
    go_enter Try.func32, Try.ntmps32
    go_wp2
    generalize wrap64 (wrap64 (h * 6364136223846793005) + 1442695040888963407) = h' at *
    go_quiet (fail)
    go_wp2
    go_quiet (fail)
    go_wp2
    go_ret
    exact ⟨RetLt.of_and _, cur_drewN (cur_h hi hci hch hcb hf1 hf2 Hrow.out hBg Hne.out _ _) _, zgg (zgg (grown_set w g 2 _) (zet _ _ _)) (zet _ _ _)⟩
theorem l01Below_any (B g : Nat) (a : Option Addr) (len cap : Nat) (z : List Int) (n : Int) (h1 : 1 ≤ n) (h2 : n ≤ 256) (w : World) (hc : Cur w B g a len cap z) :
    Calls Try.prog 18 #[.pointer (some ⟨g, 0, none⟩), .int .i64 n] w fun e w' => RetLt n.toNat e ∧ Cur w' B g a len cap z ∧ w.grownBy w' (some g) := by
  have C := Lib.hid (l01Byte_any B g a len cap z w hc)
  clear hc
  go_enter Try.func18, Try.ntmps18
  go_wp2_with fail
  refine C.out.mono ?_
  rintro e w1 ⟨⟨x, hx, rfl⟩, hc1, hg1⟩
  have Hc := Lib.hid hc1
  have Hg := Lib.hid hg1
  clear hc1 hg1
  go_wp2
  go_ret
  refine ⟨⟨((x : Int) % n).toNat, ?_, rt_int ?_⟩, Hc.out, Hg.out⟩
  · have := Int.emod_lt_of_pos (x : Int) (show 0 < n by omega); omega
  · have := Int.emod_nonneg (x : Int) (show n ≠ 0 by omega); omega
def RetBool (e : Ending) : Prop := ∃ b : Bool, e = .returned (.bool b)
theorem l01Once_any (B g : Nat) (a : Option Addr) (len cap : Nat) (z : List Int) (n : Int) (h1 : 1 ≤ n) (h2 : n ≤ 256) (w : World) (hc : Cur w B g a len cap z) :
    Calls Try.prog 50 #[.pointer (some ⟨g, 0, none⟩), .int .i64 n] w fun e w' => RetBool e ∧ Cur w' B g a len cap z ∧ w.grownBy w' (some g) := by
  have C := Lib.hid (l01Below_any B g a len cap z n h1 h2 w hc)
  clear hc
  go_enter Try.func50, Try.ntmps50
  go_wp2_with fail
  refine C.out.mono ?_
  rintro e w1 ⟨⟨x, hx, rfl⟩, hc1, hg1⟩
  have Hc := Lib.hid hc1
  have Hg := Lib.hid hg1
  clear hc1 hg1
  go_wp2
  go_ret
  exact ⟨⟨_, rfl⟩, Hc.out, Hg.out⟩
theorem BRow.below {k w w1 a len cap zs} (h : BRow k w a len cap zs) (hb : Below w.heap.size w w1) : BRow k w1 a len cap zs := h.grown (grown_of_below hb none) (fun _ _ _ => by simp)
theorem BRow.old {k w a len cap zs} (h : BRow k w a len cap zs) : ∀ x, a = some x → 0 < zs.length → x.block < w.heap.size := by
  rcases h with ⟨rfl, _⟩ | ⟨x, rfl, h1, h2, h3, h4, h5⟩
  · intro x hx; cases hx
  · intro y hy hp
    cases hy
    have := h4 0 hp
    have e : x.add 0 = x := by simp [Addr.add]
    rw [e] at this
    exact World.block_lt_of_cell? _ _ this
theorem new_end {a : Option Addr} {len cap : Nat} {z : List Int} (w : World) (hb : BRow .u8 w a len cap z) (h : Int) :
    ∃ g, Ending.returned (.pointer (some ⟨w.heap.size, 0, none⟩)) = .returned (.pointer (some ⟨g, 0, none⟩)) ∧
      Cur (w.alloc (.cells #[.slice a len cap, .int .i64 0, .int .i64 h] 55)) w.heap.size g a len cap z ∧ Below w.heap.size w (w.alloc (.cells #[.slice a len cap, .int .i64 0, .int .i64 h] 55)) := by
  refine ⟨_, rfl, ⟨⟨0, by omega, ?_⟩, ⟨h, ?_⟩, ?_, ?_, ?_, hb.below (zgb (Below.refl _ _) _), Nat.le_refl _, ?_⟩, zgb (Below.refl _ _) _⟩
  · rw [World.cell?_alloc_at _ _ _ _ rfl]; rfl
  · rw [World.cell?_alloc_at _ _ _ _ rfl]; rfl
  · rw [World.cell?_alloc_at _ _ _ _ rfl]; rfl
  · exact World.frozen?_alloc_at _ _ _ _ rfl
  · exact World.frozen?_alloc_at _ _ _ _ rfl
  · intro x hx hp
    exact hb.old x hx hp
theorem l01New_any (a : Option Addr) (len cap : Nat) (z : List Int) (w : World) (hlen : len ≤ 1048576) (hb : BRow .u8 w a len cap z) :
    Calls Try.prog 16 #[.slice a len cap] w fun e w' => ∃ g, e = .returned (.pointer (some ⟨g, 0, none⟩)) ∧ Cur w' w.heap.size g a len cap z ∧ Below w.heap.size w w' := by
  go_enter Try.func16, Try.ntmps16
  go_wp2
  go_loop [3, 4] (fun h i => ∃ (k : Nat) (x : Int), k ≤ len ∧ i = .int .i64 (k : Int) ∧ h = .int .i64 x ∧ 0 ≤ x ∧ x ≤ 1073741823) (fun _ i => len - (intOf i).toNat)
  case atStart => exact ⟨0, 33117 + (len : Int), by omega, rfl, rfl, by omega, by omega⟩
  case round =>
    obtain ⟨k, x, hk, rfl, rfl, x0, x1⟩ := hrel
    by_cases hlt : k < len
    · by_cases h4 : k < 4000
      · obtain ⟨b, off, rfl, hcell, r1, r2⟩ := hb.at_facts (by omega) k hlt
        have Hb := Lib.hid hb
        clear hb
        generalize z.getD k 0 = v at *
        go_wp2
        have hr := and_range (x * 131 + v + 7) 1073741823 (by omega) (by omega)
        go_round
        case rel => exact ⟨k + 1, _, by omega, by go_num, rfl, hr.1, hr.2⟩
        case measure => simp [intOf]; omega
      · have hT : decide ((k : Int) < 4000) = false := by simp; omega
        have Hb := Lib.hid hb
        clear hb
        go_wp2
        go_ret
        exact new_end w Hb.out _
    · have hT : decide ((k : Int) < (len : Int)) = false := by simp; omega
      have Hb := Lib.hid hb
      clear hb
      go_wp2
      go_ret
      exact new_end w Hb.out _
theorem Cur.lt {w : World} {B g : Nat} {a : Option Addr} {len cap : Nat} {z : List Int} (h : Cur w B g a len cap z) : g < w.heap.size := World.block_lt_of_cell? _ _ h.2.2.1
theorem Cur.base {w : World} {B g : Nat} {a : Option Addr} {len cap : Nat} {z : List Int} (h : Cur w B g a len cap z) : B ≤ g := h.2.2.2.2.2.2.1
section
variable {P : Program} {N : Nat} {w0 : World} {l l' : List HP} {env : List (Nat × Value)} {Q : Post} {o : Oper} {ops : Array Oper} {rest : List Oper}
theorem zbs {p : Value → Prop} : ∀ u ∈ ([] : List Value), p u := fun _ h => by cases h
theorem zar {p : Value → Prop} {a : Value} {us : List Value} (h : p a) (hs : ∀ u ∈ us, p u) : ∀ u ∈ a :: us, p u := fun u hu => by
  rcases List.mem_cons.1 hu with rfl | hu
  · exact h
  · exact hs u hu
def putN (cs : Array Value) (off : Nat) : List Value → Array Value
  | [] => cs
  | u :: us => putN (cs.setIfInBounds off u) (off + 1) us
theorem list_set_self {α : Type} {l : List α} {i : Nat} {p : α} (h : l[i]? = some p) : l.set i p = l := by
  apply List.ext_getElem?
  intro j
  rw [List.getElem?_set]
  split
  · rename_i e; subst e
    split
    · exact h.symm
    · rename_i hj; rw [List.getElem?_eq_none (by omega)] at h; cases h
  · rfl
theorem run_storeN {b off : Nat} {tb : TypeId} {i : Nat} : ∀ (us : List Value) (k : Nat) (cs : Array Value) (l : List HP) (w : World), Mem w0 l w → l[i]? = some (boxE b cs tb) → (∀ u ∈ us, u.oneCell' = true) → off + k + us.length ≤ cs.size →
    ∃ w', (storeCells ⟨b, off, none⟩ us k).run P w = .ok () w' ∧ Mem w0 (l.set i (boxE b (putN cs (off + k) us) tb)) w'
  | [], k, cs, l, w, hm, hi, _, _ => ⟨w, rfl, by rw [putN, list_set_self hi]; exact hm⟩
  | u :: us, k, cs, l, w, hm, hi, h1, hlt => by
    have hlen : (u :: us).length = us.length + 1 := rfl
    have hb : w.heap[b]? = some (.cells cs tb (0, 0)) := hm.holds _ (zbw hi)
    have hst := run_store P w ⟨b, off + k, none⟩ u .plain (h1 u List.mem_cons_self)
    have hc : w.cell? ⟨b, off + k, none⟩ = some (cs[off + k]'(by omega)) := by rw [zdc hb]; exact Array.getElem?_eq_getElem (by omega)
    rw [hc] at hst
    simp only [zfr hb] at hst
    have hil : i < l.length := by
      rcases Nat.lt_or_ge i l.length with h | h
      · exact h
      · rw [List.getElem?_eq_none h] at hi; cases hi
    obtain ⟨w', hr, hm'⟩ := run_storeN (off := off) us (k + 1) (cs.setIfInBounds (off + k) u) (l.set i (boxE b (cs.setIfInBounds (off + k) u) tb)) (w.setCell ⟨b, off + k, none⟩ u) (hm.setBox hi (off + k) u) (List.getElem?_set_self hil) (fun x hx => h1 x (List.mem_cons_of_mem _ hx)) (by rw [Array.size_setIfInBounds]; omega)
    refine ⟨w', ?_, ?_⟩
    · rw [storeCells, zfk]
      simp [hst, hr]
    · rw [List.set_set] at hm'
      rw [putN]; exact hm'
theorem hl_storeBoxN {t b off i : Nat} {x y : Operand} {cs cs' : Array Value} {tb : TypeId} {us : List Value} (hd : o.dst = none) (hw : want ops env o.guard = some true) (ho : o.op = .store t x y) (hs : (P.info? t).map (·.size) = some us.length)
    (hx : ev env x = some (.pointer (some ⟨b, off, none⟩))) (hy : ev env y = some (.agg us.toArray)) (hi : l[i]? = some (boxE b cs tb)) (h1 : ∀ u ∈ us, u.oneCell' = true) (hlt : Nat.ble (off + us.length) cs.size = true) (hcs : putN cs off us = cs')
    (hl' : l.set i (boxE b cs' tb) = l') (k : HL P N ops w0 l' env rest Q) : HL P N ops w0 l env (o :: rest) Q := by
  subst hl' hcs
  exact hl_store0 hd hw (fun a w st => by
    rw [Nat.ble_eq] at hlt
    obtain ⟨w', hr, hm⟩ := run_storeN (P := P) (off := off) us 0 cs l w st.mem hi h1 (by omega)
    refine ⟨w', ?_, hm⟩
    have hce : (Value.agg us.toArray).cells = us.toArray := rfl
    simp [execOp, ho, st.eval hx, st.eval hy, Instr.storeAt, Instr.sureAddr, storeVar, hce, zez hs, hr]) k
theorem zdl {fn : Func} {R : Value → List HP → Prop} {rs : List ResultVar} {vs : List Value} {v : Value} {post : List HP} (hr : fn.results = rs.toArray) (hv : AllIs P w0 l env rs vs) (ht : tupled vs = v) (hl : post.Sublist l) (h : R v post) : HQ N w0 l env .ret (bodyPost P fn (Ret w0 R)) :=
  zex hr hv ht (fun w hm => ⟨v, post, by rw [← ht], h, hm.sub hl⟩)
end
theorem at_ans {w0 : World} {l : List HP} {a : Option Addr} {len cap : Nat} {z : List Int} (h : BRow .u8 w0 a len cap z) (i : Nat) (hi : i ≤ 1000000) (w : World) (hm : Mem w0 l w) :
    Calls Try.prog 8 #[.slice a len cap, .int .i64 (i : Int)] w (Ans w (.int .i64 (cod z len i : Nat))) := ans_of (at_any a len cap z w (h.below hm.bel) i hi)
def bigE (ps : List HP) : HP := ⟨fun k => ∃ p ∈ ps, p.foot k, fun w => (∀ p ∈ ps, p.Ok ∧ p.holds w) ∧ ps.Pairwise HP.apart⟩
theorem bigE_ok (ps : List HP) : (bigE ps).Ok := fun w w' hs hb h => ⟨fun p hp => ⟨(h.1 p hp).1, (h.1 p hp).1 w w' hs (fun b hf => hb b ⟨p, hp, hf⟩) (h.1 p hp).2⟩, h.2⟩
theorem Mem.big {w0 w : World} {ps l : List HP} (h : Mem w0 (ps ++ l) w) : Mem w0 (bigE ps :: l) w := by
  obtain ⟨a1, a2, a3⟩ := List.pairwise_append.1 h.apart
  refine ⟨h.bel, fun p hp => ?_, fun p hp => ?_, fun p hp b hf => ?_, ?_⟩
  · rcases List.mem_cons.1 hp with rfl | hp
    · exact ⟨fun p hp => ⟨h.ok p (List.mem_append_left _ hp), h.holds p (List.mem_append_left _ hp)⟩, a1⟩
    · exact h.holds p (List.mem_append_right _ hp)
  · rcases List.mem_cons.1 hp with rfl | hp
    · exact bigE_ok ps
    · exact h.ok p (List.mem_append_right _ hp)
  · rcases List.mem_cons.1 hp with rfl | hp
    · obtain ⟨q, hq, hf⟩ := hf
      exact h.new q (List.mem_append_left _ hq) b hf
    · exact h.new p (List.mem_append_right _ hp) b hf
  · refine List.pairwise_cons.2 ⟨fun q hq b hf hg => ?_, a2⟩
    obtain ⟨p, hp, hf⟩ := hf
    exact a3 p hp q hq b hf hg
theorem Mem.unbig {w0 w : World} {ps l : List HP} (h : Mem w0 (bigE ps :: l) w) : Mem w0 (ps ++ l) w := by
  obtain ⟨b1, b2⟩ := h.holds _ List.mem_cons_self
  obtain ⟨a1, a2⟩ := List.pairwise_cons.1 h.apart
  refine ⟨h.bel, fun p hp => ?_, fun p hp => ?_, fun p hp b hf => ?_, ?_⟩
  · rcases List.mem_append.1 hp with hp | hp
    · exact (b1 p hp).2
    · exact h.holds p (List.mem_cons_of_mem _ hp)
  · rcases List.mem_append.1 hp with hp | hp
    · exact (b1 p hp).1
    · exact h.ok p (List.mem_cons_of_mem _ hp)
  · rcases List.mem_append.1 hp with hp | hp
    · exact h.new _ List.mem_cons_self b ⟨p, hp, hf⟩
    · exact h.new p (List.mem_cons_of_mem _ hp) b hf
  · exact List.pairwise_append.2 ⟨b2, a2, fun p hp q hq b hf hg => a1 q hq b ⟨p, hp, hf⟩ hg⟩
def Conv (w0 : World) (l l' : List HP) : Prop := ∀ w, Mem w0 l w → Mem w0 l' w
theorem conv_big {w0 : World} {ps l : List HP} : Conv w0 (ps ++ l) (bigE ps :: l) := fun w hm => hm.big
theorem zfy {w0 : World} {ps l : List HP} : Conv w0 (bigE ps :: l) (ps ++ l) := fun w hm => hm.unbig
theorem erase_perm {α : Type} : ∀ (ps : List α) (j : Nat) (p : α), ps[j]? = some p → ps.Perm (p :: ps.eraseIdx j)
  | [], j, p, h => by simp at h
  | a :: ps, 0, p, h => by simp at h; subst h; exact .refl _
  | a :: ps, j + 1, p, h => by
    have := erase_perm ps j p (by simpa using h)
    exact (this.cons a).trans (.swap _ _ _)
section
variable {P : Program} {N : Nat} {w0 : World} {l l' : List HP} {env : List (Nat × Value)} {Q : Post} {o : Oper} {ops : Array Oper} {rest : List Oper}
theorem hl_conv (l' : List HP) (h : Conv w0 l l') (k : HL P N ops w0 l' env rest Q) : HL P N ops w0 l env rest Q := fun a w st => k a w (st.to (h w st.mem))
theorem zev (l' : List HP) {c : Code} (h : Conv w0 l l') (k : HC P N w0 l' env c Q) : HC P N w0 l env c Q := fun a w st => k a w (st.to (h w st.mem))
theorem zfi (l' : List HP) {e : Exit} (h : Conv w0 l l') (k : HQ N w0 l' env e Q) : HQ N w0 l env e Q := fun a w st => k a w (st.to (h w st.mem))
theorem zfj {f : FuncId} {fn : Func} {c : Code} {args : List Value} {w : World} {R : Ending → World → Prop} (hf : P.funcs[f]? = some fn) (hb : fn.body = some c) (hN : (fn.ntmps == N && Nat.ble args.length N) = true)
    (hm : Mem w0 l w) (h : HC P N w0 l (args.zipIdx.map fun p => (p.2, p.1)) c (bodyPost P fn R)) : Calls P f args.toArray w R := by
  simp only [Bool.and_eq_true, beq_iff_eq, Nat.ble_eq] at hN
  refine calls_of_wp hf hb (h _ w ⟨hm, ?_, rfl, fun d v hd => ?_⟩)
  · simp; omega
  · have hm := lk_mem hd
    rw [List.mem_map] at hm
    obtain ⟨p, hp, he⟩ := hm
    have := List.mem_zipIdx_iff_getElem?.1 hp
    simp only [Prod.mk.injEq] at he
    obtain ⟨rfl, rfl⟩ := he
    have hlt : p.2 < args.length := (List.getElem?_eq_some_iff.1 this).1
    rw [Array.getElem?_append_left (by simpa using hlt)]
    simpa using this
theorem hq_retMut {fn : Func} {R : Value → HP → Prop} {t : Tmp} {v : Value} {p' : HP} {L : List HP} (hr : fn.results = #[.tmp t]) (hv : lk env t = some v) (hl : (p' :: L).Sublist l) (h : R v p') : HQ N w0 l env .ret (bodyPost P fn (fun e w' => ∃ v p', e = .returned v ∧ R v p' ∧ Mem w0 (p' :: L) w')) :=
  zex (rs := [.tmp t]) (vs := [v]) hr ⟨hv, trivial⟩ rfl (fun w hm => ⟨v, p', rfl, h, hm.sub hl⟩)
end
theorem flat_len {α : Type} (f : α → List Value) (s : Nat) (hs : ∀ a, (f a).length = s) : ∀ (es : List α), (es.flatMap f).length = es.length * s
  | [] => by simp
  | a :: es => by rw [List.flatMap_cons, List.length_append, hs, flat_len f s hs es, List.length_cons, Nat.add_mul]; omega
theorem zfs {α : Type} (f : α → List Value) (s : Nat) (hs : ∀ a, (f a).length = s) : ∀ (es : List α) (d : α) {i k : Nat}, i < es.length → k < s → (es.flatMap f)[i * s + k]? = (f (es.getD i d))[k]?
  | [], d, i, k, hi, hk => by simp at hi
  | a :: es, d, 0, k, hi, hk => by
    rw [List.flatMap_cons, Nat.zero_mul, Nat.zero_add, List.getElem?_append_left (by rw [hs]; exact hk)]; rfl
  | a :: es, d, i + 1, k, hi, hk => by
    rw [List.flatMap_cons, List.getElem?_append_right (by rw [hs, Nat.add_mul]; omega), hs, show (i + 1) * s + k - s = i * s + k by rw [Nat.add_mul]; omega,
      zfs f s hs es d (by simpa using hi) hk]
    rfl
theorem zeo {α : Type} (f : α → List Value) (s : Nat) (hs : ∀ a, (f a).length = s) (es : List α) (d : α) {i : Nat} {us : List Value} (hi : i < es.length) (hu : f (es.getD i d) = us) : ∀ j u, us[j]? = some u → (es.flatMap f)[i * s + j]? = some u := fun j u hj => by
  have hl : j < us.length := (List.getElem?_eq_some_iff.1 hj).1
  rw [zfs f s hs es d hi (by rw [← hu, hs] at hl; exact hl), hu]; exact hj
theorem zbp {α : Type} {es : List α} {i : Nat} {d : α} (h : i < es.length) : es.getD i d ∈ es := by
  rw [List.getD_eq_getElem?_getD, List.getElem?_eq_getElem h]; exact List.getElem_mem h
theorem zbn {α : Type} {es : List α} {i : Nat} {d e : α} (h : i < es.length) : (es.set i e).getD i d = e := by
  rw [List.getD_eq_getElem?_getD, List.getElem?_set_self h]; rfl
theorem ints_make (n : Nat) : (madeCells (Value.int .i64 0).cells ((List.replicate n (0 : Int)).length * 1)).toList = (List.replicate n (0 : Int)).map (Value.int .i64) := by
  rw [List.length_replicate, Nat.mul_one, List.map_replicate]
  exact toList_madeCells_one _ _
theorem conv_pick {w0 : World} {src dst l : List HP} (is : List Nat) (hn : is.Nodup) (h : is.map (src[·]?) = dst.map some) : Conv w0 (src ++ l) (dst ++ l) := by
  intro w hm
  obtain ⟨a1, a2, a3⟩ := List.pairwise_append.1 hm.apart
  have hl : is.length = dst.length := by simpa using congrArg List.length h
  have hat : ∀ t (ht : t < dst.length), src[is[t]'(by omega)]? = some (dst[t]) := by
    intro t ht
    have := congrArg (fun (x : List (Option HP)) => x[t]?) h
    simp only [List.getElem?_map, List.getElem?_eq_getElem ht, List.getElem?_eq_getElem (show t < is.length by omega), Option.map_some] at this
    exact Option.some.inj this
  have hmem : ∀ p ∈ dst, p ∈ src := by
    intro p hp
    obtain ⟨t, ht, rfl⟩ := List.mem_iff_getElem.1 hp
    exact List.mem_of_getElem? (hat t ht)
  refine ⟨hm.bel, fun p hp => ?_, fun p hp => ?_, fun p hp b hf => ?_, ?_⟩
  · rcases List.mem_append.1 hp with hp | hp
    · exact hm.holds p (List.mem_append_left _ (hmem p hp))
    · exact hm.holds p (List.mem_append_right _ hp)
  · rcases List.mem_append.1 hp with hp | hp
    · exact hm.ok p (List.mem_append_left _ (hmem p hp))
    · exact hm.ok p (List.mem_append_right _ hp)
  · rcases List.mem_append.1 hp with hp | hp
    · exact hm.new p (List.mem_append_left _ (hmem p hp)) b hf
    · exact hm.new p (List.mem_append_right _ hp) b hf
  · refine List.pairwise_append.2 ⟨?_, a2, fun p hp q hq => a3 p (hmem p hp) q hq⟩
    rw [List.pairwise_iff_getElem]
    intro i j hi hj hij
    obtain ⟨hi', ei⟩ := List.getElem?_eq_some_iff.1 (hat i hi)
    obtain ⟨hj', ej⟩ := List.getElem?_eq_some_iff.1 (hat j hj)
    have hne : is[i]'(by omega) ≠ is[j]'(by omega) := (List.pairwise_iff_getElem.1 hn) i j (by omega) (by omega) hij
    have key := List.pairwise_iff_getElem.1 a1
    rw [← ei, ← ej]
    rcases Nat.lt_or_gt_of_ne hne with hlt | hlt
    · exact key _ _ hi' hj' hlt
    · exact HP.apart_symm (key _ _ hj' hi' hlt)
theorem RdsW.one {w : World} {v : Value} {s n : Nat} {cs : List Value} (h : RdsW w v s n cs) : v.oneCell' = true := by
  obtain ⟨a, cap, rfl, _⟩ := h; rfl
section
variable {P : Program} {N : Nat} {w0 : World} {l l' : List HP} {env : List (Nat × Value)} {Q : Post} {ops : Array Oper} {rest : List Oper}
theorem hl_one {i e s n : Nat} {v : Value} {xs : List Value} (hi : l[i]? = some (rowE e s v n xs)) (k : v.oneCell' = true → HL P N ops w0 l env rest Q) : HL P N ops w0 l env rest Q := fun a w st => k (zcz (st.mem.holds _ (zbw hi))).one a w st
theorem hl_know {p : Prop} (h : ∀ w, Mem w0 l w → p) (k : p → HL P N ops w0 l env rest Q) : HL P N ops w0 l env rest Q := fun a w st => k (h w st.mem) a w st
end
theorem rv_bneq {P : Program} {N : Nat} {w0 : World} {l : List HP} {env : List (Nat × Value)} {o : Oper} {t t' : TypeId} {x y : Operand} {m n : Bool} (ho : o.op = .binOp .neq t x y t') (hb : P.underlying t = some .bool) (hx : ev env x = some (.bool m)) (hy : ev env y = some (.bool n)) : RunV P N w0 l env o (.bool (m != n)) := fun a w st => by
  have h := run_equalIn_bool' w 9999 t m n hb
  have h2 : (Op.equal t (.bool m) (.bool n)).run P w = .ok (m == n) w := h
  simp [execOp, ho, st.eval hx, st.eval hy, eqGuard, binOp, h2, bne]
theorem zfh {α : Type} (f : α → List Value) (s : Nat) (hs : ∀ a, (f a).length = s) (d : α) (z : Array Value) (hz : z.toList = f d) (n : Nat) : (madeCells z ((List.replicate n d).length * s)).toList = (List.replicate n d).flatMap f := by
  have hsz : z.size = s := by rw [← hs d, ← hz]; simp
  apply List.ext_getElem?
  intro j
  rw [List.length_replicate]
  by_cases hj : j < n * s
  · have hs0 : 0 < s := by rcases Nat.eq_zero_or_pos s with h | h; (subst h; omega); exact h
    have hi : j / s < n := Nat.div_lt_of_lt_mul (by rw [Nat.mul_comm]; exact hj)
    have hm : j % s < s := Nat.mod_lt _ hs0
    have e : j = j / s * s + j % s := by rw [Nat.mul_comm]; exact (Nat.div_add_mod j s).symm
    have h2 := zfs f s hs (List.replicate n d) d (i := j / s) (k := j % s) (by rw [List.length_replicate]; exact hi) hm
    rw [← e] at h2
    rw [h2]
    have h3 : (List.replicate n d).getD (j / s) d = d := by rw [List.getD_eq_getElem?_getD, List.getElem?_replicate]; split <;> rfl
    rw [h3, ← hz]
    have hlt : j < (madeCells z (n * s)).toList.length := by simpa [size_madeCells] using hj
    rw [List.getElem?_eq_getElem hlt]
    simp only [madeCells, Array.toList_map, List.getElem_map, Array.toList_range, List.getElem_range, hsz]
    rw [getElem!_pos z (j % s) (by omega), Array.getElem?_toList, Array.getElem?_eq_getElem (by omega)]
  · rw [List.getElem?_eq_none (by simpa [size_madeCells] using hj), List.getElem?_eq_none (by rw [flat_len f s hs, List.length_replicate]; omega)]
def tauOk (os : List Oper) (m : Nat) (dps qd : List (List Nat)) (tau : List (Option Nat)) (fl : List Nat) : Bool :=
  (List.range m).all (fun i => (qd.getD i []).all (fun j => (dps.getD i []).contains j && (List.range m).all (fun k => tau.getD k none != some j)) && decide ((qd.getD i []).Nodup)) &&
  (List.range m).all (fun i => match tau.getD i none with | none => true | some h => (h == os.length || (dps.getD i []).contains h) && (List.range m).all (fun k => k == i || tau.getD k none != some h)) &&
  fl.all (fun j => (Nat.blt j m || j == os.length) && (List.range m).all (fun k => tau.getD k none != some j)) && decide fl.Nodup
def RunM (P : Program) (N : Nat) (w0 : World) (C X : List HP) (env : List (Nat × Value)) (o : Oper) (R : Value → List HP → Prop) : Prop :=
  ∀ L, (∀ w, Mem w0 L w → Mem w0 X w) → ∀ a w, St N w0 (C ++ L) env a w → ∀ (Q : Post) (K : Act → World → Prop), (∀ v post w', R v post → Mem w0 (post ++ L) w' → K (a.put o.dst v) w') → o.wp P a w K Q
def OblM (P : Program) (ops : Array Oper) (N : Nat) (w0 : World) (C X : List HP) (env : List (Nat × Value)) (o : Oper) (R : Value → List HP → Prop) : Prop :=
  (want ops env o.guard = some true ∧ RunM P N w0 C X env o R) ∨ (want ops env o.guard = some false ∧ R undef C)
def Obl2 (P : Program) (ops : Array Oper) (N : Nat) (w0 : World) (t : Option Nat) (pf : Nat → List HP) (X : List HP) (env : List (Nat × Value)) (o : Oper) (R : Value → List HP → Prop) : Prop := match t with
  | none => Obl P ops N w0 X env o R
  | some h => OblM P ops N w0 (pf h) X env o R
section
variable {P : Program} {N : Nat} {w0 : World} {l : List HP} {env : List (Nat × Value)} {Q : Post} {os : List Oper} {m : Nat} {dps : List (List Nat)} {dsts : List Nat} {R : Nat → List Value → Value → List HP → Prop}
structure Mid2 (N : Nat) (w0 : World) (l : List HP) (env : List (Nat × Value)) (os : List Oper) (m : Nat) (dps : List (List Nat)) (dsts : List Nat) (R : Nat → List Value → Value → List HP → Prop) (tau : List (Option Nat)) (P0 : List HP) (listed : Array Bool) (ord held : List Nat) (vf : Nat → Value) (pf : Nat → List HP) (a : Act) (w : World) : Prop where
  size : listed.size = os.length
  iff : ∀ i, i < os.length → (listed.getD i true = true ↔ i ∈ ord)
  low : ∀ i ∈ ord, i < m
  closed : ∀ i ∈ ord, ∀ j ∈ depsOf os i, j ∈ ord
  nodup : ord.Nodup
  dcl : ∀ i ∈ ord, ∀ j ∈ dps.getD i [], j ∈ ord
  rel : ∀ i ∈ ord, R i ((dps.getD i []).map vf) (vf i) (pf i)
  hn : held.Nodup
  hin : ∀ i ∈ held, i ∈ ord ∨ i = os.length
  hall : ∀ i, (i ∈ ord ∨ i = os.length) → (∀ j ∈ ord, tau.getD j none ≠ some i) → i ∈ held
  hP : pf os.length = P0
  mem : Mem w0 (held.flatMap pf ++ l) w
  asize : a.tmps.size = N
  defers : a.defers = []
  env : ∀ d v, lk env d = some v → a.tmps[d]? = some v
  slots : ∀ i ∈ ord, ∀ d, dsts[i]? = some d → a.tmps[d]? = some (vf i)
theorem Mid2.st {tau P0 listed ord held vf pf a w} (h : Mid2 N w0 l env os m dps dsts R tau P0 listed ord held vf pf a w) (hm : m ≤ dsts.length) {is : List Nat} (hs : ∀ j ∈ is, j ∈ ord) {L : List HP} (hM : Mem w0 L w) : St N w0 L (envOf dsts vf is ++ env) a w := by
  refine ⟨hM, h.asize, h.defers, fun d v hd => ?_⟩
  rcases lk_append _ _ _ _ hd with h1 | h1
  · unfold envOf at h1
    rw [List.mem_map] at h1
    obtain ⟨i, hi, he⟩ := h1
    have hio := hs i hi
    have hlt := h.low i hio
    have : dsts[i]? = some (dsts.getD i 0) := by rw [List.getD_eq_getElem?_getD, List.getElem?_eq_getElem (by omega)]; rfl
    simp only [Prod.mk.injEq] at he
    obtain ⟨rfl, rfl⟩ := he
    exact h.slots i hio _ this
  · exact h.env d v h1
theorem hc_drawn2 {id : Nat} (hmix : P.follows .mixedOrders = true) (m : Nat) (dps : List (List Nat)) (dsts : List Nat) (R : Nat → List Value → Value → List HP → Prop) (qd : List (List Nat)) (tau : List (Option Nat)) (P0 : List HP) (fl : List Nat) (hok : drawOk os m dps dsts = true) (htau : tauOk os m dps qd tau fl = true) (hfresh : dsts.all (fun d => (lk env d).isNone) = true) (hN : dsts.all (fun d => Nat.blt d N) = true)
    (due : ∀ i o, os[i]? = some o → i < m → ∀ vf pf, pf os.length = P0 → (∀ j ∈ dps.getD i [], R j ((dps.getD j []).map vf) (vf j) (pf j)) → Obl2 P os.toArray N w0 (tau.getD i none) pf ((qd.getD i []).flatMap pf ++ l) (envOf dsts vf (dps.getD i []) ++ env) o (R i ((dps.getD i []).map vf)))
    (fin : ∀ vf pf, pf os.length = P0 → (∀ i, i < m → R i ((dps.getD i []).map vf) (vf i) (pf i)) → HL P N os.toArray w0 (fl.flatMap pf ++ l) (envOf dsts vf (List.range m) ++ env) (os.drop m) Q) : HC P N w0 (P0 ++ l) env (.region id os.toArray true) Q := by
  intro a w st
  refine wp_region_any hmix ?_
  simp only [drawOk, Bool.and_eq_true, Nat.ble_eq, List.all_eq_true, List.mem_range, Bool.or_eq_true, Nat.blt_eq, beq_iff_eq, decide_eq_true_eq, Array.all_eq_true'] at hok
  obtain ⟨⟨⟨⟨⟨⟨hml, hback⟩, hcov⟩, hready⟩, hdst⟩, hdn⟩, hdp⟩ := hok
  simp only [tauOk, Bool.and_eq_true, List.all_eq_true, List.mem_range, Bool.or_eq_true, Nat.blt_eq, beq_iff_eq, bne_iff_ne, decide_eq_true_eq, List.contains_iff_mem] at htau
  obtain ⟨⟨⟨hqd, hth⟩, hfl⟩, hfn⟩ := htau
  have hml' : m ≤ dsts.length := by have := congrArg List.length hdst; simp at this; omega
  have hlen : dsts.length = m := by have := congrArg List.length hdst; simp at this; omega
  have hrdy : ∀ k, m ≤ k → k < os.length → Region.ready .any os.toArray (preT os.length k) = [k] := fun k h1 h2 => by
    have := hready (k - m) (by omega)
    rw [show m + (k - m) = k by omega] at this
    exact this
  have hmsk : ∀ i j, ((msk ((List.range os.length).map (depsOf os)) []).getD i 0).testBit j = true → Dep os i j := msk_dep os _ _ (fun t ds ht d hd => by
    rw [List.getElem?_map] at ht
    by_cases h : t < os.length
    · rw [List.getElem?_range h] at ht; simp at ht; subst ht; simpa using hd
    · rw [List.getElem?_eq_none (by simp; omega)] at ht; cases ht) (fun i j h => by simp at h)
  have dstAt : ∀ i, i < m → ∀ o, os[i]? = some o → o.dst = some (dsts.getD i 0) := fun i hi o ho => by
    have h1 : ((os.take m).map (·.dst))[i]? = some o.dst := by rw [List.getElem?_map, List.getElem?_take, if_pos hi, ho]; rfl
    rw [hdst, List.getElem?_map] at h1
    rw [List.getD_eq_getElem?_getD]
    rw [List.getElem?_eq_getElem (by omega)] at h1 ⊢
    simp at h1 ⊢
    exact h1.symm
  -- what may come up
  have key : ∀ (f : Nat) (listed : Array Bool) (ord held : List Nat) (vf : Nat → Value) (pf : Nat → List HP) (a : Act) (w : World), f + ord.length = os.length → Mid2 N w0 l env os m dps dsts R tau P0 listed ord held vf pf a w → wpAny P .any os.toArray Q f listed a w := by
    intro f
    induction f with
    | zero =>
      intro listed ord held vf pf a w hf h
      -- all are listed: m = the length
      have hall : ∀ i, i < os.length → i ∈ ord := by
        intro i hi
        have hsub : ord.Perm (List.range os.length) ∨ True := .inr trivial
        obtain ⟨r, hr⟩ := zdq ord (List.range os.length) h.nodup (fun j hj => by have := h.low j hj; simp; omega)
        have hl := hr.length_eq
        simp at hl
        have : r = [] := List.length_eq_zero_iff.1 (by omega)
        subst this
        have := hr.mem_iff.1 (List.mem_range.2 hi)
        simpa using this
      have hm2 : m = os.length := by
        by_cases hc : m < os.length
        · have := h.low m (hall m hc); omega
        · omega
      have hp : listed = preT os.length m := by
        apply Array.ext
        · rw [h.size, zdp _ _ hml]
        · intro i h1 h2
          have hi : i < os.length := by rw [h.size] at h1; exact h1
          have e1 := (h.iff i hi).2 (hall i hi)
          have e2 := zfb os.length m i hml hi
          rw [Array.getD_eq_getD_getElem?, Array.getElem?_eq_getElem h1] at e1
          rw [Array.getD_eq_getD_getElem?, Array.getElem?_eq_getElem h2] at e2
          simp only [Option.getD_some] at e1 e2
          rw [e1, e2]; simp; omega
      rw [hp]
      refine tail_any hrdy 0 m (Nat.le_refl _) (by omega) a w ?_
      exact fin vf pf h.hP (fun i hi => h.rel i (hall i (by omega))) a w (h.st hml' (fun j hj => hall j (by rw [List.mem_range] at hj; omega)) (h.mem.pick hfn (fun j hj => h.hall j ((hfl j hj).1.imp (fun hlt => hall j (by omega)) (fun x => x)) (fun k hk => (hfl j hj).2 k (h.low k hk)))))
    | succ f ih =>
      intro listed ord held vf pf a w hf h
      by_cases hall : ∀ i, i < m → i ∈ ord
      · -- the tail's turn
        have hp : listed = preT os.length m := by
          apply Array.ext
          · rw [h.size, zdp _ _ hml]
          · intro i h1 h2
            have hi : i < os.length := by rw [h.size] at h1; exact h1
            have e1 := h.iff i hi
            have e2 := zfb os.length m i hml hi
            rw [Array.getD_eq_getD_getElem?, Array.getElem?_eq_getElem h1] at e1
            rw [Array.getD_eq_getD_getElem?, Array.getElem?_eq_getElem h2] at e2
            simp only [Option.getD_some] at e1 e2
            rw [e2, Bool.eq_iff_iff, e1, decide_eq_true_eq]
            exact ⟨fun hx => h.low i hx, fun hx => hall i hx⟩
        have hord : ord.length = m := by
          obtain ⟨r, hr⟩ := zdq ord (List.range m) h.nodup (fun j hj => by have := h.low j hj; simpa using this)
          obtain ⟨r', hr'⟩ := zdq (List.range m) ord List.nodup_range (fun j hj => hall j (by simpa using hj))
          have h1 := hr.length_eq
          have h2 := hr'.length_eq
          simp at h1 h2
          omega
        rw [hp]
        refine tail_any hrdy (f + 1) m (Nat.le_refl _) (by omega) a w ?_
        exact fin vf pf h.hP (fun i hi => h.rel i (hall i hi)) a w (h.st hml' (fun j hj => hall j (by simpa using hj)) (h.mem.pick hfn (fun j hj => h.hall j ((hfl j hj).1.imp (fun hlt => hall j hlt) (fun x => x)) (fun k hk => (hfl j hj).2 k (h.low k hk)))))
      · -- some quiet one is not done yet
        have hsome : ∃ i, i < m ∧ i ∉ ord := by
          by_cases hx : ∃ i, i < m ∧ i ∉ ord
          · exact hx
          · exact absurd (fun i hi => Decidable.byContradiction fun hn => hx ⟨i, hi, hn⟩) hall
        have mem_rdy : ∀ i, i ∈ Region.ready .any os.toArray listed ↔ i < os.length ∧ i ∉ ord ∧ ∀ j ∈ depsOf os i, j ∈ ord := by
          intro i
          unfold Region.ready
          rw [List.mem_filter, List.mem_range]
          simp only [List.size_toArray]
          constructor
          · rintro ⟨hi, hb⟩
            rw [Bool.and_eq_true] at hb
            have hno : i ∉ ord := fun hx => by rw [(h.iff i hi).2 hx] at hb; simp at hb
            refine ⟨hi, hno, fun j hj => ?_⟩
            have ho : os.toArray[i]? = some os[i] := by simp [hi]
            rw [ho] at hb
            simp only [Option.map_some, Option.getD_some, Array.all_eq_true'] at hb
            unfold depsOf at hj
            rw [List.getElem?_eq_getElem hi] at hj
            simp only [List.mem_map, List.mem_filter] at hj
            obtain ⟨e, ⟨he, hbd⟩, rfl⟩ := hj
            have hb2 := hb.2 e (by simpa using he)
            rw [hbd] at hb2
            simp at hb2
            have hlt := hback i hi e.on (by unfold depsOf; rw [List.getElem?_eq_getElem hi]; exact List.mem_map.2 ⟨e, List.mem_filter.2 ⟨he, hbd⟩, rfl⟩)
            refine (h.iff e.on (by omega)).1 ?_
            have hs : e.on < listed.size := by rw [h.size]; omega
            rw [Array.getD_eq_getD_getElem?, Array.getElem?_eq_getElem hs] 
            simp only [Option.getD_some]
            rw [Array.getElem?_eq_getElem hs] at hb2
            simpa using hb2
          · rintro ⟨hi, hno, hd⟩
            refine ⟨hi, ?_⟩
            have ho : os.toArray[i]? = some os[i] := by simp [hi]
            rw [ho]
            simp only [Option.map_some, Option.getD_some, Bool.and_eq_true, Array.all_eq_true']
            refine ⟨?_, fun e he => ?_⟩
            · cases hb : listed.getD i true with
              | true => exact absurd ((h.iff i hi).1 hb) hno
              | false => rfl
            · rw [Bool.or_eq_true]
              by_cases hbd : Region.binds .any e = true
              rotate_left
              · left; simpa using hbd
              right
              have hon : e.on ∈ depsOf os i := by unfold depsOf; rw [List.getElem?_eq_getElem hi]; exact List.mem_map.2 ⟨e, List.mem_filter.2 ⟨by simpa using he, hbd⟩, rfl⟩
              have hlt := hback i hi e.on hon
              have := (h.iff e.on (by omega)).2 (hd e.on hon)
              have hs : e.on < listed.size := by rw [h.size]; omega
              rw [Array.getD_eq_getD_getElem?, Array.getElem?_eq_getElem hs] at this
              simp only [Option.getD_some] at this
              rw [Array.getD_eq_getD_getElem?, Array.getElem?_eq_getElem hs]
              simpa using this
        have hdep : ∀ k j, Dep os k j → (∀ d ∈ depsOf os k, d ∈ ord) → j ∈ ord := by
          intro k j hd
          induction hd with
          | one hj => intro hx; exact hx _ hj
          | more hk _ ih2 => intro hx; exact ih2 (fun d hd => h.closed _ (hx _ hk) d hd)
        have hlow : ∀ i ∈ Region.ready .any os.toArray listed, i < m := by
          intro i hi
          obtain ⟨h1, h2, h3⟩ := (mem_rdy i).1 hi
          by_cases hc : i < m
          · exact hc
          · exfalso
            obtain ⟨q, hq, hqn⟩ := hsome
            rcases hcov i h1 with h4 | h4
            · exact hc h4
            · exact hqn (hdep i q (hmsk i q (h4 q hq)) h3)
        refine ⟨fun h0 => ?_, fun i hi => ?_⟩
        · -- the least one that is not done may come up
          exfalso
          obtain ⟨q, hq, hqn⟩ := hsome
          obtain ⟨p, hp, hmin⟩ := exists_least (p := fun i => i < m ∧ i ∉ ord) ⟨q, hq, hqn⟩
          have : p ∈ Region.ready .any os.toArray listed := by
            rw [mem_rdy]
            refine ⟨by omega, hp.2, fun j hj => ?_⟩
            have hlt := hback p (by omega) j hj
            apply Decidable.byContradiction
            intro hn
            have := hmin j ⟨by omega, hn⟩
            omega
          rw [h0] at this
          cases this
        · have him := hlow i hi
          obtain ⟨h1, h2, h3⟩ := (mem_rdy i).1 hi
          have ho : os[i]? = some os[i] := List.getElem?_eq_getElem h1
          have hdps := hdp i him
          have hsub : ∀ j ∈ dps.getD i [], j ∈ ord := fun j hj => hdep i j (hmsk i j (hdps.1 j hj)) h3
          have hqi := hqd i him
          have hqheld : ∀ j ∈ qd.getD i [], j ∈ held := fun j hj => h.hall j (.inl (hsub j ((hqi.1 j hj).1))) (fun k hk => (hqi.1 j hj).2 k (h.low k hk))
          have hobl := due i os[i] ho him vf pf h.hP (fun j hj => h.rel j (hsub j hj))
          have hdd := dstAt i him _ ho
          have hdlt : dsts.getD i 0 < N := by
            have := List.all_eq_true.1 hN (dsts.getD i 0) (by rw [List.getD_eq_getElem?_getD, List.getElem?_eq_getElem (by omega)]; exact List.getElem_mem _)
            simpa [Nat.blt_eq] using this
          have hdnone : lk env (dsts.getD i 0) = none := by
            have := List.all_eq_true.1 hfresh (dsts.getD i 0) (by rw [List.getD_eq_getElem?_getD, List.getElem?_eq_getElem (by omega)]; exact List.getElem_mem _)
            simpa using this
          have hne : ∀ j ∈ ord, j ≠ i := fun j hj e => h2 (e ▸ hj)
          have hneh : ∀ j ∈ held, j ≠ i := fun j hj e => by
            rcases h.hin j hj with h5 | h5
            · exact hne j h5 e
            · omega
          have next : ∀ (held' : List Nat) v post w', held'.Nodup → (∀ k ∈ held', k ∈ i :: ord ∨ k = os.length) → (∀ k, (k ∈ i :: ord ∨ k = os.length) → (∀ j ∈ i :: ord, tau.getD j none ≠ some k) → k ∈ held') → R i ((dps.getD i []).map vf) v post →
              Mem w0 (held'.flatMap (fun k => if k = i then post else pf k) ++ l) w' → wpAny P .any os.toArray Q f (listed.setIfInBounds i true) (a.put (some (dsts.getD i 0)) v) w' := by
            intro held' v post w' hh1 hh2 hh3 hv hm
            refine ih (listed.setIfInBounds i true) (i :: ord) held' (fun k => if k = i then v else vf k) (fun k => if k = i then post else pf k) _ w' (by simp; omega) ⟨?_, ?_, ?_, ?_, ?_, ?_, ?_, hh1, hh2, hh3, ?_, hm, ?_, ?_, ?_, ?_⟩
            · simp [h.size]
            · intro k hk
              by_cases hki : k = i
              · subst hki
                have hs : k < listed.size := by rw [h.size]; exact hk
                simp [Array.getD_eq_getD_getElem?, hs]
              · rw [getD_set_ne true (fun e => hki e.symm), h.iff k hk]
                simp [hki]
            · intro k hk; rcases List.mem_cons.1 hk with rfl | hk; exact him; exact h.low k hk
            · intro k hk j hj
              rcases List.mem_cons.1 hk with rfl | hk
              · exact List.mem_cons_of_mem _ (h3 j hj)
              · exact List.mem_cons_of_mem _ (h.closed k hk j hj)
            · exact List.nodup_cons.2 ⟨h2, h.nodup⟩
            · intro k hk j hj
              rcases List.mem_cons.1 hk with rfl | hk
              · exact List.mem_cons_of_mem _ (hsub j hj)
              · exact List.mem_cons_of_mem _ (h.dcl k hk j hj)
            · intro k hk
              rcases List.mem_cons.1 hk with rfl | hk
              · have e : (dps.getD k []).map (fun j => if j = k then v else vf j) = (dps.getD k []).map vf := List.map_congr_left fun j hj => if_neg (hne j (hsub j hj))
                rw [e, if_pos rfl, if_pos rfl]; exact hv
              · have e : (dps.getD k []).map (fun j => if j = i then v else vf j) = (dps.getD k []).map vf := List.map_congr_left fun j hj => if_neg (hne j (h.dcl k hk j hj))
                rw [e, if_neg (hne k hk), if_neg (hne k hk)]; exact h.rel k hk
            · rw [if_neg (by omega)]; exact h.hP
            · simp [Act.put, h.asize]
            · exact h.defers
            · intro d u hd
              have hdne : dsts.getD i 0 ≠ d := fun e => by rw [← e, hdnone] at hd; cases hd
              simp only [Act.put]
              rw [Array.getElem?_setIfInBounds_ne hdne]
              exact h.env d u hd
            · intro k hk d hd
              have hlt : dsts.getD i 0 < a.tmps.size := by rw [h.asize]; exact hdlt
              rcases List.mem_cons.1 hk with rfl | hk
              · have : d = dsts.getD k 0 := by rw [List.getD_eq_getElem?_getD, hd]; rfl
                subst this
                simp only [Act.put, if_true]
                simp only [Array.getElem?_setIfInBounds_self_of_lt hlt]
              · have hdne : dsts.getD i 0 ≠ d := by
                  intro e
                  have hi2 : dsts[i]? = some d := by rw [← e, List.getD_eq_getElem?_getD, List.getElem?_eq_getElem (by omega)]; rfl
                  have hk2 : k < dsts.length := (List.getElem?_eq_some_iff.1 hd).1
                  have := (List.getElem?_inj hk2 hdn).1 (hd.trans hi2.symm)
                  exact hne k hk this
                simp only [Act.put]
                rw [Array.getElem?_setIfInBounds_ne hdne, if_neg (hne k hk)]
                exact h.slots k hk d hd
          unfold wpOp
          have hoa : os.toArray[i]? = some os[i] := by simp [h1]
          rw [hoa]
          simp only
          have hpost : ∀ (hs : List Nat) (post : List HP), (∀ k ∈ hs, k ≠ i) → (i :: hs).flatMap (fun k => if k = i then post else pf k) = post ++ hs.flatMap pf := fun hs post hx => by
            rw [List.flatMap_cons, if_pos rfl]
            congr 1
            rw [List.flatMap_def, List.flatMap_def]
            congr 1
            exact List.map_congr_left fun k hk => if_neg (hx k hk)
          cases ht : tau.getD i none with
          | none =>
            rw [ht] at hobl
            have hst := h.st hml' hsub (h.mem.pick hqi.2 hqheld)
            have next1 : ∀ v post w', R i ((dps.getD i []).map vf) v post → Mem w post w' → wpAny P .any os.toArray Q f (listed.setIfInBounds i true) (a.put (some (dsts.getD i 0)) v) w' := fun v post w' hv hm => by
              refine next (i :: held) v post w' (List.nodup_cons.2 ⟨fun hx => hneh i hx rfl, h.hn⟩) (fun k hk => ?_) (fun k hk hk2 => ?_) hv ?_
              · rcases List.mem_cons.1 hk with rfl | hk
                · exact .inl List.mem_cons_self
                · exact (h.hin k hk).imp (List.mem_cons_of_mem _) (fun x => x)
              · by_cases hki : k = i
                · rw [hki]; exact List.mem_cons_self
                · refine List.mem_cons_of_mem _ (h.hall k (hk.imp (fun hx => by rcases List.mem_cons.1 hx with hx | hx; exact absurd hx hki; exact hx) (fun x => x)) (fun j hj => hk2 j (List.mem_cons_of_mem _ hj)))
              · rw [hpost held post hneh, List.append_assoc]; exact h.mem.app hm
            rcases hobl with ⟨hw, hq⟩ | ⟨hw, hq⟩
            · rw [if_pos (hst.wanted hw)]
              refine .inl (hq a w hst Q _ fun v post w' hv hm => ?_)
              rw [hdd]
              exact next1 v post w' hv hm
            · rw [if_neg (by rw [hst.wanted hw]; decide), hdd]
              exact next1 undef [] w hq (Mem.refl w)
          | some hh =>
            rw [ht] at hobl
            have hth2 := hth i him
            rw [ht] at hth2
            simp only [Bool.and_eq_true, Bool.or_eq_true, beq_iff_eq, List.all_eq_true, List.mem_range, bne_iff_ne, List.contains_iff_mem] at hth2
            have hheld : hh ∈ held := h.hall hh (hth2.1.symm.imp (fun hx => hsub hh hx) (fun x => x)) (fun k hk => (hth2.2 k (h.low k hk)).resolve_left (hne k hk))
            have hperm := List.perm_cons_erase hheld
            have hmem : Mem w0 (pf hh ++ ((held.erase hh).flatMap pf ++ l)) w := by
              have := h.mem.perm ((hperm.flatMap_right pf).append_right l)
              rwa [List.flatMap_cons, List.append_assoc] at this
            have hnin : hh ∉ qd.getD i [] := fun hx => (hqi.1 hh hx).2 i him ht
            have hconv : ∀ w, Mem w0 ((held.erase hh).flatMap pf ++ l) w → Mem w0 ((qd.getD i []).flatMap pf ++ l) w := fun w hm => hm.pick hqi.2 (fun j hj => (List.mem_erase_of_ne (fun (e : j = hh) => hnin (by rw [← e]; exact hj))).2 (hqheld j hj))
            have hst := h.st hml' hsub hmem
            have hneh2 : ∀ k ∈ held.erase hh, k ≠ i := fun k hk => hneh k (List.mem_of_mem_erase hk)
            have next2 : ∀ v post w', R i ((dps.getD i []).map vf) v post → Mem w0 (post ++ ((held.erase hh).flatMap pf ++ l)) w' → wpAny P .any os.toArray Q f (listed.setIfInBounds i true) (a.put (some (dsts.getD i 0)) v) w' := fun v post w' hv hm => by
              refine next (i :: held.erase hh) v post w' (List.nodup_cons.2 ⟨fun hx => hneh2 i hx rfl, h.hn.erase hh⟩) (fun k hk => ?_) (fun k hk hk2 => ?_) hv ?_
              · rcases List.mem_cons.1 hk with rfl | hk
                · exact .inl List.mem_cons_self
                · exact (h.hin k (List.mem_of_mem_erase hk)).imp (List.mem_cons_of_mem _) (fun x => x)
              · by_cases hki : k = i
                · rw [hki]; exact List.mem_cons_self
                · have hkh : k ≠ hh := fun e => hk2 i List.mem_cons_self (by rw [ht, e])
                  exact List.mem_cons_of_mem _ ((List.mem_erase_of_ne hkh).2 (h.hall k (hk.imp (fun hx => by rcases List.mem_cons.1 hx with hx | hx; exact absurd hx hki; exact hx) (fun x => x)) (fun j hj => hk2 j (List.mem_cons_of_mem _ hj))))
              · rw [hpost _ post hneh2, List.append_assoc]; exact hm
            rcases hobl with ⟨hw, hq⟩ | ⟨hw, hq⟩
            · rw [if_pos (hst.wanted hw)]
              refine .inl (hq _ hconv a w hst Q _ fun v post w' hv hm => ?_)
              rw [hdd]
              exact next2 v post w' hv hm
            · rw [if_neg (by rw [hst.wanted hw]; decide), hdd]
              exact next2 undef (pf hh) w hq hmem
  refine key os.length (Array.replicate os.length false) [] [os.length] (fun _ => undef) (fun k => if k = os.length then P0 else []) a _ (by simp) ⟨by simp, ?_, by simp, by simp, by simp, by simp, by simp, by simp, by simp, fun i hi _ => by rcases hi with hi | hi; (cases hi); (rw [hi]; exact List.mem_singleton_self _), by simp, ?_, st.size, st.defers, st.env, by simp⟩
  · intro i hi; simp [hi]
  · have e : ([os.length] : List Nat).flatMap (fun k => if k = os.length then P0 else []) ++ l = P0 ++ l := by simp
    rw [e]; exact st.mem.drawn _
def Dues2 (P : Program) (ops : Array Oper) (N : Nat) (w0 : World) (l : List HP) (env : List (Nat × Value)) (P0 : List HP) (mu : Nat) (dsts : List Nat) (all qall : List (List Nat)) (tau : List (Option Nat)) (R : Nat → List Value → Value → List HP → Prop) : Nat → List (List Nat) → List Oper → Prop
  | _, _, [] => True
  | k, dss, o :: os => (∀ (vf : Nat → Value) (pf : Nat → List HP), pf mu = P0 → (∀ j ∈ all.getD k [], R j ((all.getD j []).map vf) (vf j) (pf j)) → Obl2 P ops N w0 (tau.getD k none) pf ((qall.getD k []).flatMap pf ++ l) (envOf dsts vf (all.getD k []) ++ env) o (R k ((all.getD k []).map vf))) ∧ Dues2 P ops N w0 l env P0 mu dsts all qall tau R (k + 1) dss os
theorem dues2_at {P : Program} {ops : Array Oper} {N : Nat} {w0 : World} {l : List HP} {env : List (Nat × Value)} {P0 : List HP} {mu : Nat} {dsts : List Nat} {all qall : List (List Nat)} {tau : List (Option Nat)} {R : Nat → List Value → Value → List HP → Prop} : ∀ (os : List Oper) (dss : List (List Nat)) (k : Nat), Dues2 P ops N w0 l env P0 mu dsts all qall tau R k dss os → ∀ i o, os[i]? = some o → ∀ vf pf, pf mu = P0 → (∀ j ∈ all.getD (k + i) [], R j ((all.getD j []).map vf) (vf j) (pf j)) → Obl2 P ops N w0 (tau.getD (k + i) none) pf ((qall.getD (k + i) []).flatMap pf ++ l) (envOf dsts vf (all.getD (k + i) []) ++ env) o (R (k + i) ((all.getD (k + i) []).map vf))
  | [], _, _, _, i, o, ho, _, _, _, _ => by simp at ho
  | o' :: os, dss, k, h, 0, o, ho, vf, pf, hP, hR => by simp at ho; subst ho; exact h.1 vf pf hP hR
  | o' :: os, dss, k, h, i + 1, o, ho, vf, pf, hP, hR => by
    have e : k + 1 + i = k + (i + 1) := by omega
    have := dues2_at os dss (k + 1) h.2 i o (by simpa using ho) vf pf hP (by rw [e]; exact hR)
    rwa [e] at this
theorem zfo {id : Nat} (hmix : P.follows .mixedOrders = true) (m : Nat) (qs : List Nat) (quiet tail : List Oper) (dps : List (List Nat)) (dsts : List Nat) (R : Nat → List Value → Value → List HP → Prop) (qd : List (List Nat)) (tau : List (Option Nat)) (P0 : List HP) (fl : List Nat) (mu : Nat)
    (hos : os = quiet ++ tail) (hq : (Nat.beq quiet.length m && (List.range m == qs) && Nat.beq os.length mu) = true) (hok : drawOk os m dps dsts = true) (htau : tauOk os m dps qd tau fl = true) (hfresh : dsts.all (fun d => (lk env d).isNone) = true) (hN : dsts.all (fun d => Nat.blt d N) = true)
    (due : Dues2 P os.toArray N w0 l env P0 mu dsts dps qd tau R 0 [] quiet)
    (fin : ∀ vf pf, pf mu = P0 → (∀ i, i < m → R i ((dps.getD i []).map vf) (vf i) (pf i)) → HL P N os.toArray w0 (fl.flatMap pf ++ l) (envOf dsts vf qs ++ env) tail Q) : HC P N w0 (P0 ++ l) env (.region id os.toArray true) Q := by
  simp only [Bool.and_eq_true, Nat.beq_eq, beq_iff_eq] at hq
  obtain ⟨⟨hq1, hq2⟩, hq3⟩ := hq
  refine hc_drawn2 hmix m dps dsts R qd tau P0 fl hok htau hfresh hN (fun i o ho hi vf pf hP hR => ?_) (fun vf pf hP hR => ?_)
  · have ho' : quiet[i]? = some o := by rw [hos, List.getElem?_append_left (by omega)] at ho; exact ho
    have := dues2_at quiet [] 0 due i o ho' vf pf (by rw [← hq3]; exact hP) (by rw [Nat.zero_add]; exact hR)
    rwa [Nat.zero_add] at this
  · rw [hq2, hos, List.drop_left' hq1, ← hos]; exact fin vf pf (by rw [← hq3]; exact hP) hR
theorem zdm {f : FuncId} {xs : Array Operand} {ats : Array TypeId} {vs : List Value} {p : HP} {X : List HP} {R : Value → HP → Prop} {ty : TypeId} {pos : String} {af : Array Edge} {gd : Option (Nat × Bool)} {ds : Option Nat} (hgo : goesB P f = true) (hvs : evs env xs.toList = some vs)
    (hc : ∀ L w, (∀ w, Mem w0 L w → Mem w0 X w) → Mem w0 (p :: L) w → Calls P f vs.toArray w fun e w' => ∃ v p', e = .returned v ∧ R v p' ∧ Mem w0 (p' :: L) w') :
    RunM P N w0 [p] X env { dst := ds, op := .call { callee := .value (.func f), args := xs, argTypes := ats }, type := ty, pos := pos, after := af, guard := gd } (fun v post => ∃ p', post = [p'] ∧ R v p') := fun L hL a w st Q K hK => by
  unfold Oper.wp
  have h1 := evs_map st _ _ hvs
  have h2 : #[] ++ xs.map a.eval ++ #[] = vs.toArray := by
    rw [Array.empty_append, Array.append_empty]
    apply Array.toList_inj.1
    simpa using h1
  rw [execOp_call_go, h2, run_go hgo, Oper.upon_enter]
  refine (hc L w hL st.mem).mono fun e w' h => ?_
  obtain ⟨v, p', rfl, hR, hm⟩ := h
  exact hK _ _ _ ⟨p', rfl, hR⟩ hm
theorem rm_less {C X X' : List HP} {env' : List (Nat × Value)} {o : Oper} {R : Value → List HP → Prop} (hs : sub env' env) (hx : X'.Sublist X) (h : RunM P N w0 C X' env' o R) : RunM P N w0 C X env o R := fun L hL a w st => h L (fun w hm => (hL w hm).sub hx) a w (st.less hs (.refl _))
theorem rm_mono {C X : List HP} {o : Oper} {R R' : Value → List HP → Prop} (h : RunM P N w0 C X env o R) (hr : ∀ v post, R v post → R' v post) : RunM P N w0 C X env o R' := fun L hL a w st Q K hK => h L hL a w st Q K fun v post w' hv hm => hK v post w' (hr _ _ hv) hm
end
def intOf_o : Value → Int
  | .int _ n => n
  | _ => 0
theorem zdt {α : Type} (f : α → List Value) (es : List α) (e : α) (xs : List Value) (h : xs = f e) : es.flatMap f ++ xs = (es ++ [e]).flatMap f := by
  rw [List.flatMap_append, h]; simp
theorem flat_map1 {α : Type} (f : α → List Value) (g : α → Value) (hf : ∀ a, f a = [g a]) (es : List α) : es.flatMap f = es.map g := by
  induction es with
  | nil => rfl
  | cons a es ih => rw [List.flatMap_cons, List.map_cons, ih, hf]; rfl
theorem zbm {α : Type} (f : α → List Value) (g : α → Value) (hf : ∀ a, f a = [g a]) (es : List α) (d : α) {j : Nat} (h : j < es.length) : (es.flatMap f)[j * 1]? = some (g (es.getD j d)) := by
  rw [flat_map1 f g hf, Nat.mul_one, List.getElem?_map, List.getD_eq_getElem?_getD, List.getElem?_eq_getElem h]; rfl
theorem zdb {α : Type} (f : α → List Value) (g : α → Value) (hf : ∀ a, f a = [g a]) (es : List α) (e : α) {j : Nat} {u : Value} (hu : u = g e) : (es.flatMap f).set (j * 1) u = (es.set j e).flatMap f := by
  rw [flat_map1 f g hf, flat_map1 f g hf, Nat.mul_one, List.map_set, hu]
section
variable {P : Program} {N : Nat} {w0 : World} {l : List HP} {env : List (Nat × Value)} {o : Oper}
theorem rv_makeFunc {fn : Fn} {xs ys : Array Operand} {us vs : List Value} (ho : o.op = .makeFunc fn xs ys) (hx : evs env xs.toList = some us) (hy : evs env ys.toList = some vs) : RunV P N w0 l env o (.func fn us.toArray vs.toArray) := fun a w st => by
  have h1 := evs_map st _ _ hx
  have h2 := evs_map st _ _ hy
  have e1 : xs.map a.eval = us.toArray := by apply Array.toList_inj.1; simpa using h1
  have e2 : ys.map a.eval = vs.toArray := by apply Array.toList_inj.1; simpa using h2
  simp [execOp, ho, Instr.makeFunc, e1, e2]
theorem rv_max {t : Array TypeId} {x y : Operand} {m n : Int} (ho : o.op = .call { callee := .builtin .max, args := #[x, y], argTypes := t }) (hx : ev env x = some (.int .i64 m)) (hy : ev env y = some (.int .i64 n)) : RunV P N w0 l env o (.int .i64 (if m < n then n else m)) := fun a w st => by
  have bm : ∀ (ats : Array TypeId) (ty : TypeId) (cs : Array Bool) (args : Array Value), builtin .max ats ty cs args = (do pure (.value (← Builtin.max_ ats ty args))) := fun _ _ _ _ => rfl
  have h := run_max_int2 (P := P) w t o.type .i64 .i64 m n
  simp only [execOp, ho, resolve, invoke, bm, Sem.run_bind, Sem.run_pure, Result.andThen_ok, List.map_toArray, List.map_cons, List.map_nil, st.eval hx, st.eval hy, h]
end
structure Bl where
  b : Bool
abbrev bl0 : Bl := ⟨false⟩
def blC (x : Bl) : List Value := [.bool x.b]
theorem nodup_shift (n k : Nat) : ((List.range k).map (n + ·)).Nodup := by
  rw [List.Nodup, List.pairwise_map]
  exact List.nodup_range.imp (fun h e => h (by omega))
theorem range_getD {α : Type} (P0 : List (List α)) : (List.range P0.length).map (fun a => P0.getD a []) = P0 := by
  apply List.ext_getElem (by simp)
  intro i h1 h2
  simp [List.getD_eq_getElem?_getD, List.getElem?_eq_getElem h2]
def tauOk3 (os : List Oper) (m K : Nat) (dps qd : List (List Nat)) (tau : List (Option Nat)) (fl : List Nat) : Bool :=
  (List.range m).all (fun i => (qd.getD i []).all (fun j => (dps.getD i []).contains j && (List.range m).all (fun k => tau.getD k none != some j)) && decide ((qd.getD i []).Nodup)) &&
  (List.range m).all (fun i => match tau.getD i none with | none => true | some h => ((Nat.ble os.length h && Nat.blt h (os.length + K)) || (dps.getD i []).contains h) && (List.range m).all (fun k => k == i || tau.getD k none != some h)) &&
  fl.all (fun j => (Nat.blt j m || (Nat.ble os.length j && Nat.blt j (os.length + K))) && (List.range m).all (fun k => tau.getD k none != some j)) && decide fl.Nodup
def envOf3 (dsts : List (Option Nat)) (vf : Nat → Value) (is : List Nat) : List (Nat × Value) := is.filterMap fun i => (dsts.getD i none).map fun d => (d, vf i)
def drawOk3 (os : List Oper) (m : Nat) (dps : List (List Nat)) (dsts : List (Option Nat)) : Bool :=
  Nat.ble m os.length &&
  (List.range os.length).all (fun i => (depsOf os i).all (fun j => Nat.blt j i)) &&
  (List.range os.length).all (fun k => Nat.blt k m || (List.range m).all (fun j => ((msk ((List.range os.length).map (depsOf os)) []).getD k 0).testBit j)) &&
  (List.range (os.length - m)).all (fun t => Region.ready .any os.toArray (List.replicate (m + t) true ++ List.replicate (os.length - (m + t)) false).toArray == [m + t]) &&
  (os.take m).map (·.dst) == dsts && (List.range m).all (fun i => (List.range m).all (fun j => i == j || dsts.getD i none == none || dsts.getD i none != dsts.getD j none)) &&
  (List.range m).all (fun i => (dps.getD i []).all (fun j => ((msk ((List.range os.length).map (depsOf os)) []).getD i 0).testBit j) && decide ((dps.getD i []).Nodup))
section
variable {P : Program} {N : Nat} {w0 : World} {l : List HP} {env : List (Nat × Value)} {Q : Post} {os : List Oper} {m : Nat} {dps : List (List Nat)} {dsts : List (Option Nat)} {R : Nat → List Value → Value → List HP → Prop}
structure Mid3 (N : Nat) (w0 : World) (l : List HP) (env : List (Nat × Value)) (os : List Oper) (m : Nat) (dps : List (List Nat)) (dsts : List (Option Nat)) (R : Nat → List Value → Value → List HP → Prop) (tau : List (Option Nat)) (P0 : List (List HP)) (listed : Array Bool) (ord held : List Nat) (vf : Nat → Value) (pf : Nat → List HP) (a : Act) (w : World) : Prop where
  size : listed.size = os.length
  iff : ∀ i, i < os.length → (listed.getD i true = true ↔ i ∈ ord)
  low : ∀ i ∈ ord, i < m
  closed : ∀ i ∈ ord, ∀ j ∈ depsOf os i, j ∈ ord
  nodup : ord.Nodup
  dcl : ∀ i ∈ ord, ∀ j ∈ dps.getD i [], j ∈ ord
  rel : ∀ i ∈ ord, R i ((dps.getD i []).map vf) (vf i) (pf i)
  hn : held.Nodup
  hin : ∀ i ∈ held, i ∈ ord ∨ (os.length ≤ i ∧ i < os.length + P0.length)
  hall : ∀ i, (i ∈ ord ∨ (os.length ≤ i ∧ i < os.length + P0.length)) → (∀ j ∈ ord, tau.getD j none ≠ some i) → i ∈ held
  hP : ∀ k, k < P0.length → pf (os.length + k) = P0.getD k []
  mem : Mem w0 (held.flatMap pf ++ l) w
  asize : a.tmps.size = N
  defers : a.defers = []
  env : ∀ d v, lk env d = some v → a.tmps[d]? = some v
  slots : ∀ i ∈ ord, ∀ d, dsts[i]? = some (some d) → a.tmps[d]? = some (vf i)
theorem Mid3.st {tau P0 listed ord held vf pf a w} (h : Mid3 N w0 l env os m dps dsts R tau P0 listed ord held vf pf a w) (hm : m ≤ dsts.length) {is : List Nat} (hs : ∀ j ∈ is, j ∈ ord) {L : List HP} (hM : Mem w0 L w) : St N w0 L (envOf3 dsts vf is ++ env) a w := by
  refine ⟨hM, h.asize, h.defers, fun d v hd => ?_⟩
  rcases lk_append _ _ _ _ hd with h1 | h1
  · unfold envOf3 at h1
    rw [List.mem_filterMap] at h1
    obtain ⟨i, hi, he⟩ := h1
    rw [Option.map_eq_some_iff] at he
    obtain ⟨d', hd', he⟩ := he
    simp only [Prod.mk.injEq] at he
    obtain ⟨rfl, rfl⟩ := he
    have : dsts[i]? = some (some d') := by
      rw [List.getD_eq_getElem?_getD] at hd'
      cases hx : dsts[i]? with
      | none => rw [hx] at hd'; cases hd'
      | some y => rw [hx] at hd'; exact congrArg some hd'
    exact h.slots i (hs i hi) _ this
  · exact h.env d v h1
theorem hc_drawn3 {id : Nat} (hmix : P.follows .mixedOrders = true) (m : Nat) (dps : List (List Nat)) (dsts : List (Option Nat)) (R : Nat → List Value → Value → List HP → Prop) (qd : List (List Nat)) (tau : List (Option Nat)) (P0 : List (List HP)) (fl : List Nat) (hok : drawOk3 os m dps dsts = true) (htau : tauOk3 os m P0.length dps qd tau fl = true) (hfresh : dsts.all (fun d => match d with | some d => (lk env d).isNone | none => true) = true) (hN : dsts.all (fun d => match d with | some d => Nat.blt d N | none => true) = true)
    (due : ∀ i o, os[i]? = some o → i < m → ∀ vf pf, (∀ k, k < P0.length → pf (os.length + k) = P0.getD k []) → (∀ j ∈ dps.getD i [], R j ((dps.getD j []).map vf) (vf j) (pf j)) → Obl2 P os.toArray N w0 (tau.getD i none) pf ((qd.getD i []).flatMap pf ++ l) (envOf3 dsts vf (dps.getD i []) ++ env) o (R i ((dps.getD i []).map vf)))
    (fin : ∀ vf pf, (∀ k, k < P0.length → pf (os.length + k) = P0.getD k []) → (∀ i, i < m → R i ((dps.getD i []).map vf) (vf i) (pf i)) → HL P N os.toArray w0 (fl.flatMap pf ++ l) (envOf3 dsts vf (List.range m) ++ env) (os.drop m) Q) : HC P N w0 (P0.flatten ++ l) env (.region id os.toArray true) Q := by
  intro a w st
  refine wp_region_any hmix ?_
  simp only [drawOk3, Bool.and_eq_true, Nat.ble_eq, List.all_eq_true, List.mem_range, Bool.or_eq_true, Nat.blt_eq, beq_iff_eq, decide_eq_true_eq, Array.all_eq_true', bne_iff_ne] at hok
  obtain ⟨⟨⟨⟨⟨⟨hml, hback⟩, hcov⟩, hready⟩, hdst⟩, hdn⟩, hdp⟩ := hok
  simp only [tauOk3, Bool.and_eq_true, List.all_eq_true, List.mem_range, Bool.or_eq_true, Nat.blt_eq, Nat.ble_eq, beq_iff_eq, bne_iff_ne, decide_eq_true_eq, List.contains_iff_mem] at htau
  obtain ⟨⟨⟨hqd, hth⟩, hfl⟩, hfn⟩ := htau
  have hml' : m ≤ dsts.length := by have := congrArg List.length hdst; simp at this; omega
  have hlen : dsts.length = m := by have := congrArg List.length hdst; simp at this; omega
  have hrdy : ∀ k, m ≤ k → k < os.length → Region.ready .any os.toArray (preT os.length k) = [k] := fun k h1 h2 => by
    have := hready (k - m) (by omega)
    rw [show m + (k - m) = k by omega] at this
    exact this
  have hmsk : ∀ i j, ((msk ((List.range os.length).map (depsOf os)) []).getD i 0).testBit j = true → Dep os i j := msk_dep os _ _ (fun t ds ht d hd => by
    rw [List.getElem?_map] at ht
    by_cases h : t < os.length
    · rw [List.getElem?_range h] at ht; simp at ht; subst ht; simpa using hd
    · rw [List.getElem?_eq_none (by simp; omega)] at ht; cases ht) (fun i j h => by simp at h)
  have dstAt : ∀ i, i < m → ∀ o, os[i]? = some o → o.dst = dsts.getD i none := fun i hi o ho => by
    have h1 : ((os.take m).map (·.dst))[i]? = some o.dst := by rw [List.getElem?_map, List.getElem?_take, if_pos hi, ho]; rfl
    rw [hdst] at h1
    rw [List.getD_eq_getElem?_getD, h1]; rfl
  -- what may come up
  have key : ∀ (f : Nat) (listed : Array Bool) (ord held : List Nat) (vf : Nat → Value) (pf : Nat → List HP) (a : Act) (w : World), f + ord.length = os.length → Mid3 N w0 l env os m dps dsts R tau P0 listed ord held vf pf a w → wpAny P .any os.toArray Q f listed a w := by
    intro f
    induction f with
    | zero =>
      intro listed ord held vf pf a w hf h
      -- all are listed: m = the length
      have hall : ∀ i, i < os.length → i ∈ ord := by
        intro i hi
        have hsub : ord.Perm (List.range os.length) ∨ True := .inr trivial
        obtain ⟨r, hr⟩ := zdq ord (List.range os.length) h.nodup (fun j hj => by have := h.low j hj; simp; omega)
        have hl := hr.length_eq
        simp at hl
        have : r = [] := List.length_eq_zero_iff.1 (by omega)
        subst this
        have := hr.mem_iff.1 (List.mem_range.2 hi)
        simpa using this
      have hm2 : m = os.length := by
        by_cases hc : m < os.length
        · have := h.low m (hall m hc); omega
        · omega
      have hp : listed = preT os.length m := by
        apply Array.ext
        · rw [h.size, zdp _ _ hml]
        · intro i h1 h2
          have hi : i < os.length := by rw [h.size] at h1; exact h1
          have e1 := (h.iff i hi).2 (hall i hi)
          have e2 := zfb os.length m i hml hi
          rw [Array.getD_eq_getD_getElem?, Array.getElem?_eq_getElem h1] at e1
          rw [Array.getD_eq_getD_getElem?, Array.getElem?_eq_getElem h2] at e2
          simp only [Option.getD_some] at e1 e2
          rw [e1, e2]; simp; omega
      rw [hp]
      refine tail_any hrdy 0 m (Nat.le_refl _) (by omega) a w ?_
      exact fin vf pf h.hP (fun i hi => h.rel i (hall i (by omega))) a w (h.st hml' (fun j hj => hall j (by rw [List.mem_range] at hj; omega)) (h.mem.pick hfn (fun j hj => h.hall j ((hfl j hj).1.imp (fun hlt => hall j (by omega)) (fun x => x)) (fun k hk => (hfl j hj).2 k (h.low k hk)))))
    | succ f ih =>
      intro listed ord held vf pf a w hf h
      by_cases hall : ∀ i, i < m → i ∈ ord
      · -- the tail's turn
        have hp : listed = preT os.length m := by
          apply Array.ext
          · rw [h.size, zdp _ _ hml]
          · intro i h1 h2
            have hi : i < os.length := by rw [h.size] at h1; exact h1
            have e1 := h.iff i hi
            have e2 := zfb os.length m i hml hi
            rw [Array.getD_eq_getD_getElem?, Array.getElem?_eq_getElem h1] at e1
            rw [Array.getD_eq_getD_getElem?, Array.getElem?_eq_getElem h2] at e2
            simp only [Option.getD_some] at e1 e2
            rw [e2, Bool.eq_iff_iff, e1, decide_eq_true_eq]
            exact ⟨fun hx => h.low i hx, fun hx => hall i hx⟩
        have hord : ord.length = m := by
          obtain ⟨r, hr⟩ := zdq ord (List.range m) h.nodup (fun j hj => by have := h.low j hj; simpa using this)
          obtain ⟨r', hr'⟩ := zdq (List.range m) ord List.nodup_range (fun j hj => hall j (by simpa using hj))
          have h1 := hr.length_eq
          have h2 := hr'.length_eq
          simp at h1 h2
          omega
        rw [hp]
        refine tail_any hrdy (f + 1) m (Nat.le_refl _) (by omega) a w ?_
        exact fin vf pf h.hP (fun i hi => h.rel i (hall i hi)) a w (h.st hml' (fun j hj => hall j (by simpa using hj)) (h.mem.pick hfn (fun j hj => h.hall j ((hfl j hj).1.imp (fun hlt => hall j hlt) (fun x => x)) (fun k hk => (hfl j hj).2 k (h.low k hk)))))
      · -- some quiet one is not done yet
        have hsome : ∃ i, i < m ∧ i ∉ ord := by
          by_cases hx : ∃ i, i < m ∧ i ∉ ord
          · exact hx
          · exact absurd (fun i hi => Decidable.byContradiction fun hn => hx ⟨i, hi, hn⟩) hall
        have mem_rdy : ∀ i, i ∈ Region.ready .any os.toArray listed ↔ i < os.length ∧ i ∉ ord ∧ ∀ j ∈ depsOf os i, j ∈ ord := by
          intro i
          unfold Region.ready
          rw [List.mem_filter, List.mem_range]
          simp only [List.size_toArray]
          constructor
          · rintro ⟨hi, hb⟩
            rw [Bool.and_eq_true] at hb
            have hno : i ∉ ord := fun hx => by rw [(h.iff i hi).2 hx] at hb; simp at hb
            refine ⟨hi, hno, fun j hj => ?_⟩
            have ho : os.toArray[i]? = some os[i] := by simp [hi]
            rw [ho] at hb
            simp only [Option.map_some, Option.getD_some, Array.all_eq_true'] at hb
            unfold depsOf at hj
            rw [List.getElem?_eq_getElem hi] at hj
            simp only [List.mem_map, List.mem_filter] at hj
            obtain ⟨e, ⟨he, hbd⟩, rfl⟩ := hj
            have hb2 := hb.2 e (by simpa using he)
            rw [hbd] at hb2
            simp at hb2
            have hlt := hback i hi e.on (by unfold depsOf; rw [List.getElem?_eq_getElem hi]; exact List.mem_map.2 ⟨e, List.mem_filter.2 ⟨he, hbd⟩, rfl⟩)
            refine (h.iff e.on (by omega)).1 ?_
            have hs : e.on < listed.size := by rw [h.size]; omega
            rw [Array.getD_eq_getD_getElem?, Array.getElem?_eq_getElem hs] 
            simp only [Option.getD_some]
            rw [Array.getElem?_eq_getElem hs] at hb2
            simpa using hb2
          · rintro ⟨hi, hno, hd⟩
            refine ⟨hi, ?_⟩
            have ho : os.toArray[i]? = some os[i] := by simp [hi]
            rw [ho]
            simp only [Option.map_some, Option.getD_some, Bool.and_eq_true, Array.all_eq_true']
            refine ⟨?_, fun e he => ?_⟩
            · cases hb : listed.getD i true with
              | true => exact absurd ((h.iff i hi).1 hb) hno
              | false => rfl
            · rw [Bool.or_eq_true]
              by_cases hbd : Region.binds .any e = true
              rotate_left
              · left; simpa using hbd
              right
              have hon : e.on ∈ depsOf os i := by unfold depsOf; rw [List.getElem?_eq_getElem hi]; exact List.mem_map.2 ⟨e, List.mem_filter.2 ⟨by simpa using he, hbd⟩, rfl⟩
              have hlt := hback i hi e.on hon
              have := (h.iff e.on (by omega)).2 (hd e.on hon)
              have hs : e.on < listed.size := by rw [h.size]; omega
              rw [Array.getD_eq_getD_getElem?, Array.getElem?_eq_getElem hs] at this
              simp only [Option.getD_some] at this
              rw [Array.getD_eq_getD_getElem?, Array.getElem?_eq_getElem hs]
              simpa using this
        have hdep : ∀ k j, Dep os k j → (∀ d ∈ depsOf os k, d ∈ ord) → j ∈ ord := by
          intro k j hd
          induction hd with
          | one hj => intro hx; exact hx _ hj
          | more hk _ ih2 => intro hx; exact ih2 (fun d hd => h.closed _ (hx _ hk) d hd)
        have hlow : ∀ i ∈ Region.ready .any os.toArray listed, i < m := by
          intro i hi
          obtain ⟨h1, h2, h3⟩ := (mem_rdy i).1 hi
          by_cases hc : i < m
          · exact hc
          · exfalso
            obtain ⟨q, hq, hqn⟩ := hsome
            rcases hcov i h1 with h4 | h4
            · exact hc h4
            · exact hqn (hdep i q (hmsk i q (h4 q hq)) h3)
        refine ⟨fun h0 => ?_, fun i hi => ?_⟩
        · -- the least one that is not done may come up
          exfalso
          obtain ⟨q, hq, hqn⟩ := hsome
          obtain ⟨p, hp, hmin⟩ := exists_least (p := fun i => i < m ∧ i ∉ ord) ⟨q, hq, hqn⟩
          have : p ∈ Region.ready .any os.toArray listed := by
            rw [mem_rdy]
            refine ⟨by omega, hp.2, fun j hj => ?_⟩
            have hlt := hback p (by omega) j hj
            apply Decidable.byContradiction
            intro hn
            have := hmin j ⟨by omega, hn⟩
            omega
          rw [h0] at this
          cases this
        · have him := hlow i hi
          obtain ⟨h1, h2, h3⟩ := (mem_rdy i).1 hi
          have ho : os[i]? = some os[i] := List.getElem?_eq_getElem h1
          have hdps := hdp i him
          have hsub : ∀ j ∈ dps.getD i [], j ∈ ord := fun j hj => hdep i j (hmsk i j (hdps.1 j hj)) h3
          have hqi := hqd i him
          have hqheld : ∀ j ∈ qd.getD i [], j ∈ held := fun j hj => h.hall j (.inl (hsub j ((hqi.1 j hj).1))) (fun k hk => (hqi.1 j hj).2 k (h.low k hk))
          have hobl := due i os[i] ho him vf pf h.hP (fun j hj => h.rel j (hsub j hj))
          have hdd := dstAt i him _ ho
          have hdlt : ∀ d, dsts.getD i none = some d → d < N := fun d hd => by
            have := List.all_eq_true.1 hN (some d) (by rw [← hd, List.getD_eq_getElem?_getD, List.getElem?_eq_getElem (by omega)]; exact List.getElem_mem _)
            simpa [Nat.blt_eq] using this
          have hdnone : ∀ d, dsts.getD i none = some d → lk env d = none := fun d hd => by
            have := List.all_eq_true.1 hfresh (some d) (by rw [← hd, List.getD_eq_getElem?_getD, List.getElem?_eq_getElem (by omega)]; exact List.getElem_mem _)
            simpa using this
          have hne : ∀ j ∈ ord, j ≠ i := fun j hj e => h2 (e ▸ hj)
          have hneh : ∀ j ∈ held, j ≠ i := fun j hj e => by
            rcases h.hin j hj with h5 | h5
            · exact hne j h5 e
            · omega
          have next : ∀ (held' : List Nat) v post w', held'.Nodup → (∀ k ∈ held', k ∈ i :: ord ∨ (os.length ≤ k ∧ k < os.length + P0.length)) → (∀ k, (k ∈ i :: ord ∨ (os.length ≤ k ∧ k < os.length + P0.length)) → (∀ j ∈ i :: ord, tau.getD j none ≠ some k) → k ∈ held') → R i ((dps.getD i []).map vf) v post →
              Mem w0 (held'.flatMap (fun k => if k = i then post else pf k) ++ l) w' → wpAny P .any os.toArray Q f (listed.setIfInBounds i true) (a.put (dsts.getD i none) v) w' := by
            intro held' v post w' hh1 hh2 hh3 hv hm
            refine ih (listed.setIfInBounds i true) (i :: ord) held' (fun k => if k = i then v else vf k) (fun k => if k = i then post else pf k) _ w' (by simp; omega) ⟨?_, ?_, ?_, ?_, ?_, ?_, ?_, hh1, hh2, hh3, ?_, hm, ?_, ?_, ?_, ?_⟩
            · simp [h.size]
            · intro k hk
              by_cases hki : k = i
              · subst hki
                have hs : k < listed.size := by rw [h.size]; exact hk
                simp [Array.getD_eq_getD_getElem?, hs]
              · rw [getD_set_ne true (fun e => hki e.symm), h.iff k hk]
                simp [hki]
            · intro k hk; rcases List.mem_cons.1 hk with rfl | hk; exact him; exact h.low k hk
            · intro k hk j hj
              rcases List.mem_cons.1 hk with rfl | hk
              · exact List.mem_cons_of_mem _ (h3 j hj)
              · exact List.mem_cons_of_mem _ (h.closed k hk j hj)
            · exact List.nodup_cons.2 ⟨h2, h.nodup⟩
            · intro k hk j hj
              rcases List.mem_cons.1 hk with rfl | hk
              · exact List.mem_cons_of_mem _ (hsub j hj)
              · exact List.mem_cons_of_mem _ (h.dcl k hk j hj)
            · intro k hk
              rcases List.mem_cons.1 hk with rfl | hk
              · have e : (dps.getD k []).map (fun j => if j = k then v else vf j) = (dps.getD k []).map vf := List.map_congr_left fun j hj => if_neg (hne j (hsub j hj))
                rw [e, if_pos rfl, if_pos rfl]; exact hv
              · have e : (dps.getD k []).map (fun j => if j = i then v else vf j) = (dps.getD k []).map vf := List.map_congr_left fun j hj => if_neg (hne j (h.dcl k hk j hj))
                rw [e, if_neg (hne k hk), if_neg (hne k hk)]; exact h.rel k hk
            · intro k hk; rw [if_neg (by omega)]; exact h.hP k hk
            · cases hdi : dsts.getD i none <;> simp [Act.put, h.asize]
            · cases hdi : dsts.getD i none <;> exact h.defers
            · intro d u hd
              cases hdi : dsts.getD i none with
              | none => exact h.env d u hd
              | some d0 =>
                have hdne : d0 ≠ d := fun e => by rw [← e, hdnone _ hdi] at hd; cases hd
                simp only [Act.put]
                rw [Array.getElem?_setIfInBounds_ne hdne]
                exact h.env d u hd
            · intro k hk d hd
              cases hdi : dsts.getD i none with
              | none =>
                rcases List.mem_cons.1 hk with rfl | hk
                · rw [List.getD_eq_getElem?_getD, hd] at hdi; cases hdi
                · show a.tmps[d]? = _
                  rw [if_neg (hne k hk)]; exact h.slots k hk d hd
              | some d0 =>
                have hlt : d0 < a.tmps.size := by rw [h.asize]; exact hdlt _ hdi
                rcases List.mem_cons.1 hk with rfl | hk
                · have : d = d0 := by rw [List.getD_eq_getElem?_getD, hd] at hdi; exact Option.some.inj hdi
                  subst this
                  simp only [Act.put, if_true]
                  simp only [Array.getElem?_setIfInBounds_self_of_lt hlt]
                · have hdne : d0 ≠ d := by
                    intro e
                    have hk2 : k < dsts.length := (List.getElem?_eq_some_iff.1 hd).1
                    have hdk : dsts.getD k none = some d := by rw [List.getD_eq_getElem?_getD, hd]; rfl
                    rcases hdn i him k (by omega) with (hx | hx) | hx
                    · exact hne k hk hx.symm
                    · rw [hdi] at hx; cases hx
                    · exact hx (by rw [hdi, hdk, e])
                  simp only [Act.put]
                  rw [Array.getElem?_setIfInBounds_ne hdne, if_neg (hne k hk)]
                  exact h.slots k hk d hd
          unfold wpOp
          have hoa : os.toArray[i]? = some os[i] := by simp [h1]
          rw [hoa]
          simp only
          have hpost : ∀ (hs : List Nat) (post : List HP), (∀ k ∈ hs, k ≠ i) → (i :: hs).flatMap (fun k => if k = i then post else pf k) = post ++ hs.flatMap pf := fun hs post hx => by
            rw [List.flatMap_cons, if_pos rfl]
            congr 1
            rw [List.flatMap_def, List.flatMap_def]
            congr 1
            exact List.map_congr_left fun k hk => if_neg (hx k hk)
          cases ht : tau.getD i none with
          | none =>
            rw [ht] at hobl
            have hst := h.st hml' hsub (h.mem.pick hqi.2 hqheld)
            have next1 : ∀ v post w', R i ((dps.getD i []).map vf) v post → Mem w post w' → wpAny P .any os.toArray Q f (listed.setIfInBounds i true) (a.put (dsts.getD i none) v) w' := fun v post w' hv hm => by
              refine next (i :: held) v post w' (List.nodup_cons.2 ⟨fun hx => hneh i hx rfl, h.hn⟩) (fun k hk => ?_) (fun k hk hk2 => ?_) hv ?_
              · rcases List.mem_cons.1 hk with rfl | hk
                · exact .inl List.mem_cons_self
                · exact (h.hin k hk).imp (List.mem_cons_of_mem _) (fun x => x)
              · by_cases hki : k = i
                · rw [hki]; exact List.mem_cons_self
                · refine List.mem_cons_of_mem _ (h.hall k (hk.imp (fun hx => by rcases List.mem_cons.1 hx with hx | hx; exact absurd hx hki; exact hx) (fun x => x)) (fun j hj => hk2 j (List.mem_cons_of_mem _ hj)))
              · rw [hpost held post hneh, List.append_assoc]; exact h.mem.app hm
            rcases hobl with ⟨hw, hq⟩ | ⟨hw, hq⟩
            · rw [if_pos (hst.wanted hw)]
              refine .inl (hq a w hst Q _ fun v post w' hv hm => ?_)
              rw [hdd]
              exact next1 v post w' hv hm
            · rw [if_neg (by rw [hst.wanted hw]; decide), hdd]
              exact next1 undef [] w hq (Mem.refl w)
          | some hh =>
            rw [ht] at hobl
            have hth2 := hth i him
            rw [ht] at hth2
            simp only [Bool.and_eq_true, Bool.or_eq_true, Nat.ble_eq, Nat.blt_eq, beq_iff_eq, List.all_eq_true, List.mem_range, bne_iff_ne, List.contains_iff_mem] at hth2
            have hheld : hh ∈ held := h.hall hh (hth2.1.symm.imp (fun hx => hsub hh hx) (fun x => x)) (fun k hk => (hth2.2 k (h.low k hk)).resolve_left (hne k hk))
            have hperm := List.perm_cons_erase hheld
            have hmem : Mem w0 (pf hh ++ ((held.erase hh).flatMap pf ++ l)) w := by
              have := h.mem.perm ((hperm.flatMap_right pf).append_right l)
              rwa [List.flatMap_cons, List.append_assoc] at this
            have hnin : hh ∉ qd.getD i [] := fun hx => (hqi.1 hh hx).2 i him ht
            have hconv : ∀ w, Mem w0 ((held.erase hh).flatMap pf ++ l) w → Mem w0 ((qd.getD i []).flatMap pf ++ l) w := fun w hm => hm.pick hqi.2 (fun j hj => (List.mem_erase_of_ne (fun (e : j = hh) => hnin (by rw [← e]; exact hj))).2 (hqheld j hj))
            have hst := h.st hml' hsub hmem
            have hneh2 : ∀ k ∈ held.erase hh, k ≠ i := fun k hk => hneh k (List.mem_of_mem_erase hk)
            have next2 : ∀ v post w', R i ((dps.getD i []).map vf) v post → Mem w0 (post ++ ((held.erase hh).flatMap pf ++ l)) w' → wpAny P .any os.toArray Q f (listed.setIfInBounds i true) (a.put (dsts.getD i none) v) w' := fun v post w' hv hm => by
              refine next (i :: held.erase hh) v post w' (List.nodup_cons.2 ⟨fun hx => hneh2 i hx rfl, h.hn.erase hh⟩) (fun k hk => ?_) (fun k hk hk2 => ?_) hv ?_
              · rcases List.mem_cons.1 hk with rfl | hk
                · exact .inl List.mem_cons_self
                · exact (h.hin k (List.mem_of_mem_erase hk)).imp (List.mem_cons_of_mem _) (fun x => x)
              · by_cases hki : k = i
                · rw [hki]; exact List.mem_cons_self
                · have hkh : k ≠ hh := fun e => hk2 i List.mem_cons_self (by rw [ht, e])
                  exact List.mem_cons_of_mem _ ((List.mem_erase_of_ne hkh).2 (h.hall k (hk.imp (fun hx => by rcases List.mem_cons.1 hx with hx | hx; exact absurd hx hki; exact hx) (fun x => x)) (fun j hj => hk2 j (List.mem_cons_of_mem _ hj))))
              · rw [hpost _ post hneh2, List.append_assoc]; exact hm
            rcases hobl with ⟨hw, hq⟩ | ⟨hw, hq⟩
            · rw [if_pos (hst.wanted hw)]
              refine .inl (hq _ hconv a w hst Q _ fun v post w' hv hm => ?_)
              rw [hdd]
              exact next2 v post w' hv hm
            · rw [if_neg (by rw [hst.wanted hw]; decide), hdd]
              exact next2 undef (pf hh) w hq hmem
  refine key os.length (Array.replicate os.length false) [] ((List.range P0.length).map (os.length + ·)) (fun _ => undef) (fun k => if os.length ≤ k then P0.getD (k - os.length) [] else []) a _ (by simp) ⟨by simp, ?_, by simp, by simp, by simp, by simp, by simp, ?_, ?_, ?_, ?_, ?_, st.size, st.defers, st.env, by simp⟩
  · intro i hi; simp [hi]
  · exact nodup_shift _ _
  · intro i hi
    simp only [List.mem_map, List.mem_range] at hi
    obtain ⟨k, hk, rfl⟩ := hi
    exact .inr ⟨by omega, by omega⟩
  · rintro i (hi | ⟨h1, h2⟩) _
    · cases hi
    · simp only [List.mem_map, List.mem_range]; exact ⟨i - os.length, by omega, by omega⟩
  · intro k hk; rw [if_pos (by omega), Nat.add_sub_cancel_left]
  · have e : ((List.range P0.length).map (os.length + ·)).flatMap (fun k => if os.length ≤ k then P0.getD (k - os.length) [] else []) = P0.flatten := by
      rw [List.flatMap_map]
      have : (fun a : Nat => (if os.length ≤ os.length + a then P0.getD (os.length + a - os.length) [] else [])) = fun a => P0.getD a [] := by
        funext a; rw [if_pos (by omega), Nat.add_sub_cancel_left]
      rw [List.flatMap_def]
      rw [show (List.map (fun a : Nat => (if os.length ≤ os.length + a then P0.getD (os.length + a - os.length) [] else [])) (List.range P0.length)) = P0 from by rw [this]; exact range_getD P0]
    rw [e]; exact st.mem.drawn _
def Dues3 (P : Program) (ops : Array Oper) (N : Nat) (w0 : World) (l : List HP) (env : List (Nat × Value)) (P0 : List (List HP)) (mu : Nat) (dsts : List (Option Nat)) (all qall : List (List Nat)) (tau : List (Option Nat)) (R : Nat → List Value → Value → List HP → Prop) : Nat → List (List Nat) → List Oper → Prop
  | _, _, [] => True
  | k, dss, o :: os => (∀ (vf : Nat → Value) (pf : Nat → List HP), (∀ k, k < P0.length → pf (mu + k) = P0.getD k []) → (∀ j ∈ all.getD k [], R j ((all.getD j []).map vf) (vf j) (pf j)) → Obl2 P ops N w0 (tau.getD k none) pf ((qall.getD k []).flatMap pf ++ l) (envOf3 dsts vf (all.getD k []) ++ env) o (R k ((all.getD k []).map vf))) ∧ Dues3 P ops N w0 l env P0 mu dsts all qall tau R (k + 1) dss os
theorem dues3_at {P : Program} {ops : Array Oper} {N : Nat} {w0 : World} {l : List HP} {env : List (Nat × Value)} {P0 : List (List HP)} {mu : Nat} {dsts : List (Option Nat)} {all qall : List (List Nat)} {tau : List (Option Nat)} {R : Nat → List Value → Value → List HP → Prop} : ∀ (os : List Oper) (dss : List (List Nat)) (k : Nat), Dues3 P ops N w0 l env P0 mu dsts all qall tau R k dss os → ∀ i o, os[i]? = some o → ∀ vf pf, (∀ k, k < P0.length → pf (mu + k) = P0.getD k []) → (∀ j ∈ all.getD (k + i) [], R j ((all.getD j []).map vf) (vf j) (pf j)) → Obl2 P ops N w0 (tau.getD (k + i) none) pf ((qall.getD (k + i) []).flatMap pf ++ l) (envOf3 dsts vf (all.getD (k + i) []) ++ env) o (R (k + i) ((all.getD (k + i) []).map vf))
  | [], _, _, _, i, o, ho, _, _, _, _ => by simp at ho
  | o' :: os, dss, k, h, 0, o, ho, vf, pf, hP, hR => by simp at ho; subst ho; exact h.1 vf pf hP hR
  | o' :: os, dss, k, h, i + 1, o, ho, vf, pf, hP, hR => by
    have e : k + 1 + i = k + (i + 1) := by omega
    have := dues3_at os dss (k + 1) h.2 i o (by simpa using ho) vf pf hP (by rw [e]; exact hR)
    rwa [e] at this
theorem hc_draw3 {id : Nat} (hmix : P.follows .mixedOrders = true) (m : Nat) (qs : List Nat) (quiet tail : List Oper) (dps : List (List Nat)) (dsts : List (Option Nat)) (R : Nat → List Value → Value → List HP → Prop) (qd : List (List Nat)) (tau : List (Option Nat)) (P0 : List (List HP)) (fl : List Nat) (mu : Nat)
    (hos : os = quiet ++ tail) (hq : (Nat.beq quiet.length m && (List.range m == qs) && Nat.beq os.length mu) = true) (hok : drawOk3 os m dps dsts = true) (htau : tauOk3 os m P0.length dps qd tau fl = true) (hfresh : dsts.all (fun d => match d with | some d => (lk env d).isNone | none => true) = true) (hN : dsts.all (fun d => match d with | some d => Nat.blt d N | none => true) = true)
    (due : Dues3 P os.toArray N w0 l env P0 mu dsts dps qd tau R 0 [] quiet)
    (fin : ∀ vf pf, (∀ k, k < P0.length → pf (mu + k) = P0.getD k []) → (∀ i, i < m → R i ((dps.getD i []).map vf) (vf i) (pf i)) → HL P N os.toArray w0 (fl.flatMap pf ++ l) (envOf3 dsts vf qs ++ env) tail Q) : HC P N w0 (P0.flatten ++ l) env (.region id os.toArray true) Q := by
  simp only [Bool.and_eq_true, Nat.beq_eq, beq_iff_eq] at hq
  obtain ⟨⟨hq1, hq2⟩, hq3⟩ := hq
  refine hc_drawn3 hmix m dps dsts R qd tau P0 fl hok htau hfresh hN (fun i o ho hi vf pf hP hR => ?_) (fun vf pf hP hR => ?_)
  · have ho' : quiet[i]? = some o := by rw [hos, List.getElem?_append_left (by omega)] at ho; exact ho
    have := dues3_at quiet [] 0 due i o ho' vf pf (by rw [← hq3]; exact hP) (by rw [Nat.zero_add]; exact hR)
    rwa [Nat.zero_add] at this
  · rw [hq2, hos, List.drop_left' hq1, ← hos]; exact fin vf pf (by rw [← hq3]; exact hP) hR
end
def curE (g : Nat) (a : Option Addr) (len cap : Nat) : HP := ⟨fun k => k = g, fun w => (∃ i : Nat, i ≤ len ∧ w.cell? ⟨g, 1, none⟩ = some (.int .i64 (i : Int))) ∧ (∃ h : Int, w.cell? ⟨g, 2, none⟩ = some (.int .i64 h)) ∧
  w.cell? ⟨g, 0, none⟩ = some (.slice a len cap) ∧ w.frozen? ⟨g, 1, none⟩ = false ∧ w.frozen? ⟨g, 2, none⟩ = false⟩
theorem cell_heap {w w' : World} {g o : Nat} (h : w'.heap[g]? = w.heap[g]?) : w'.cell? ⟨g, o, none⟩ = w.cell? ⟨g, o, none⟩ := by simp [World.cell?, h]
theorem frozen_heap {w w' : World} {g o : Nat} (h : w'.heap[g]? = w.heap[g]?) : w'.frozen? ⟨g, o, none⟩ = w.frozen? ⟨g, o, none⟩ := by simp [World.frozen?, h]
theorem curE_ok (g : Nat) (a : Option Addr) (len cap : Nat) : (curE g a len cap).Ok := fun w w' _ hb h => by
  have e := hb g rfl
  have c := fun o => cell_heap (o := o) e
  have f := fun o => frozen_heap (o := o) e
  simp only [curE] at h ⊢
  rw [c 0, c 1, c 2, f 1, f 2]; exact h
theorem cur_of {w0 w : World} {l : List HP} {g : Nat} {a : Option Addr} {len cap : Nat} {z : List Int} (hm : Mem w0 (curE g a len cap :: l) w) (hb : BRow .u8 w0 a len cap z) : Cur w w0.heap.size g a len cap z := by
  obtain ⟨h1, h2, h3, h4, h5⟩ := hm.holds _ List.mem_cons_self
  exact ⟨h1, h2, h3, h4, h5, hb.below hm.bel, (hm.new _ List.mem_cons_self g rfl).1, hb.old⟩
theorem cur_turn {w0 w w' : World} {l : List HP} {B g : Nat} {a : Option Addr} {len cap : Nat} {z : List Int} (hm : Mem w0 (curE g a len cap :: l) w) (hc : Cur w' B g a len cap z) (hg : w.grownBy w' (some g)) : Mem w0 (curE g a len cap :: l) w' :=
  hm.turn hg.os hg.tape hg.output hg.size (fun b hb hf => hg.block b hb (fun e => hf (by cases e; rfl))) (curE_ok g a len cap) (fun b hb => .inl hb) (fun b hb => by cases hb; exact hc.lt) ⟨hc.1, hc.2.1, hc.2.2.1, hc.2.2.2.1, hc.2.2.2.2.1⟩
theorem cur_mut {f : FuncId} {vs : Array Value} {R : Ending → Prop} {R' : Value → Prop} {w0 : World} {l : List HP} {w : World} {g : Nat} {a : Option Addr} {len cap : Nat} {z : List Int} (hm : Mem w0 (curE g a len cap :: l) w) (hb : BRow .u8 w0 a len cap z)
    (h : ∀ w B, Cur w B g a len cap z → Calls Try.prog f vs w fun e w' => R e ∧ Cur w' B g a len cap z ∧ w.grownBy w' (some g)) (hR : ∀ e, R e → ∃ v, e = .returned v ∧ R' v) :
    Calls Try.prog f vs w (fun e_ w_ => ∃ v_ p_, e_ = .returned v_ ∧ (R' v_ ∧ p_ = curE g a len cap) ∧ Mem w0 (p_ :: l) w_) :=
  (h w _ (cur_of hm hb)).mono fun e w' ⟨he, hc, hg⟩ => by
    obtain ⟨v, hv, hr⟩ := hR e he
    exact ⟨v, _, hv, ⟨hr, rfl⟩, cur_turn hm hc hg⟩
theorem once_mut {w0 : World} {l : List HP} {w : World} {g : Nat} {a : Option Addr} {len cap : Nat} {z : List Int} (hm : Mem w0 (curE g a len cap :: l) w) (hb : BRow .u8 w0 a len cap z) (n : Int) (h1 : 1 ≤ n) (h2 : n ≤ 256) :
    Calls Try.prog 50 #[.pointer (some ⟨g, 0, none⟩), .int .i64 n] w (fun e_ w_ => ∃ v_ p_, e_ = .returned v_ ∧ ((∃ b : Bool, v_ = .bool b) ∧ p_ = curE g a len cap) ∧ Mem w0 (p_ :: l) w_) :=
  cur_mut (R' := fun v => ∃ b : Bool, v = .bool b) hm hb (fun w B hc => l01Once_any B g a len cap z n h1 h2 w hc) (fun e ⟨b, he⟩ => ⟨_, he, b, rfl⟩)
theorem new_ret {w : World} {a : Option Addr} {len cap : Nat} {z : List Int} (hb : BRow .u8 w a len cap z) (hlen : len ≤ 1048576) :
    Calls Try.prog 16 #[.slice a len cap] w (Ret w (fun v post => ∃ g, v = .pointer (some ⟨g, 0, none⟩) ∧ post = [curE g a len cap])) :=
  (l01New_any a len cap z w hlen hb).mono fun e w' ⟨g, he, hc, hbel⟩ => by
    refine ⟨_, [curE g a len cap], he, ⟨g, rfl, rfl⟩, hbel, ?_, ?_, ?_, by simp⟩
    · intro p hp; rw [List.mem_singleton] at hp; subst hp; exact ⟨hc.1, hc.2.1, hc.2.2.1, hc.2.2.2.1, hc.2.2.2.2.1⟩
    · intro p hp; rw [List.mem_singleton] at hp; subst hp; exact curE_ok g a len cap
    · intro p hp b hf; rw [List.mem_singleton] at hp; subst hp; cases hf; exact ⟨hc.base, hc.lt⟩
open Go.RowKit
theorem byte_mut {w0 : World} {l : List HP} {w : World} {g : Nat} {a : Option Addr} {len cap : Nat} {z : List Int} (hm : Mem w0 (curE g a len cap :: l) w) (hb : BRow .u8 w0 a len cap z) :
    Calls Try.prog 32 #[.pointer (some ⟨g, 0, none⟩)] w (fun e_ w_ => ∃ v_ p_, e_ = .returned v_ ∧ ((∃ x : Int, v_ = .int .i64 x ∧ 0 ≤ x ∧ x < 256) ∧ p_ = curE g a len cap) ∧ Mem w0 (p_ :: l) w_) :=
  cur_mut (R' := fun v => ∃ x : Int, v = .int .i64 x ∧ 0 ≤ x ∧ x < 256) hm hb (fun w B hc => l01Byte_any B g a len cap z w hc) (fun e ⟨x, hx, he⟩ => ⟨_, he, (x : Int), rfl, by omega, by omega⟩)
theorem zcn (g : Nat) (a : Option Addr) (len cap : Nat) (z : List Int) (n : Int) (w0 : World) (l : List HP) (w : World) (hm0 : Mem w0 (curE g a len cap :: l) w) (hb : BRow .u8 w0 a len cap z) (hn : 1 ≤ n ∧ n ≤ 4294967296) :
   Calls Try.prog 18 #[.pointer (some ⟨g, 0, none⟩), .int .i64 n] w (fun e_ w_ => ∃ v_ p_, e_ = .returned v_ ∧ (fun u_ p_ => (∃ x : Int, u_ = .int .i64 x ∧ 0 ≤ x ∧ x < n) ∧ p_ = curE g a len cap) v_ p_ ∧ Mem w0 (p_ :: l) w_) := by
 refine zfj (N := 37) (args := [.pointer (some ⟨g, 0, none⟩), .int .i64 n]) Try.func18 rfl rfl hm0 ?_
 refine hc_keep _ [1, 0] rfl ?_
 refine zaa ?_
 refine zai ?_
 refine zab 1 rfl ?_
 refine zbd [4, 1, 0] rfl ?_
 refine zay ?_
 refine zaj ?_
 refine zaa ?_
 refine zaa ?_
 refine zai ?_
 refine zab 1 rfl ?_
 refine hl_leq rfl rfl rfl rfl rfl rfl (fun h1 => absurd h1 (by omega)) (fun h1 => ?_)
 refine zbd [10, 4, 1, 0] rfl ?_
 refine zay ?_
 refine zaj ?_
 refine zao rfl ?_
 refine zdg ?_
 refine zaj ?_
 refine zaa ?_
 refine zaa ?_
 refine zai ?_
 refine zab 1 rfl ?_
 refine hl_leq rfl rfl rfl rfl rfl rfl (fun h2 => ?_) (fun h2 => ?_)
 ·
  refine zbd [12, 10, 4, 1, 0] rfl ?_
  refine zay ?_
  refine zaj ?_
  refine zaq rfl ?_
  refine zaa ?_
  refine zai ?_
  refine zab 1 rfl ?_
  refine zda (R := (fun u_ p_ => (∃ x : Int, u_ = .int .i64 x ∧ 0 ≤ x ∧ x < 256) ∧ p_ = curE g a len cap)) 0 rfl rfl (by kernel_rfl) rfl rfl (fun l' w hm => byte_mut hm hb) ?_
  intro v3 p4 hR5
  obtain ⟨⟨xhR5, rfl, xhR50, xhR51⟩, rfl⟩ := hR5
  refine zdo (l' := (curE g a len cap :: l)) rfl ?_
  refine zab 1 rfl ?_
  refine zeu rfl rfl rfl (rv_rem rfl rfl rfl (by constructor <;> omega)) ?_
  refine zab 1 rfl ?_
  refine zbd [12, 10, 4, 1, 0] rfl ?_
  refine zay ?_
  refine zaj ?_
  refine zax ?_
  refine zam ?_
  exact hq_retMut (p' := curE g a len cap) rfl rfl (.refl _) ⟨⟨_, rfl, Int.emod_nonneg _ (by omega), Int.emod_lt_of_pos _ (by omega)⟩, rfl⟩
 ·
  refine zbd [12, 10, 4, 1, 0] rfl ?_
  refine zay ?_
  refine zaj ?_
  refine zao rfl ?_
  refine zdg ?_
  refine zaj ?_
  refine zaa ?_
  refine zai ?_
  refine zab 1 rfl ?_
  refine zda (R := (fun u_ p_ => (∃ x : Int, u_ = .int .i64 x ∧ 0 ≤ x ∧ x < 256) ∧ p_ = curE g a len cap)) 0 rfl rfl (by kernel_rfl) rfl rfl (fun l' w hm => byte_mut hm hb) ?_
  intro v6 p7 hR8
  obtain ⟨⟨xhR8, rfl, xhR80, xhR81⟩, rfl⟩ := hR8
  refine zdo (l' := (curE g a len cap :: l)) rfl ?_
  refine zab 1 rfl ?_
  refine zbd [12, 10, 5, 4, 1, 0] rfl ?_
  refine zay ?_
  refine zaj ?_
  refine zaa ?_
  refine zai ?_
  refine zab 1 rfl ?_
  refine zda (R := (fun u_ p_ => (∃ x : Int, u_ = .int .i64 x ∧ 0 ≤ x ∧ x < 256) ∧ p_ = curE g a len cap)) 0 rfl rfl (by kernel_rfl) rfl rfl (fun l' w hm => byte_mut hm hb) ?_
  intro v9 p10 hR11
  obtain ⟨⟨xhR11, rfl, xhR110, xhR111⟩, rfl⟩ := hR11
  refine zdo (l' := (curE g a len cap :: l)) rfl ?_
  refine zab 1 rfl ?_
  refine zbd [12, 10, 6, 5, 4, 1, 0] rfl ?_
  refine zay ?_
  refine zaj ?_
  refine zaa ?_
  refine zai ?_
  refine zab 1 rfl ?_
  refine zda (R := (fun u_ p_ => (∃ x : Int, u_ = .int .i64 x ∧ 0 ≤ x ∧ x < 256) ∧ p_ = curE g a len cap)) 0 rfl rfl (by kernel_rfl) rfl rfl (fun l' w hm => byte_mut hm hb) ?_
  intro v12 p13 hR14
  obtain ⟨⟨xhR14, rfl, xhR140, xhR141⟩, rfl⟩ := hR14
  refine zdo (l' := (curE g a len cap :: l)) rfl ?_
  refine zab 1 rfl ?_
  refine zbd [12, 10, 7, 6, 5, 4, 1, 0] rfl ?_
  refine zay ?_
  refine zaj ?_
  refine zaa ?_
  refine zai ?_
  refine zab 1 rfl ?_
  refine zda (R := (fun u_ p_ => (∃ x : Int, u_ = .int .i64 x ∧ 0 ≤ x ∧ x < 256) ∧ p_ = curE g a len cap)) 0 rfl rfl (by kernel_rfl) rfl rfl (fun l' w hm => byte_mut hm hb) ?_
  intro v15 p16 hR17
  obtain ⟨⟨xhR17, rfl, xhR170, xhR171⟩, rfl⟩ := hR17
  refine zdo (l' := (curE g a len cap :: l)) rfl ?_
  refine zab 1 rfl ?_
  refine zbd [12, 10, 8, 7, 6, 5, 4, 1, 0] rfl ?_
  refine zay ?_
  refine zaj ?_
  refine zaa ?_
  refine zai ?_
  refine zab 1 rfl ?_
  refine zeu rfl rfl rfl (zer rfl rfl rfl (by constructor <;> omega)) ?_
  refine zab 1 rfl ?_
  refine zeu rfl rfl rfl (zer rfl rfl rfl (by constructor <;> omega)) ?_
  refine zeu rfl rfl rfl (zfl rfl rfl rfl (by constructor <;> omega)) ?_
  refine zab 1 rfl ?_
  refine zeu rfl rfl rfl (zer rfl rfl rfl (by constructor <;> omega)) ?_
  refine zeu rfl rfl rfl (zfl rfl rfl rfl (by constructor <;> omega)) ?_
  refine zab 1 rfl ?_
  refine zeu rfl rfl rfl (zfl rfl rfl rfl (by constructor <;> omega)) ?_
  refine zab 1 rfl ?_
  refine zeu rfl rfl rfl (rv_rem rfl rfl rfl (by constructor <;> omega)) ?_
  refine zab 1 rfl ?_
  refine zbd [12, 10, 8, 7, 6, 5, 4, 1, 0] rfl ?_
  refine zay ?_
  refine zaj ?_
  refine zax ?_
  exact hq_retMut (p' := curE g a len cap) rfl rfl (.refl _) ⟨⟨_, rfl, Int.emod_nonneg _ (by omega), Int.emod_lt_of_pos _ (by omega)⟩, rfl⟩
def hasB (xs : List Int) (x : Int) : Bool := xs.contains x
section
variable {P : Program} {N : Nat} {w0 : World} {l : List HP} {env : List (Nat × Value)} {o : Oper}
theorem zde {t e : TypeId} {x : Operand} {v : Value} (ho : o.op = .buildSlice t 1 #[(0, x)]) (hu : P.underlying t = some (.slice e)) (hi : (P.info? e).map (fun i => (i.zero, i.size)) = some (some (.slice none 0 0), 1)) (hx : ev env x = some v) (h1 : v.oneCell' = true) :
    RunQ P N w0 l env o (IsRow e 1 1 [v]) :=
  zaw (vs := [(0, v)]) ho hu hi (by decide) (by simp [hx]) (by cases v <;> first | (exact absurd h1 Bool.false_ne_true) | kernel_rfl) rfl
end
structure CRow where
  v : Value
  xs : List Int
abbrev crow0 : CRow := ⟨.slice none 0 0, []⟩
def crowC (r : CRow) : List Value := [r.v]
structure RdsCl (w : World) (v : Value) (rs : List CRow) : Prop where
  row : RdsW w v 1 rs.length (rs.flatMap crowC)
  xs : ∀ r ∈ rs, RdsW w r.v 1 r.xs.length (r.xs.map (Value.int .i64))
theorem RdsCl.at {w : World} {v : Value} {rs : List CRow} (h : RdsCl w v rs) {k : Nat} (hk : k < rs.length) : RdsW w (rs.getD k crow0).v 1 (rs.getD k crow0).xs.length ((rs.getD k crow0).xs.map (Value.int .i64)) := h.xs _ (zbp hk)
def LitOk (n : Int) (xs : List Int) : Prop := xs.length ≤ 400 ∧ ∀ i, i < xs.length → xs.getD i 0 ≠ 0 ∧ -n ≤ xs.getD i 0 ∧ xs.getD i 0 ≤ n
def valI (ps : List Int) (l : Int) : Int := if l < 0 then -(ps.getD (-l - 1).toNat 0) else ps.getD (l - 1).toNat 0
structure UOk (xs ps : List Int) (u : Int) (cf : Bool) : Prop where
  conf : cf = true → u = 0 ∧ ∀ i, i < xs.length → valI ps (xs.getD i 0) = -1
  unit : u ≠ 0 → cf = false ∧ valI ps u = 0 ∧ (∃ i, i < xs.length ∧ xs.getD i 0 = u) ∧ ∀ i, i < xs.length → xs.getD i 0 = u ∨ valI ps (xs.getD i 0) = -1
  none : cf = false → u = 0 → ∃ i, i < xs.length ∧ valI ps (xs.getD i 0) ≠ -1
theorem zcy {ps : List HP} {p : HP} {w : World} (h : (bigE ps).holds w) (hp : p ∈ ps) : p.holds w := (h.1 p hp).2
theorem pool_at {w0 : World} {l : List HP} {ps : List HP} {H : World → Prop} (i : Nat) (hi : l[i]? = some (bigE ps)) (hH : ∀ w, (bigE ps).holds w → H w) : ∀ w, Mem w0 l w → H w := fun w hm => hH w (hm.holds _ (zbw hi))
theorem conv_bigN {w0 : World} {l : List HP} (ps : List HP) (l' : List HP) (h : l = ps ++ l') : Conv w0 l (bigE ps :: l') := fun w hm => (h ▸ hm).big
theorem zfg {P : Program} {N : Nat} {w0 : World} {l : List HP} {env : List (Nat × Value)} {o : Oper} {t e : TypeId} {x : Operand} {v : Value} (ho : o.op = .buildSlice t 1 #[(0, x)]) (hu : P.underlying t = some (.slice e)) (hi : (P.info? e).map (fun i => (i.zero, i.size)) = some (some (.slice none 0 0), 1)) (hx : ev env x = some v) (h1 : ∀ w, Mem w0 l w → v.oneCell' = true) :
    RunQ P N w0 l env o (IsRow e 1 1 [v]) := fun a w st => zde ho hu hi hx (h1 w st.mem) a w st
def RdsAll (w : World) (rs : List CRow) : Prop := ∀ r ∈ rs, RdsW w r.v 1 r.xs.length (r.xs.map (Value.int .i64))
theorem RdsAll.nil (w : World) : RdsAll w [] := fun r hr => by cases hr
theorem RdsAll.at {w : World} {rs : List CRow} (h : RdsAll w rs) {k : Nat} (hk : k < rs.length) : RdsW w (rs.getD k crow0).v 1 (rs.getD k crow0).xs.length ((rs.getD k crow0).xs.map (Value.int .i64)) := h _ (zbp hk)
theorem RdsAll.sub {w : World} {rs qs : List CRow} (h : RdsAll w rs) (hs : ∀ q ∈ qs, q ∈ rs) : RdsAll w qs := fun q hq => h q (hs q hq)
theorem RdsAll.cons {w : World} {rs qs : List CRow} {u : CRow} (h : RdsAll w rs) (hu : RdsW w u.v 1 u.xs.length (u.xs.map (Value.int .i64))) (hs : ∀ q ∈ qs, q = u ∨ q ∈ rs) : RdsAll w qs := fun q hq => by
  rcases hs q hq with rfl | hq
  · exact hu
  · exact h q hq
theorem RdsW.one' {w : World} {v : Value} {s n : Nat} {cs : List Value} (h : RdsW w v s n cs) : v.oneCell' = true := by
  obtain ⟨a, cap, rfl, -⟩ := h; rfl
def getL {α : Type} : List α → Nat → Option α
  | x :: _, 0 => some x
  | _ :: xs, k + 1 => getL xs k
  | [], _ => none
def dropL {α : Type} : Nat → List α → Option (List α)
  | 0, l => some l
  | k + 1, _ :: l => dropL k l
  | _ + 1, [] => none
def pickL {α : Type} (l : List α) : List Nat → List α → Option (List α)
  | [], acc => some acc
  | k :: ks, acc => match getL l k with
    | some p => pickL l ks (p :: acc)
    | none => none
def setLP {α : Type} : List α → Nat → α → Option (List α)
  | _ :: xs, 0, p => some (p :: xs)
  | x :: xs, k + 1, p => match setLP xs k p with
    | some r => some (x :: r)
    | none => none
  | [], _, _ => none
def takeL {α : Type} : Nat → List α → Option (List α × List α)
  | 0, l => some ([], l)
  | k + 1, x :: l => match takeL k l with
    | some (a, b) => some (x :: a, b)
    | none => none
  | _ + 1, [] => none
theorem getL_eq {α : Type} : ∀ (l : List α) (k : Nat), getL l k = l[k]?
  | [], k => by simp [getL]
  | x :: xs, 0 => by simp [getL]
  | x :: xs, k + 1 => by simp only [getL, List.getElem?_cons_succ]; exact getL_eq xs k
theorem dropL_eq {α : Type} : ∀ (m : Nat) {l t : List α}, dropL m l = some t → ∃ a, l = a ++ t ∧ a.length = m
  | 0, l, t, h => by simp only [dropL, Option.some.injEq] at h; exact ⟨[], by simp [h], rfl⟩
  | k + 1, [], t, h => by simp [dropL] at h
  | k + 1, x :: l, t, h => by
    simp only [dropL] at h
    obtain ⟨a, e, hl⟩ := dropL_eq k h
    exact ⟨x :: a, by rw [e]; rfl, by simp [hl]⟩
theorem pickL_eq {α : Type} {l : List α} : ∀ (ks : List Nat) {acc l' : List α}, pickL l ks acc = some l' → ∃ ds, l' = ds ++ acc ∧ ks.reverse.map (fun k => l[k]?) = ds.map some
  | [], acc, l', h => by simp only [pickL, Option.some.injEq] at h; exact ⟨[], by simp [h], rfl⟩
  | k :: ks, acc, l', h => by
    simp only [pickL] at h
    rw [getL_eq] at h
    split at h
    · rename_i p hp
      obtain ⟨ds, e, hd⟩ := pickL_eq ks h
      exact ⟨ds ++ [p], by rw [e]; simp, by rw [List.reverse_cons, List.map_append, List.map_append, hd]; simp [hp]⟩
    · cases h
theorem setLP_eq {α : Type} : ∀ {l : List α} {i : Nat} {p : α} {l' : List α}, setLP l i p = some l' → l.set i p = l'
  | [], i, p, l', h => by simp [setLP] at h
  | x :: xs, 0, p, l', h => by simp only [setLP, Option.some.injEq] at h; rw [← h]; rfl
  | x :: xs, k + 1, p, l', h => by
    simp only [setLP] at h
    split at h
    · rename_i r hr
      simp only [Option.some.injEq] at h
      rw [← h, List.set_cons_succ, setLP_eq hr]
    · cases h
theorem takeL_eq {α : Type} : ∀ (m : Nat) {l a b : List α}, takeL m l = some (a, b) → l = a ++ b
  | 0, l, a, b, h => by simp only [takeL, Option.some.injEq, Prod.mk.injEq] at h; rw [← h.1, ← h.2]; rfl
  | k + 1, [], a, b, h => by simp [takeL] at h
  | k + 1, x :: l, a, b, h => by
    simp only [takeL] at h
    split at h
    · rename_i a' b' hr
      simp only [Option.some.injEq, Prod.mk.injEq] at h
      rw [← h.1, ← h.2, takeL_eq k hr]; rfl
    · cases h
theorem conv_ks {w0 : World} {l l' t : List HP} (m : Nat) (ks : List Nat) (hd : dropL m l = some t) (h : pickL l ks t = some l') (hn : ks.reverse.Nodup ∧ ∀ k ∈ ks.reverse, k < m) : Conv w0 l l' := by
  obtain ⟨a, rfl, hm⟩ := dropL_eq m hd
  obtain ⟨ds, rfl, hds⟩ := pickL_eq ks h
  refine conv_pick (src := a) (dst := ds) (l := t) ks.reverse hn.1 ?_
  rw [← hds]
  refine List.map_congr_left fun k hk => ?_
  have := hn.2 k hk
  exact (List.getElem?_append_left (by omega)).symm
section
variable {P : Program} {N : Nat} {w0 : World} {l l' t ps : List HP} {env env' : List (Nat × Value)} {Q : Post} {o : Oper} {ops : Array Oper} {rest : List Oper} {d : Nat}
theorem zcg {e : Exit} (m : Nat) (ks : List Nat) (hd : dropL m l = some t) (h : pickL l ks t = some l') (hn : ks.reverse.Nodup ∧ ∀ k ∈ ks.reverse, k < m) (k : HQ N w0 l' env e Q) : HQ N w0 l env e Q := zfi l' (conv_ks m ks hd h hn) k
theorem zfp {c : Code} (m : Nat) (ks : List Nat) (hd : dropL m l = some t) (h : pickL l ks t = some l') (hn : ks.reverse.Nodup ∧ ∀ k ∈ ks.reverse, k < m) (k : HC P N w0 l' env c Q) : HC P N w0 l env c Q := zev l' (conv_ks m ks hd h hn) k
theorem hl_pick (m : Nat) (ks : List Nat) (hd : dropL m l = some t) (h : pickL l ks t = some l') (hn : ks.reverse.Nodup ∧ ∀ k ∈ ks.reverse, k < m) (k : HL P N ops w0 l' env rest Q) : HL P N ops w0 l env rest Q := hl_conv l' (conv_ks m ks hd h hn) k
theorem hq_pool {e : Exit} (m : Nat) (h : takeL m l = some (ps, t)) (k : HQ N w0 (bigE ps :: t) env e Q) : HQ N w0 l env e Q := zfi _ (conv_bigN ps t (takeL_eq m h)) k
theorem hc_pool {c : Code} (m : Nat) (h : takeL m l = some (ps, t)) (k : HC P N w0 (bigE ps :: t) env c Q) : HC P N w0 l env c Q := zev _ (conv_bigN ps t (takeL_eq m h)) k
theorem zcm {R : Value → List HP → Prop} (hs : sub env' env) (hl : l = l') (h : RunQ P N w0 l' env' o R) : RunQ P N w0 l env o R := by subst hl; exact zcd hs h
theorem zcx (hs : sub env' env) (hl : l = l') (h : HL P N ops w0 l' env' rest Q) : HL P N ops w0 l env rest Q := by subst hl; exact hl_less hs (.refl _) h
theorem zdn {C X X' : List HP} {R : Value → List HP → Prop} (hs : sub env' env) (hl : X = X') (h : RunM P N w0 C X' env' o R) : RunM P N w0 C X env o R := by subst hl; exact rm_less hs (.refl _) h
theorem zck {t e s bytes n m i : Nat} {x y : Operand} {v u z : Value} {xs news : List Value} (hd : o.dst = some d) (hN : Nat.blt d N = true) (hw : want ops env o.guard = some true) (ho : o.op = .call { callee := .builtin .append, args := #[x, y], argTypes := #[t, t] })
    (hu : P.underlying t = some (.slice e)) (hinf : (P.info? e).map (fun i => (i.zero, i.size, i.bytes)) = some (some z, s, bytes)) (hzs : (Nat.beq z.cells.size s && Nat.blt 0 s && Nat.ble bytes 1000) = true)
    (hx : ev env x = some v) (hy : ev env y = some u) (hi : l[i]? = some (rowE e s v n xs)) (hr : Rd w0 l u s m news) (h1 : ∀ q ∈ news, q.oneCell' = true) (hnm : n + m ≤ 100000000000)
    {n' : Nat} {xs' : List Value} (hn' : n + m = n') (hx' : xs ++ news = xs') {L : Value → List HP} (hL : ∀ v', setLP l i (rowE e s v' n' xs') = some (L v'))
    (k : ∀ v', HL P N ops w0 (L v') ((d, v') :: env) rest Q) : HL P N ops w0 l env (o :: rest) Q := hl_append hd hN hw ho hu hinf hzs hx hy hi hr h1 hnm hn' hx' (fun v' => setLP_eq (hL v')) k
theorem zdh {t i e size n j : Nat} {x y : Operand} {xs : List Value} {v u : Value} (hd : o.dst = none) (hw : want ops env o.guard = some true) (ho : o.op = .store t x y) (hs : (P.info? t).map (·.size) = some 1)
    (hx : ev env x = some (elP v j)) (hy : ev env y = some u) (h1 : u.oneCell' = true) (hi : l[i]? = some (rowE e size v n xs)) (hlt : j < n * size)
    {n' : Nat} {xs' : List Value} (hn' : n = n') (hx' : xs.set j u = xs') (hl' : setLP l i (rowE e size v n' xs') = some l') (k : HL P N ops w0 l' env rest Q) : HL P N ops w0 l env (o :: rest) Q := hl_storeEl hd hw ho hs hx hy h1 hi hlt hn' hx' (setLP_eq hl') k
theorem hl_stB {t b off i : Nat} {x y : Operand} {cs cs' : Array Value} {tb : TypeId} {v : Value} (hd : o.dst = none) (hw : want ops env o.guard = some true) (ho : o.op = .store t x y) (hs : (P.info? t).map (·.size) = some 1)
    (hx : ev env x = some (.pointer (some ⟨b, off, none⟩))) (hy : ev env y = some v) (h1 : v.oneCell' = true) (hi : l[i]? = some (boxE b cs tb)) (hlt : Nat.blt off cs.size = true) (hcs : cs.setIfInBounds off v = cs')
    (hl' : setLP l i (boxE b cs' tb) = some l') (k : HL P N ops w0 l' env rest Q) : HL P N ops w0 l env (o :: rest) Q := hl_storeBox hd hw ho hs hx hy h1 hi hlt (by rw [hcs]; exact setLP_eq hl') k
theorem zbu {t b off i : Nat} {x y : Operand} {cs cs' : Array Value} {tb : TypeId} {us : List Value} (hd : o.dst = none) (hw : want ops env o.guard = some true) (ho : o.op = .store t x y) (hs : (P.info? t).map (·.size) = some us.length)
    (hx : ev env x = some (.pointer (some ⟨b, off, none⟩))) (hy : ev env y = some (.agg us.toArray)) (hi : l[i]? = some (boxE b cs tb)) (h1 : ∀ u ∈ us, u.oneCell' = true) (hlt : Nat.ble (off + us.length) cs.size = true) (hcs : putN cs off us = cs')
    (hl' : setLP l i (boxE b cs' tb) = some l') (k : HL P N ops w0 l' env rest Q) : HL P N ops w0 l env (o :: rest) Q := hl_storeBoxN hd hw ho hs hx hy hi h1 hlt hcs (setLP_eq hl') k
end
theorem conv_bg0 {w0 : World} {l : List HP} : Conv w0 l (bigE [] :: l) := fun w hm => Mem.big (ps := []) hm
theorem fS : (∀ (f : Nat → List HP) (a : Nat) (al : List Nat), (a :: al).flatMap f = f a ++ al.flatMap f) ∧ (∀ f : Nat → List HP, ([] : List Nat).flatMap f = []) ∧ (∀ xs : List HP, xs ++ [] = xs) ∧ (∀ xs : List HP, [] ++ xs = xs) ∧ (∀ (x : HP) (xs ys : List HP), (x :: xs) ++ ys = x :: (xs ++ ys)) := ⟨by simp, by simp, by simp, by simp, by simp⟩
def skL {α : Type} : List α → List Nat → Option (List α)
  | _, [] => some []
  | l, g :: gs => match dropL g l with
    | some (x :: t) => match skL t gs with
      | some r => some (x :: r)
      | none => none
    | _ => none
theorem skL_eq {α : Type} : ∀ (gs : List Nat) {l l' : List α}, skL l gs = some l' → l'.Sublist l
  | [], l, l', h => by simp only [skL, Option.some.injEq] at h; subst h; exact List.nil_sublist _
  | g :: gs, l, l', h => by
    simp only [skL] at h
    split at h
    · rename_i x t hd
      split at h
      · rename_i r hr
        simp only [Option.some.injEq] at h
        subst h
        obtain ⟨a, e, _⟩ := dropL_eq g hd
        rw [e]
        exact ((skL_eq gs hr).cons_cons x).trans (List.sublist_append_right a _)
      · cases h
    · cases h
theorem slQ {α : Type} {l l' : List α} (gs : List Nat) (h : skL l gs = some l') : l'.Sublist l := skL_eq gs h
theorem pfQ {α : Type} {l l' t : List α} (h : l' ++ t = l) : l'.Sublist l := h ▸ List.sublist_append_left l' t
def pickO (env : List (Nat × Value)) : List (Nat × Value) → Option (List (Nat × Value))
  | [] => some []
  | (k, _) :: t => match lk env k with
    | some v => match pickO env t with
      | some r => some ((k, v) :: r)
      | none => none
    | none => none
theorem pickO_sub {env : List (Nat × Value)} : ∀ (t : List (Nat × Value)) {r : List (Nat × Value)}, pickO env t = some r → sub r env
  | [], r, h => by simp only [pickO, Option.some.injEq] at h; subst h; exact zak _
  | (k, u) :: t, r, h => by
    simp only [pickO] at h
    split at h
    · rename_i v hv
      split at h
      · rename_i r' hr
        simp only [Option.some.injEq] at h
        subst h
        exact sub_cons hv (pickO_sub t hr)
      · cases h
    · cases h
theorem saQ {env env' : List (Nat × Value)} (h : pickO env env' = some env') : sub env' env := pickO_sub env' h
theorem sub_app {e1 e2 env : List (Nat × Value)} (h1 : sub e1 env) (h2 : sub e2 env) : sub (e1 ++ e2) env := fun p hp => (List.mem_append.1 hp).elim (h1 p) (h2 p)
section
variable {P : Program} {N : Nat} {w0 : World} {l l' : List HP} {env env' ec : List (Nat × Value)} {Q : Post} {o : Oper} {ops : Array Oper} {os rest : List Oper} {d : Nat}
def hdr (ops : Array Oper) (N : Nat) (env : List (Nat × Value)) (o : Oper) : Option Nat := match o.dst with
  | none => none
  | some d => bif Nat.blt d N then (match want ops env o.guard with
    | some true => some d
    | _ => none) else none
theorem hdr_eq (h : hdr ops N env o = some d) : o.dst = some d ∧ Nat.blt d N = true ∧ want ops env o.guard = some true := by
  unfold hdr at h
  split at h
  · cases h
  · rename_i d' hd
    cases hN : Nat.blt d' N with
    | false => rw [hN] at h; cases h
    | true =>
      rw [hN] at h; simp only [cond_true] at h
      split at h
      · rename_i hw; cases h; exact ⟨hd, hN, hw⟩
      · cases h
theorem hvQ {v : Value} (h : hdr ops N env o = some d) (r : RunV P N w0 l env o v) (k : HL P N ops w0 l ((d, v) :: env) rest Q) : HL P N ops w0 l env (o :: rest) Q := zeu (hdr_eq h).1 (hdr_eq h).2.1 (hdr_eq h).2.2 r k
theorem zdw {v : Value} (h : hdr ops N env o = some d) (r : RunQ P N w0 l env o (fun v' post => v' = v ∧ post = [])) (k : HL P N ops w0 l ((d, v) :: env) rest Q) : HL P N ops w0 l env (o :: rest) Q := hl_callV (hdr_eq h).1 (hdr_eq h).2.1 (hdr_eq h).2.2 r k
theorem zea {e s n : Nat} {cs : List Value} (h : hdr ops N env o = some d) (r : RunQ P N w0 l env o (IsRow e s n cs)) (k : ∀ b, HL P N ops w0 (rowE e s (.slice (some ⟨b, 0, none⟩) n n) n cs :: l) ((d, .slice (some ⟨b, 0, none⟩) n n) :: env) rest Q) : HL P N ops w0 l env (o :: rest) Q := hl_row (hdr_eq h).1 (hdr_eq h).2.1 (hdr_eq h).2.2 r k
theorem zei {cs : Array Value} {t : TypeId} (h : hdr ops N env o = some d) (r : RunQ P N w0 l env o (IsBox cs t)) (k : ∀ b, HL P N ops w0 (boxE b cs t :: l) ((d, .pointer (some ⟨b, 0, none⟩)) :: env) rest Q) : HL P N ops w0 l env (o :: rest) Q := hl_box (hdr_eq h).1 (hdr_eq h).2.1 (hdr_eq h).2.2 r k
def idxS (P : Program) (t s : Nat) : Bool := match P.underlying t with
  | some (.slice e) => match P.info? e with
    | some i => Nat.beq i.size s
    | none => false
  | _ => false
theorem idxS_eq {t s : Nat} (h : idxS P t s = true) : ∃ e, P.underlying t = some (.slice e) ∧ (P.info? e).map (·.size) = some s := by
  unfold idxS at h
  split at h
  · rename_i e he
    split at h
    · rename_i i hi
      exact ⟨e, he, by rw [hi, Option.map_some, Nat.eq_of_beq_eq_true h]⟩
    · cases h
  · cases h
theorem riQ {t n : Nat} {cs : List Value} {v : Value} {x i : Operand} {m : Int} {kk : IntKind} (s : Nat) (ho : o.op = .indexAddr t x i) (hs : idxS P t s = true) (hx : ev env x = some v) (hi : ev env i = some (.int kk m)) (hr : Rd w0 l v s n cs) (h0 : 0 ≤ m := by omega) (h1 : m < n := by omega) : RunV P N w0 l env o (elP v (m.toNat * s)) := by
  obtain ⟨e, h2, h3⟩ := idxS_eq hs
  exact zen ho h2 h3 hx hi hr h0 h1
def isSl (P : Program) (t : Nat) : Bool := match P.underlying t with
  | some (.slice _) => true
  | _ => false
theorem isSl_eq {t : Nat} (h : isSl P t = true) : ∃ e, P.underlying t = some (.slice e) := by
  unfold isSl at h
  split at h
  · rename_i e he; exact ⟨e, he⟩
  · cases h
theorem lnQ {t s n : Nat} {v : Value} {cs : List Value} {x : Operand} (ho : o.op = .call { callee := .builtin .len, args := #[x], argTypes := #[t] }) (hu : isSl P t = true) (hx : ev env x = some v) (hr : Rd w0 l v s n cs) : RunV P N w0 l env o (.int .i64 (n : Int)) := by
  obtain ⟨e, h⟩ := isSl_eq hu
  exact rv_len ho h hx hr
theorem lzQ {t n : Nat} {x : Operand} {v : Value} {xs : List Int} {m : Int} (ho : o.op = .load t x) (ha : aggB P t = some false) (hx : ev env x = some (elP v (m.toNat * 1))) (hr : Rd w0 l v 1 n (xs.map (Value.int .i64))) (h : m.toNat < xs.length := by omega) : RunV P N w0 l env o (.int .i64 (xs.getD m.toNat 0)) := zav ho ha hx hr (zcr h)
theorem liQ {t n m : Nat} {x : Operand} {v : Value} {xs : List Int} (ho : o.op = .load t x) (ha : aggB P t = some false) (hx : ev env x = some (elP v ((m : Int).toNat * 1))) (hr : Rd w0 l v 1 n (xs.map (Value.int .i64))) (h : m < xs.length := by omega) : RunV P N w0 l env o (.int .i64 (xs.getD m 0)) := zav ho ha hx hr (zcr (m := (m : Int)) h)
theorem fdQ {t : TypeId} {x : Operand} {f b off : Nat} (k0 : Nat) (ho : o.op = .fieldAddr t x f) (hf : fieldOff P t f = some k0) (hx : ev env x = some (.pointer (some ⟨b, off, none⟩))) : RunV P N w0 l env o (.pointer (some ⟨b, off + k0, none⟩)) := zef ho hf hx
theorem vaQ {t t' : TypeId} {x y : Operand} {m n : Int} (ho : o.op = .binOp .add t x y t') (hx : ev env x = some (.int .i64 m)) (hy : ev env y = some (.int .i64 n)) (hr : -9223372036854775808 ≤ m + n ∧ m + n ≤ 9223372036854775807 := by constructor <;> omega) : RunV P N w0 l env o (.int .i64 (m + n)) := zfl ho hx hy hr
theorem vsQ {t t' : TypeId} {x y : Operand} {m n : Int} (ho : o.op = .binOp .sub t x y t') (hx : ev env x = some (.int .i64 m)) (hy : ev env y = some (.int .i64 n)) (hr : -9223372036854775808 ≤ m - n ∧ m - n ≤ 9223372036854775807 := by constructor <;> omega) : RunV P N w0 l env o (.int .i64 (m - n)) := rv_sub ho hx hy hr
theorem ntQ {y : Code} (h : HC P N w0 l env y Q) : HL P N ops w0 l env [] (Exit.then (y.wp P Q) Q) := zay (zaj h)
theorem enQ (k : Nat) (h : evRun ops N k os env = some (env', [])) (H : HQ N w0 l env' .normal Q) : HL P N ops w0 l env os Q := zab k h (zay H)
theorem zbb (k : Nat) {y : Code} (h : evRun ops N k os env = some (env', [])) (H : HC P N w0 l env' y Q) : HL P N ops w0 l env os (Exit.then (y.wp P Q) Q) := zab k h (ntQ H)
theorem srQ {i : Nat} {y : Code} (h : HL P N os.toArray w0 l env os (Exit.then (y.wp P Q) Q)) : HC P N w0 l env (.seq (.region i os.toArray false) y) Q := zaa (zai h)
theorem ssrQ {i : Nat} {y z : Code} (h : HL P N os.toArray w0 l env os (Exit.then (y.wp P (Exit.then (z.wp P Q) Q)) (Exit.then (z.wp P Q) Q))) : HC P N w0 l env (.seq (.seq (.region i os.toArray false) y) z) Q := zaa (srQ h)
theorem reQ {i : Nat} (k : Nat) (h : evRun os.toArray N k os env = some (env', rest)) (H : HL P N os.toArray w0 l env' rest Q) : HC P N w0 l env (.region i os.toArray false) Q := zai (zab k h H)
theorem zbh {i : Nat} {y : Code} (k : Nat) (h : evRun os.toArray N k os env = some (env', [])) (H : HC P N w0 l env' y Q) : HC P N w0 l env (.seq (.region i os.toArray false) y) Q := srQ (zbb k h H)
theorem tcQ {c : Operand} {x y z : Code} (hc : ev env c = some (.bool true)) (h : HC P N w0 l env x (Exit.then (z.wp P Q) Q)) : HC P N w0 l env (.seq (.cond c x y) z) Q := zaa (zaq hc h)
theorem fcQ {c : Operand} {x y z : Code} (hc : ev env c = some (.bool false)) (h : HC P N w0 l env y (Exit.then (z.wp P Q) Q)) : HC P N w0 l env (.seq (.cond c x y) z) Q := zaa (zao hc h)
theorem fsQ {c : Operand} {x : Code} (hc : ev env c = some (.bool false)) (h : HQ N w0 l env .normal Q) : HC P N w0 l env (.cond c x .skip) Q := zao hc (zdg h)
theorem zcw {y : Code} (h : HC P N w0 l env y Q) : HC P N w0 l env .skip (Exit.then (y.wp P Q) Q) := zdg (zaj h)
theorem zdk {i : Nat} {y : Code} (h : HC P N w0 l env y Q) : HQ N w0 l env .normal (Exit.inBlock i (Exit.then (y.wp P Q) Q)) := zap (zaj h)
theorem sbQ {i : Nat} {c y : Code} (h : HC P N w0 l env c (Exit.inBlock i (Exit.then (y.wp P Q) Q))) : HC P N w0 l env (.seq (.block i c) y) Q := zaa (zba h)
theorem zep {i : Nat} {K K' : Act → World → Prop} {Q : Post} (h : HQ N w0 l env (.exit i) Q) : HQ N w0 l env (.exit i) (Exit.then K (Exit.then K' Q)) := h
theorem rt2Q {K K' : Act → World → Prop} {Q : Post} (h : HQ N w0 l env .ret Q) : HQ N w0 l env .ret (Exit.then K (Exit.then K' Q)) := h
theorem iaQ {v u : Value} (hw : want ops env o.guard = some true) (h : RunV P N w0 l env o v) (e : v = u) : ObV P ops N w0 l env o u := .inl ⟨hw, zcf h e⟩
theorem dqQ {R : Value → List HP → Prop} {dsts : List Nat} {vf : Nat → Value} {pf : Nat → List HP} (qs is : List Nat) (hw : want ops (envOf dsts vf is ++ env) o.guard = some true) (h : RunQ P N w0 (qs.flatMap pf ++ l) (envOf dsts vf is ++ env) o R) : Obl P ops N w0 (qs.flatMap pf ++ l) (envOf dsts vf is ++ env) o R := .inl ⟨hw, h⟩
theorem dq3Q {R : Value → List HP → Prop} {dsts : List (Option Nat)} {vf : Nat → Value} {pf : Nat → List HP} (qs is : List Nat) (hw : want ops (envOf3 dsts vf is ++ env) o.guard = some true) (h : RunQ P N w0 (qs.flatMap pf ++ l) (envOf3 dsts vf is ++ env) o R) : Obl P ops N w0 (qs.flatMap pf ++ l) (envOf3 dsts vf is ++ env) o R := .inl ⟨hw, h⟩
theorem ovQ {R : Value → List HP → Prop} (hw : want ops env o.guard = some true) (hs : sub env' env) (h : RunQ P N w0 l env' o R) : Obl P ops N w0 l env o R := .inl ⟨hw, zby hs (.refl _) h⟩
theorem olQ {X : List HP} {R : Value → List HP → Prop} (hw : want ops env o.guard = some true) (hs : sub env' env) (h : RunQ P N w0 l env' o R) : Obl P ops N w0 (X ++ l) env o R := .inl ⟨hw, zby hs (List.sublist_append_right _ _) h⟩
theorem lkQ1 {α : Type} {c : Code} (ks : List Nat) (hk : pickE env ks [] = some ec) (L : α → List HP) (E : α → List (Nat × Value)) (G : α → Prop) (m : α → Nat) (x0 : α) (hG : G x0) (hs : sub (E x0) env) (hl : (L x0).Sublist l)
    (round : ∀ x, G x → HC P N w0 (L x) (E x ++ ec) c (Exit.then (fun a' w' => ∃ x', G x' ∧ m x' < m x ∧ St N w0 (L x') (E x' ++ ec) a' w') Q)) : HC P N w0 l env (.loop c) Q := hc_loop1 L (fun x => E x ++ ec) G m x0 hG (sub_app hs (zau ks hk)) hl round
theorem lkQ2 {α β : Type} {c : Code} (ks : List Nat) (hk : pickE env ks [] = some ec) (L : α → β → List HP) (E : α → β → List (Nat × Value)) (G : α → β → Prop) (m : α → β → Nat) (x0 : α) (y0 : β) (hG : G x0 y0) (hs : sub (E x0 y0) env) (hl : (L x0 y0).Sublist l)
    (round : ∀ x y, G x y → HC P N w0 (L x y) (E x y ++ ec) c (Exit.then (fun a' w' => ∃ x' y', G x' y' ∧ m x' y' < m x y ∧ St N w0 (L x' y') (E x' y' ++ ec) a' w') Q)) : HC P N w0 l env (.loop c) Q := hc_loop2 L (fun x y => E x y ++ ec) G m x0 y0 hG (sub_app hs (zau ks hk)) hl round
theorem lkQ3 {α β γ : Type} {c : Code} (ks : List Nat) (hk : pickE env ks [] = some ec) (L : α → β → γ → List HP) (E : α → β → γ → List (Nat × Value)) (G : α → β → γ → Prop) (m : α → β → γ → Nat) (x0 : α) (y0 : β) (z0 : γ) (hG : G x0 y0 z0) (hs : sub (E x0 y0 z0) env) (hl : (L x0 y0 z0).Sublist l)
    (round : ∀ x y z, G x y z → HC P N w0 (L x y z) (E x y z ++ ec) c (Exit.then (fun a' w' => ∃ x' y' z', G x' y' z' ∧ m x' y' z' < m x y z ∧ St N w0 (L x' y' z') (E x' y' z' ++ ec) a' w') Q)) : HC P N w0 l env (.loop c) Q := hc_loop3 L (fun x y z => E x y z ++ ec) G m x0 y0 z0 hG (sub_app hs (zau ks hk)) hl round
theorem lkQ4 {α β γ δ : Type} {c : Code} (ks : List Nat) (hk : pickE env ks [] = some ec) (L : α → β → γ → δ → List HP) (E : α → β → γ → δ → List (Nat × Value)) (G : α → β → γ → δ → Prop) (m : α → β → γ → δ → Nat) (x0 : α) (y0 : β) (z0 : γ) (u0 : δ) (hG : G x0 y0 z0 u0) (hs : sub (E x0 y0 z0 u0) env) (hl : (L x0 y0 z0 u0).Sublist l)
    (round : ∀ x y z u, G x y z u → HC P N w0 (L x y z u) (E x y z u ++ ec) c (Exit.then (fun a' w' => ∃ x' y' z' u', G x' y' z' u' ∧ m x' y' z' u' < m x y z u ∧ St N w0 (L x' y' z' u') (E x' y' z' u' ++ ec) a' w') Q)) : HC P N w0 l env (.loop c) Q := hc_loop4 L (fun x y z u => E x y z u ++ ec) G m x0 y0 z0 u0 hG (sub_app hs (zau ks hk)) hl round
end
def smF (f : Nat → Int) : Nat → Int
  | 0 => 0
  | n + 1 => smF f n + f n
theorem zdf {f g : Nat → Int} : ∀ n, (∀ i, i < n → f i = g i) → smF f n = smF g n
  | 0, _ => rfl
  | n + 1, h => by unfold smF; rw [zdf n (fun i hi => h i (by omega)), h n (by omega)]
theorem zdz {f : Nat → Int} (n : Nat) (h : ∀ i, i < n → f i = 0) : smF f n = 0 := by
  rw [zdf n h]; induction n with
  | zero => rfl
  | succ n ih => unfold smF; rw [ih (fun i hi => h i (by omega))]; rfl
theorem smF_add (f g : Nat → Int) : ∀ n, smF (fun i => f i + g i) n = smF f n + smF g n
  | 0 => rfl
  | n + 1 => by unfold smF; rw [smF_add f g n]; omega
theorem smF_mul (a : Int) (f : Nat → Int) : ∀ n, smF (fun i => a * f i) n = a * smF f n
  | 0 => (Int.mul_zero a).symm
  | n + 1 => by unfold smF; rw [smF_mul a f n, Int.mul_add]
theorem smF_swap (f : Nat → Nat → Int) (m : Nat) : ∀ n, smF (fun i => smF (fun j => f i j) m) n = smF (fun j => smF (fun i => f i j) n) m
  | 0 => (zdz m (fun _ _ => rfl)).symm
  | n + 1 => by
    show smF (fun i => smF (fun j => f i j) m) n + smF (fun j => f n j) m = _
    rw [smF_swap f m n, ← smF_add]; rfl
theorem smF_le {f g : Nat → Int} : ∀ n, (∀ i, i < n → f i ≤ g i) → smF f n ≤ smF g n
  | 0, _ => Int.le_refl _
  | n + 1, h => by unfold smF; have := smF_le n (fun i hi => h i (by omega)); have := h n (by omega); omega
theorem smF_one {f : Nat → Int} {k : Nat} : ∀ n, k < n → (∀ i, i < n → i ≠ k → f i = 0) → smF f n = f k
  | 0, h, _ => absurd h (by omega)
  | n + 1, h, h0 => by
    unfold smF
    by_cases e : k = n
    · subst e; rw [zdz k (fun i hi => h0 i (by omega) (by omega))]; omega
    · rw [smF_one n (by omega) (fun i hi => h0 i (by omega)), h0 n (by omega) (by omega)]; omega
theorem smF_chg {f g : Nat → Int} {k n : Nat} (hk : k < n) (h : ∀ i, i < n → i ≠ k → g i = f i) : smF g n = smF f n + (g k - f k) := by
  have e : smF (fun i => f i + (if i = k then g k - f k else 0)) n = smF g n := zdf n (fun i hi => by
    by_cases c : i = k
    · subst c; simp; omega
    · rw [if_neg c, h i hi c]; omega)
  rw [← e, smF_add, smF_one (k := k) n hk (fun i _ hi => if_neg hi), if_pos rfl]
theorem smF_pos {f : Nat → Int} {k n : Nat} (hk : k < n) (h : ∀ i, i < n → 0 ≤ f i) : f k ≤ smF f n := by
  have h1 := smF_le (f := fun i => if i = k then f k else 0) (g := f) n (fun i hi => by
    show (if i = k then f k else 0) ≤ f i
    split
    · rename_i c; subst c; exact Int.le_refl _
    · exact h i hi)
  rw [smF_one (k := k) n hk (fun i _ hi => if_neg hi), if_pos rfl] at h1
  exact h1
structure FGr where
  M : Nat
  S : Nat
  fan : Nat → Nat → Prop
  leaf : Nat → Prop
  free : Nat → Prop
structure FGrOk (g : FGr) : Prop where
  s : g.S < g.M
  f : ∀ k c, g.fan k c → k < g.M ∧ c < g.M ∧ c ≠ g.S ∧ c ≠ k ∧ ¬ g.leaf k
  sl : ¬ g.leaf g.S
  sf : g.free g.S
abbrev Vx := Nat × Bool
def at1_o (x y : Vx) : Int := if x = y then 1 else 0
theorem zek (x : Vx) : at1_o x x = 1 := if_pos rfl
theorem zdv {x y : Vx} (h : x ≠ y) : at1_o x y = 0 := if_neg h
structure Fp (g : FGr) (E : Nat → Nat → Int) (I : Nat → Int) (x : Vx) : Prop where
  e0 : ∀ c k, 0 ≤ E c k
  ef : ∀ c k, 0 < E c k → g.fan k c
  i0 : ∀ k, 0 ≤ I k
  cap : ∀ k, ¬ g.free k → I k ≤ 1
  up : ∀ c, c < g.M → c ≠ g.S → smF (fun k => E c k) g.M = I c - at1_o x (c, true)
  dn : ∀ k, k < g.M → ¬ g.leaf k → I k - smF (fun c => E c k) g.M = - at1_o x (k, false)
structure Fl (g : FGr) (E : Nat → Nat → Int) (I : Nat → Int) : Prop where
  e0 : ∀ c k, 0 ≤ E c k
  ef : ∀ c k, 0 < E c k → g.fan k c
  i0 : ∀ k, 0 ≤ I k
  cap : ∀ k, ¬ g.free k → I k ≤ 1
  up : ∀ c, c < g.M → c ≠ g.S → smF (fun k => E c k) g.M = I c
  dn : ∀ k, k < g.M → ¬ g.leaf k → I k = smF (fun c => E c k) g.M
def updF (I : Nat → Int) (k : Nat) (x : Int) : Nat → Int := fun j => if j = k then x else I j
def updT (E : Nat → Nat → Int) (c k : Nat) (x : Int) : Nat → Nat → Int := fun i j => if i = c ∧ j = k then x else E i j
theorem zeq (I : Nat → Int) (k : Nat) (x : Int) : updF I k x k = x := if_pos rfl
theorem zel (I : Nat → Int) {k j : Nat} (x : Int) (h : j ≠ k) : updF I k x j = I j := if_neg h
theorem zft (E : Nat → Nat → Int) (c k : Nat) (x : Int) : updT E c k x c k = x := if_pos ⟨rfl, rfl⟩
theorem zee (E : Nat → Nat → Int) {c k i j : Nat} (x : Int) (h : ¬ (i = c ∧ j = k)) : updT E c k x i j = E i j := if_neg h
theorem Fl.start (g : FGr) : Fl g (fun _ _ => 0) (fun _ => 0) := ⟨fun _ _ => Int.le_refl _, fun _ _ h => absurd h (by decide), fun _ => Int.le_refl _, fun _ _ => by decide, fun c _ _ => zdz _ (fun _ _ => rfl), fun k _ _ => (zdz _ (fun _ _ => rfl)).symm⟩
theorem Fl.leaf {g : FGr} {E : Nat → Nat → Int} {I : Nat → Int} (h : Fl g E I) {k : Nat} (hk : g.leaf k) : Fp g E I (k, false) :=
  ⟨h.e0, h.ef, h.i0, h.cap, fun c hc hs => by rw [zdv (fun e => by cases e), h.up c hc hs]; omega, fun j hj hl => by
    rw [zdv (fun e => by cases e; exact hl hk), h.dn j hj hl]; omega⟩
theorem Fp.done {g : FGr} {E : Nat → Nat → Int} {I : Nat → Int} (h : Fp g E I (g.S, true)) : Fl g E I :=
  ⟨h.e0, h.ef, h.i0, h.cap, fun c hc hs => by rw [h.up c hc hs, zdv (fun e => hs (by cases e; rfl))]; omega, fun j hj hl => by
    have := h.dn j hj hl; rw [zdv (fun e => by cases e)] at this; omega⟩
theorem Fp.in' {g : FGr} {E : Nat → Nat → Int} {I : Nat → Int} {k : Nat} (h : Fp g E I (k, false)) (hk : k < g.M) (hc : g.free k ∨ I k = 0) : Fp g E (updF I k (I k + 1)) (k, true) := by
  refine ⟨h.e0, h.ef, fun j => ?_, fun j hf => ?_, fun c hc' hs => ?_, fun j hj hl => ?_⟩
  · unfold updF; split
    · have := h.i0 k; omega
    · exact h.i0 j
  · unfold updF; split
    · rename_i e; subst e
      rcases hc with hc | hc
      · exact absurd hc hf
      · omega
    · exact h.cap j hf
  · have e1 := h.up c hc' hs
    rw [zdv (fun e => by cases e)] at e1
    by_cases e : c = k
    · subst e; rw [zeq, zek]; omega
    · rw [zel _ _ e, zdv (fun e' => e (by cases e'; rfl))]; exact e1
  · have e1 := h.dn j hj hl
    rw [zdv (fun e => by cases e)]
    by_cases e : j = k
    · subst e; rw [zek] at e1; rw [zeq]; omega
    · rw [zdv (fun e' => e (by cases e'; rfl))] at e1; rw [zel _ _ e]; exact e1
theorem Fp.out {g : FGr} {E : Nat → Nat → Int} {I : Nat → Int} {k : Nat} (h : Fp g E I (k, true)) (hs0 : k ≠ g.S) (hc : 1 ≤ I k) : Fp g E (updF I k (I k - 1)) (k, false) := by
  refine ⟨h.e0, h.ef, fun j => ?_, fun j hf => ?_, fun c hc' hs => ?_, fun j hj hl => ?_⟩
  · unfold updF; split
    · omega
    · exact h.i0 j
  · unfold updF; split
    · rename_i e; subst e; have := h.cap j hf; omega
    · exact h.cap j hf
  · have e1 := h.up c hc' hs
    rw [zdv (fun e => by cases e)]
    by_cases e : c = k
    · subst e; rw [zek] at e1; rw [zeq]; omega
    · rw [zdv (fun e' => e (by cases e'; rfl))] at e1; rw [zel _ _ e]; exact e1
  · have e1 := h.dn j hj hl
    rw [zdv (fun e => by cases e)] at e1
    by_cases e : j = k
    · subst e; rw [zeq, zek]; omega
    · rw [zel _ _ e, zdv (fun e' => e (by cases e'; rfl))]; exact e1
theorem updT_row {E : Nat → Nat → Int} {c k M : Nat} (hk : k < M) (x : Int) (i : Nat) : smF (fun j => updT E c k x i j) M = smF (fun j => E i j) M + (if i = c then x - E c k else 0) := by
  by_cases e : i = c
  · subst e
    rw [smF_chg (f := fun j => E i j) (g := fun j => updT E i k x i j) hk (fun j _ hj => zee _ _ (fun h => hj h.2)), if_pos rfl]
    show _ + (updT E i k x i k - E i k) = _
    rw [zft]
  · rw [if_neg e, zdf (g := fun j => E i j) M (fun j _ => zee _ _ (fun h => e h.1))]; omega
theorem updT_col {E : Nat → Nat → Int} {c k M : Nat} (hc : c < M) (x : Int) (j : Nat) : smF (fun i => updT E c k x i j) M = smF (fun i => E i j) M + (if j = k then x - E c k else 0) := by
  by_cases e : j = k
  · subst e
    rw [smF_chg (f := fun i => E i j) (g := fun i => updT E c j x i j) hc (fun i _ hi => zee _ _ (fun h => hi h.1)), if_pos rfl]
    show _ + (updT E c j x c j - E c j) = _
    rw [zft]
  · rw [if_neg e, zdf (g := fun i => E i j) M (fun i _ => zee _ _ (fun h => e h.2))]; omega
theorem Fp.down {g : FGr} (hg : FGrOk g) {E : Nat → Nat → Int} {I : Nat → Int} {c k : Nat} (h : Fp g E I (c, true)) (hf : g.fan k c) : Fp g (updT E c k (E c k + 1)) I (k, false) := by
  obtain ⟨hk, hc, hcs, hck, hl⟩ := hg.f k c hf
  refine ⟨fun i j => ?_, fun i j hp => ?_, h.i0, h.cap, fun i hi hs => ?_, fun j hj hlj => ?_⟩
  · unfold updT; split
    · have := h.e0 c k; omega
    · exact h.e0 i j
  · by_cases e : i = c ∧ j = k
    · rw [e.1, e.2]; exact hf
    · rw [zee _ _ e] at hp; exact h.ef i j hp
  · have e1 := h.up i hi hs
    rw [updT_row hk, zdv (x := (k, false)) (fun e => by cases e)]
    by_cases e : i = c
    · subst e; rw [zek] at e1; rw [if_pos rfl]; omega
    · rw [zdv (fun e' => e (by cases e'; rfl))] at e1; rw [if_neg e]; omega
  · have e1 := h.dn j hj hlj
    rw [zdv (fun e => by cases e)] at e1
    rw [updT_col hc]
    by_cases e : j = k
    · subst e; rw [if_pos rfl, zek]; omega
    · rw [if_neg e, zdv (fun e' => e (by cases e'; rfl))]; omega
theorem Fp.back {g : FGr} (hg : FGrOk g) {E : Nat → Nat → Int} {I : Nat → Int} {c k : Nat} (h : Fp g E I (k, false)) (hp : 1 ≤ E c k) : Fp g (updT E c k (E c k - 1)) I (c, true) := by
  have hf := h.ef c k (by omega)
  obtain ⟨hk, hc, hcs, hck, hl⟩ := hg.f k c hf
  refine ⟨fun i j => ?_, fun i j hq => ?_, h.i0, h.cap, fun i hi hs => ?_, fun j hj hlj => ?_⟩
  · unfold updT; split
    · omega
    · exact h.e0 i j
  · by_cases e : i = c ∧ j = k
    · rw [e.1, e.2]; exact hf
    · rw [zee _ _ e] at hq; exact h.ef i j hq
  · have e1 := h.up i hi hs
    rw [zdv (fun e => by cases e)] at e1
    rw [updT_row hk, e1]
    by_cases e : i = c
    · subst e; rw [if_pos rfl, zek]; omega
    · rw [if_neg e, zdv (fun e' => e (by cases e'; rfl))]; omega
  · have e1 := h.dn j hj hlj
    rw [updT_col hc, zdv (fun e => by cases e)]
    by_cases e : j = k
    · subst e; rw [zek] at e1; rw [if_pos rfl]; omega
    · rw [zdv (fun e' => e (by cases e'; rfl))] at e1; rw [if_neg e]; omega
def Av (g : FGr) (E : Nat → Nat → Int) (I : Nat → Int) (y z : Vx) : Prop :=
  (y.2 = true ∧ z = (y.1, false) ∧ y.1 < g.M ∧ (g.free y.1 ∨ I y.1 = 0)) ∨
  (y.2 = false ∧ z = (y.1, true) ∧ y.1 ≠ g.S ∧ 1 ≤ I y.1) ∨
  (y.2 = false ∧ z.2 = true ∧ g.fan y.1 z.1) ∨
  (y.2 = true ∧ z.2 = false ∧ 1 ≤ E y.1 z.1)
theorem fp_step {g : FGr} (hg : FGrOk g) {E : Nat → Nat → Int} {I : Nat → Int} {x y : Vx} (h : Fp g E I x) (ha : Av g E I y x) :
    ∃ E' I', Fp g E' I' y ∧ (∀ y' z', (y' ≠ y ∨ z' ≠ x) → (y' ≠ x ∨ z' ≠ y) → Av g E I y' z' → Av g E' I' y' z') ∧
      (x.2 = false → y = (x.1, true) → E' = E ∧ I' = updF I x.1 (I x.1 + 1)) ∧ (x.2 = true → y = (x.1, false) → E' = E ∧ I' = updF I x.1 (I x.1 - 1)) ∧
      (x.2 = true → y.2 = false → y.1 ≠ x.1 → I' = I ∧ E' = updT E x.1 y.1 (E x.1 y.1 + 1)) ∧ (x.2 = false → y.2 = true → y.1 ≠ x.1 → I' = I ∧ E' = updT E y.1 x.1 (E y.1 x.1 - 1)) := by
  obtain ⟨x1, x2⟩ := x
  obtain ⟨y1, y2⟩ := y
  rcases ha with ⟨h1, h2, h3, h4⟩ | ⟨h1, h2, h3, h4⟩ | ⟨h1, h2, h3⟩ | ⟨h1, h2, h3⟩
  · simp only [Prod.mk.injEq] at h1 h2 h3 h4; obtain ⟨rfl, rfl⟩ := h2; subst h1
    refine ⟨E, _, h.in' h3 h4, fun y' z' n1 n2 a => ?_, fun _ _ => ⟨rfl, rfl⟩, fun e => (nomatch e), fun e => (nomatch e), fun _ _ e => absurd rfl e⟩
    rcases a with ⟨a1, a2, a3, a4⟩ | ⟨a1, a2, a3, a4⟩ | a | a
    · refine .inl ⟨a1, a2, a3, ?_⟩
      by_cases e : y'.1 = x1
      · rcases n1 with n1 | n1
        · exact absurd (Prod.ext e a1) n1
        · exact absurd (a2.trans (by rw [e])) n1
      · rw [zel _ _ e]; exact a4
    · refine .inr (.inl ⟨a1, a2, a3, ?_⟩)
      by_cases e : y'.1 = x1
      · rcases n2 with n1 | n1
        · exact absurd (Prod.ext e a1) n1
        · exact absurd (a2.trans (by rw [e])) n1
      · rw [zel _ _ e]; exact a4
    · exact .inr (.inr (.inl a))
    · exact .inr (.inr (.inr a))
  · simp only [Prod.mk.injEq] at h1 h2 h3 h4; obtain ⟨rfl, rfl⟩ := h2; subst h1
    refine ⟨E, _, h.out h3 h4, fun y' z' n1 n2 a => ?_, fun e => (nomatch e), fun _ _ => ⟨rfl, rfl⟩, fun _ _ e => absurd rfl e, fun e => (nomatch e)⟩
    rcases a with ⟨a1, a2, a3, a4⟩ | ⟨a1, a2, a3, a4⟩ | a | a
    · refine .inl ⟨a1, a2, a3, ?_⟩
      by_cases e : y'.1 = x1
      · rcases n2 with n1 | n1
        · exact absurd (Prod.ext e a1) n1
        · exact absurd (a2.trans (by rw [e])) n1
      · rw [zel _ _ e]; exact a4
    · refine .inr (.inl ⟨a1, a2, a3, ?_⟩)
      by_cases e : y'.1 = x1
      · rcases n1 with n1 | n1
        · exact absurd (Prod.ext e a1) n1
        · exact absurd (a2.trans (by rw [e])) n1
      · rw [zel _ _ e]; exact a4
    · exact .inr (.inr (.inl a))
    · exact .inr (.inr (.inr a))
  · simp only at h1 h2 h3; subst h1; subst h2
    have hne := (hg.f _ _ h3).2.2.2.1
    refine ⟨_, I, h.down hg h3, fun y' z' n1 n2 a => ?_, fun e => (nomatch e), fun _ e => absurd (by cases e; rfl) hne, fun _ _ _ => ⟨rfl, rfl⟩, fun e => (nomatch e)⟩
    rcases a with a | a | a | ⟨a1, a2, a3⟩
    · exact .inl a
    · exact .inr (.inl a)
    · exact .inr (.inr (.inl a))
    · refine .inr (.inr (.inr ⟨a1, a2, ?_⟩))
      by_cases e : y'.1 = x1 ∧ z'.1 = y1
      · rcases n2 with n1 | n1
        · exact absurd (Prod.ext e.1 a1) n1
        · exact absurd (Prod.ext e.2 a2) n1
      · rw [zee _ _ e]; exact a3
  · simp only at h1 h2 h3; subst h1; subst h2
    have hne := (hg.f _ _ (h.ef _ _ (show 0 < E y1 x1 by omega))).2.2.2.1
    refine ⟨_, I, h.back hg h3, fun y' z' n1 n2 a => ?_, fun _ e => absurd (by cases e; rfl) hne, fun e => (nomatch e), fun e => (nomatch e), fun _ _ _ => ⟨rfl, rfl⟩⟩
    rcases a with a | a | a | ⟨a1, a2, a3⟩
    · exact .inl a
    · exact .inr (.inl a)
    · exact .inr (.inr (.inl a))
    · refine .inr (.inr (.inr ⟨a1, a2, ?_⟩))
      by_cases e : y'.1 = y1 ∧ z'.1 = x1
      · rcases n1 with n1 | n1
        · exact absurd (Prod.ext e.1 a1) n1
        · exact absurd (Prod.ext e.2 a2) n1
      · rw [zee _ _ e]; exact a3
open Classical in
noncomputable def indF (p : Nat → Prop) (k : Nat) : Int := if p k then 1 else 0
theorem zfm {p : Nat → Prop} {k : Nat} (h : p k) : indF p k = 1 := if_pos h
theorem indF_no {p : Nat → Prop} {k : Nat} (h : ¬ p k) : indF p k = 0 := if_neg h
theorem flow_out {g : FGr} (hg : FGrOk g) {E : Nat → Nat → Int} {I : Nat → Int} (h : Fl g E I) {R : Nat → Prop} (hs : R g.S) (hl : ∀ k, R k → ¬ g.leaf k) :
    I g.S = smF (fun c => smF (fun k => (indF R k - indF R c) * E c k) g.M) g.M := by
  have e1 : smF (fun k => indF R k * I k) g.M = smF (fun c => smF (fun k => indF R k * E c k) g.M) g.M := by
    rw [smF_swap (fun c k => indF R k * E c k)]
    refine zdf _ (fun k hk => ?_)
    show indF R k * I k = smF (fun c => indF R k * E c k) g.M
    rw [smF_mul]
    by_cases c : R k
    · rw [h.dn k hk (hl k c)]
    · rw [indF_no c]; omega
  have e2 : smF (fun c => indF R c * I c) g.M = I g.S + smF (fun c => smF (fun k => indF R c * E c k) g.M) g.M := by
    have hz : smF (fun k => E g.S k) g.M = 0 := zdz _ (fun k _ => by
      have h0 := h.e0 g.S k
      by_cases c : 0 < E g.S k
      · exact absurd rfl (hg.f _ _ (h.ef _ _ c)).2.2.1
      · omega)
    have e3 : smF (fun c => indF R c * smF (fun k => E c k) g.M + (if c = g.S then I g.S else 0)) g.M = smF (fun c => indF R c * I c) g.M := zdf _ (fun c hc => by
      by_cases e : c = g.S
      · subst e; rw [hz, if_pos rfl, zfm hs]; omega
      · rw [h.up c hc e, if_neg e]; omega)
    rw [← e3, smF_add, smF_one (f := fun c => if c = g.S then I g.S else 0) (k := g.S) _ hg.s (fun i _ hi => if_neg hi), if_pos rfl]
    rw [zdf (f := fun c => smF (fun k => indF R c * E c k) g.M) (g := fun c => indF R c * smF (fun k => E c k) g.M) _ (fun c _ => smF_mul _ _ _)]
    omega
  have e4 : smF (fun c => smF (fun k => (indF R k - indF R c) * E c k) g.M) g.M + smF (fun c => smF (fun k => indF R c * E c k) g.M) g.M = smF (fun c => smF (fun k => indF R k * E c k) g.M) g.M := by
    rw [← smF_add]
    refine zdf _ (fun c _ => ?_)
    show smF _ _ + smF _ _ = smF _ _
    rw [← smF_add]
    refine zdf _ (fun k _ => ?_)
    show (indF R k - indF R c) * E c k + indF R c * E c k = indF R k * E c k
    rw [← Int.add_mul]; congr 1; omega
  omega
inductive Btw (g : FGr) (C : Nat → Prop) : Nat → Prop
  | s : Btw g C g.S
  | f {k c : Nat} : Btw g C k → g.fan k c → ¬ C c → Btw g C c
theorem Btw.nc {g : FGr} {C : Nat → Prop} (hs : ¬ C g.S) {k : Nat} (h : Btw g C k) : ¬ C k := by cases h <;> assumption
def sumFL (f : Nat → Int) : List Nat → Int
  | [] => 0
  | x :: t => f x + sumFL f t
theorem smF_list {f : Nat → Int} (h0 : ∀ k, 0 ≤ f k) : ∀ (C : List Nat) (n : Nat), (∀ c, c < n → f c ≠ 0 → c ∈ C) → smF f n ≤ sumFL f C
  | [], n, h => by
    rw [zdz n (fun i hi => by
      by_cases e : f i = 0
      · exact e
      · exact absurd (h i hi e) (by simp))]; exact Int.le_refl _
  | x :: t, n, h => by
    have ih := smF_list (f := fun i => if i = x then 0 else f i) (fun k => by show 0 ≤ (if k = x then 0 else f k); split; exact Int.le_refl _; exact h0 k) t n (fun c hc hn => by
      have e : c ≠ x := fun e => hn (if_pos e)
      rw [if_neg e] at hn
      exact (List.mem_cons.1 (h c hc hn)).resolve_left e)
    have e2 : ∀ l : List Nat, sumFL (fun i => if i = x then 0 else f i) l ≤ sumFL f l := fun l => by
      induction l with
      | nil => exact Int.le_refl _
      | cons y l il => unfold sumFL; have := h0 y; split <;> omega
    have e1 : smF f n ≤ smF (fun i => if i = x then 0 else f i) n + f x := by
      by_cases c : x < n
      · rw [smF_chg (f := fun i => if i = x then 0 else f i) (g := f) c (fun i _ hi => (if_neg hi).symm), if_pos rfl]; omega
      · rw [zdf (f := f) (g := fun i => if i = x then 0 else f i) n (fun i hi => (if_neg (by omega)).symm)]; have := h0 x; omega
    have := e2 t
    unfold sumFL; omega
theorem weakF {g : FGr} (hg : FGrOk g) {E : Nat → Nat → Int} {I : Nat → Int} (h : Fl g E I) (C : List Nat) (hf : ∀ c ∈ C, ¬ g.free c) (hb : ∀ k, Btw g (· ∈ C) k → ¬ g.leaf k) : I g.S ≤ C.length := by
  have hsC : ¬ g.S ∈ C := fun e => hf _ e hg.sf
  rw [flow_out hg h (R := Btw g (· ∈ C)) .s hb]
  have h0 : ∀ c, c < g.M → smF (fun k => (indF (Btw g (· ∈ C)) k - indF (Btw g (· ∈ C)) c) * E c k) g.M ≤ (if c ∈ C then I c else 0) := fun c hc => by
    by_cases e : c ∈ C
    · rw [if_pos e]
      have hcs : c ≠ g.S := fun e' => hsC (e' ▸ e)
      rw [← h.up c hc hcs]
      refine smF_le _ (fun k _ => ?_)
      rw [indF_no (p := Btw g (· ∈ C)) (k := c) (fun b => b.nc hsC e)]
      have := h.e0 c k
      by_cases d : Btw g (· ∈ C) k
      · rw [zfm d]; omega
      · rw [indF_no d]; omega
    · rw [if_neg e]
      rw [← zdz (f := fun _ => 0) g.M (fun _ _ => rfl)]
      refine smF_le _ (fun k _ => ?_)
      have h1 := h.e0 c k
      by_cases d : Btw g (· ∈ C) k
      · by_cases p : 0 < E c k
        · rw [zfm d, zfm (Btw.f d (h.ef c k p) e)]; omega
        · have : E c k = 0 := by omega
          rw [this]; omega
      · rw [indF_no d]
        by_cases b : Btw g (· ∈ C) c
        · rw [zfm b]; omega
        · rw [indF_no b]; omega
  have h1 := smF_le g.M h0
  have h2 := smF_list (f := fun c => if c ∈ C then I c else 0) (fun k => by
    show 0 ≤ (if k ∈ C then I k else 0)
    split
    · exact h.i0 k
    · exact Int.le_refl _) C g.M (fun c _ hn => by
    by_cases e : c ∈ C
    · exact e
    · exact absurd (if_neg e) hn)
  have h3 : ∀ l : List Nat, (∀ c ∈ l, ¬ g.free c) → sumFL (fun c => if c ∈ C then I c else 0) l ≤ l.length := fun l => by
    induction l with
    | nil => intro _; exact Int.le_refl _
    | cons y l il =>
      intro hl
      have := il (fun c hc => hl c (List.mem_cons_of_mem _ hc))
      have h4 := h.cap y (hl y List.mem_cons_self)
      unfold sumFL; rw [List.length_cons]
      split <;> omega
  have := h3 C hf
  omega
structure Rchd (g : FGr) (E : Nat → Nat → Int) (I : Nat → Int) (R : Vx → Prop) : Prop where
  s : R (g.S, false)
  clo : ∀ y z, R y → Av g E I y z → z.1 < g.M → R z ∨ z = (g.S, true)
  leaf : ∀ k, R (k, false) → ¬ g.leaf k
  su : ∀ k, R (k, true) → k < g.M
theorem leastF {g : FGr} (hg : FGrOk g) {E : Nat → Nat → Int} {I : Nat → Int} (h : Fl g E I) {R : Vx → Prop} (hr : Rchd g E I R) (C : List Nat) (hn : C.Nodup) (hC : ∀ c, c ∈ C ↔ R (c, true) ∧ ¬ R (c, false) ∧ c ≠ g.S) :
    I g.S = C.length ∧ (∀ c ∈ C, ¬ g.free c) ∧ (∀ k, Btw g (· ∈ C) k → R (k, false)) := by
  have hI : ∀ c ∈ C, I c = 1 ∧ ¬ g.free c := fun c hc => by
    obtain ⟨h1, h2, h3⟩ := (hC c).1 hc
    have hnf : ¬ g.free c := fun e => by
      rcases hr.clo (c, true) (c, false) h1 (.inl ⟨rfl, rfl, hr.su c h1, .inl e⟩) (hr.su c h1) with a | a
      · exact h2 a
      · cases a
    refine ⟨?_, hnf⟩
    have h4 := h.cap c hnf
    have h5 := h.i0 c
    by_cases e : I c = 0
    · rcases hr.clo (c, true) (c, false) h1 (.inl ⟨rfl, rfl, hr.su c h1, .inr e⟩) (hr.su c h1) with a | a
      · exact absurd a h2
      · cases a
    · omega
  have hfan : ∀ k c, R (k, false) → g.fan k c → R (c, true) := fun k c hk hf => by
    have := hg.f k c hf
    rcases hr.clo (k, false) (c, true) hk (.inr (.inr (.inl ⟨rfl, rfl, hf⟩))) this.2.1 with a | a
    · exact a
    · cases a; exact absurd rfl this.2.2.1
  refine ⟨?_, fun c hc => (hI c hc).2, fun k hk => ?_⟩
  · rw [flow_out hg h (R := fun k => R (k, false)) hr.s hr.leaf]
    have h0 : ∀ c, c < g.M → smF (fun k => (indF (fun k => R (k, false)) k - indF (fun k => R (k, false)) c) * E c k) g.M = (if c ∈ C then 1 else 0) := fun c hc => by
      by_cases rc : R (c, false)
      · rw [if_neg (fun e => ((hC c).1 e).2.1 rc)]
        refine zdz _ (fun k hk => ?_)
        rw [zfm (p := fun k => R (k, false)) (k := c) rc]
        by_cases p : 0 < E c k
        · have hcs : c ≠ g.S := (hg.f _ _ (h.ef c k p)).2.2.1
          have hic : 1 ≤ I c := by
            rw [← h.up c hc hcs]
            have := smF_pos (f := fun k => E c k) hk (fun i _ => h.e0 c i)
            have h9 : E c k ≤ smF (fun k => E c k) g.M := this
            omega
          have h1 : R (c, true) := by
            rcases hr.clo (c, false) (c, true) rc (.inr (.inl ⟨rfl, rfl, hcs, hic⟩)) hc with a | a
            · exact a
            · cases a; exact absurd rfl hcs
          have h2 : R (k, false) := by
            rcases hr.clo (c, true) (k, false) h1 (.inr (.inr (.inr ⟨rfl, rfl, by show 1 ≤ E c k; omega⟩))) hk with a | a
            · exact a
            · cases a
          rw [zfm (p := fun k => R (k, false)) (k := k) h2]; omega
        · have := h.e0 c k
          have : E c k = 0 := by omega
          rw [this]; omega
      · by_cases e : c ∈ C
        · rw [if_pos e, ← (hI c e).1, ← h.up c hc ((hC c).1 e).2.2]
          refine zdf _ (fun k hk => ?_)
          rw [indF_no (p := fun k => R (k, false)) (k := c) rc]
          by_cases p : 0 < E c k
          · have h2 : R (k, false) := by
              rcases hr.clo (c, true) (k, false) ((hC c).1 e).1 (.inr (.inr (.inr ⟨rfl, rfl, by show 1 ≤ E c k; omega⟩))) hk with a | a
              · exact a
              · cases a
            rw [zfm (p := fun k => R (k, false)) (k := k) h2]; omega
          · have := h.e0 c k
            have : E c k = 0 := by omega
            rw [this]; omega
        · rw [if_neg e]
          refine zdz _ (fun k hk => ?_)
          rw [indF_no (p := fun k => R (k, false)) (k := c) rc]
          by_cases rk : R (k, false)
          · by_cases p : 0 < E c k
            · have hf := h.ef c k p
              exact absurd ((hC c).2 ⟨hfan k c rk hf, rc, (hg.f k c hf).2.2.1⟩) e
            · have := h.e0 c k
              have : E c k = 0 := by omega
              rw [this]; omega
          · rw [indF_no (p := fun k => R (k, false)) (k := k) rk]; omega
    rw [zdf _ h0]
    have hlt : ∀ c ∈ C, c < g.M := fun c hc => hr.su c ((hC c).1 hc).1
    clear h0 hI hC
    have key : ∀ (l : List Nat), l.Nodup → (∀ c ∈ l, c < g.M) → smF (fun c => if c ∈ l then 1 else 0) g.M = l.length := fun l => by
      induction l with
      | nil => intro _ _; exact zdz _ (fun _ _ => by simp)
      | cons y t it =>
        intro hn hl
        rw [List.nodup_cons] at hn
        have := it hn.2 (fun c hc => hl c (List.mem_cons_of_mem _ hc))
        rw [smF_chg (f := fun c => if c ∈ t then (1 : Int) else 0) (g := fun c => if c ∈ y :: t then (1 : Int) else 0) (hl y List.mem_cons_self) (fun i _ hi => by simp [hi]), this, if_pos List.mem_cons_self, if_neg hn.1, List.length_cons]
        omega
    exact key C hn hlt
  · induction hk with
    | s => exact hr.s
    | @f k c _ hf hc ih =>
      by_cases rc : R (c, false)
      · exact rc
      · exact absurd ((hC c).2 ⟨hfan k c ih hf, rc, (hg.f k c hf).2.2.1⟩) hc
namespace Bit
open Go
end Bit
section
variable {P : Program} {N : Nat} {w0 : World} {l : List HP} {env : List (Nat × Value)} {o : Oper}
theorem rv_min {t : Array TypeId} {x y : Operand} {m n : Int} (ho : o.op = .call { callee := .builtin .min, args := #[x, y], argTypes := t }) (hx : ev env x = some (.int .i64 m)) (hy : ev env y = some (.int .i64 n)) : RunV P N w0 l env o (.int .i64 (min m n)) := fun a w st => by
  have e : (if n < m then n else m) = min m n := by split <;> omega
  have bm : ∀ (ats : Array TypeId) (ty : TypeId) (cs : Array Bool) (args : Array Value), builtin .min ats ty cs args = (do pure (.value (← Builtin.min_ ats ty args))) := fun _ _ _ _ => rfl
  have h := run_min_int2 (P := P) w t o.type .i64 .i64 m n
  simp only [execOp, ho, resolve, invoke, bm, Sem.run_bind, Sem.run_pure, Result.andThen_ok, List.map_toArray, List.map_cons, List.map_nil, st.eval hx, st.eval hy, h, GT.gt, e]
end
theorem zbj {α : Type} {l : List α} {k : Nat} {d : α} (h : k < l.length) : l.getD k d ∈ l := by
  rw [List.getD_eq_getElem?_getD, List.getElem?_eq_getElem h]; exact List.getElem_mem h
theorem zfx {α : Type} {l m : List α} {k : Nat} {d : α} (h : k < l.length) : (l ++ m).getD k d = l.getD k d := by
  rw [List.getD_eq_getElem?_getD, List.getElem?_append_left h, ← List.getD_eq_getElem?_getD]
theorem getD_right {α : Type} {l m : List α} {k : Nat} {d : α} (h : l.length ≤ k) : (l ++ m).getD k d = m.getD (k - l.length) d := by
  rw [List.getD_eq_getElem?_getD, List.getElem?_append_right h, ← List.getD_eq_getElem?_getD]
structure An where
  a : Int
  b : Int
abbrev an0 : An := ⟨0, 0⟩
def anC (r : An) : List Value := [.int .i64 r.a, .int .i64 r.b]
structure Sq where
  kd : Int
  it : Int
  iv : Value
  xs : List Int
abbrev sq0 : Sq := ⟨0, 0, .slice none 0 0, []⟩
def sqC (r : Sq) : List Value := [.int .i64 r.kd, .int .i64 r.it, r.iv]
abbrev sqPart (r : Sq) : HP := rowE 3 1 r.iv r.xs.length (r.xs.map (Value.int .i64))
abbrev sqsE (v : Value) (ss : List Sq) : HP := bigE [bigE (ss.map sqPart), rowE 59 3 v ss.length (ss.flatMap sqC)]
structure Nt where
  ins : Int
  sv : Value
  av : Value
  ov : Value
  ss : List Sq
  gs : List An
  os : List Int
abbrev Nt.agg (n : Nt) : Value := .agg #[.int .i64 n.ins, n.sv, n.av, n.ov]
abbrev ntE (n : Nt) : HP := bigE [sqsE n.sv n.ss, rowE 47 2 n.av n.gs.length (n.gs.flatMap anC), rowE 3 1 n.ov n.os.length (n.os.map (Value.int .i64))]
structure RdsNt (w : World) (n : Nt) : Prop where
  sq : RdsW w n.sv 3 n.ss.length (n.ss.flatMap sqC)
  xs : ∀ s ∈ n.ss, RdsW w s.iv 1 s.xs.length (s.xs.map (Value.int .i64))
  an : RdsW w n.av 2 n.gs.length (n.gs.flatMap anC)
  ou : RdsW w n.ov 1 n.os.length (n.os.map (Value.int .i64))
theorem RdsNt.below {w w' : World} {n : Nt} (h : RdsNt w n) (hb : Below w.heap.size w w') : RdsNt w' n := ⟨h.sq.below hb, fun s hs => (h.xs s hs).below hb, h.an.below hb, h.ou.below hb⟩
theorem RdsNt.at {w : World} {n : Nt} (h : RdsNt w n) {k : Nat} (hk : k < n.ss.length) : RdsW w (n.ss.getD k sq0).iv 1 (n.ss.getD k sq0).xs.length ((n.ss.getD k sq0).xs.map (Value.int .i64)) := h.xs _ (zbj hk)
theorem zfu {w0 : World} {l : List HP} {n : Nt} (i : Nat) (hi : l[i]? = some (ntE n)) (w : World) (hm : Mem w0 l w) : RdsNt w n := by
  obtain ⟨b1, -⟩ := hm.holds _ (zbw hi)
  have c1 := (b1 _ (List.mem_cons_self)).2
  have c2 := (b1 _ (List.mem_cons_of_mem _ List.mem_cons_self)).2
  have c3 := (b1 _ (List.mem_cons_of_mem _ (List.mem_cons_of_mem _ List.mem_cons_self))).2
  obtain ⟨d1, -⟩ := c1
  have e1 := (d1 _ (List.mem_cons_self)).2
  have e2 := (d1 _ (List.mem_cons_of_mem _ List.mem_cons_self)).2
  exact ⟨zcz e2, fun s hs => zcz (e1.1 (sqPart s) (List.mem_map.2 ⟨s, hs, rfl⟩)).2, zcz c2, zcz c3⟩
def Nt.fst (n : Nt) : Int := 1 + n.ins + n.ss.length
def Nt.cnt (n : Nt) : Int := 1 + n.ins + n.ss.length + n.gs.length
def LtOk (x m : Int) : Prop := 0 ≤ x ∧ x < 2 * m
structure SqOk (s : Sq) : Prop where
  kind : (s.kd = 0 ∧ (0 ≤ s.it ∧ s.it ≤ 1) ∧ s.xs.length = 1) ∨ (s.kd = 1 ∧ (0 ≤ s.it ∧ s.it ≤ 31) ∧ s.xs.length = 4)
structure NtOk (n : Nt) : Prop where
  i0 : 0 ≤ n.ins
  i1 : n.ins ≤ 20
  s1 : n.ss.length ≤ 12
  a1 : n.gs.length ≤ 300
  o1 : n.os.length ≤ 16
  sq : ∀ s ∈ n.ss, SqOk s
  xs : ∀ s ∈ n.ss, ∀ x ∈ s.xs, LtOk x n.cnt
  an : ∀ k, k < n.gs.length → LtOk (n.gs.getD k an0).a (n.fst + k) ∧ LtOk (n.gs.getD k an0).b (n.fst + k)
  ou : ∀ x ∈ n.os, LtOk x n.cnt
theorem SqOk.len {s : Sq} (h : SqOk s) : s.xs.length ≤ 4 := by rcases h.kind with ⟨_, _, h⟩ | ⟨_, _, h⟩ <;> omega
def rtsL (n : Nt) (k : Nat) : List Int := n.os ++ (n.ss.take k).flatMap Sq.xs
theorem zdi {α : Type} {l : List α} {k : Nat} (d : α) (h : k < l.length) : l.take (k + 1) = l.take k ++ [l.getD k d] := by
  rw [List.take_succ_eq_append_getElem h, List.getD_eq_getElem?_getD, List.getElem?_eq_getElem h]; rfl
theorem rts_step (n : Nt) {k : Nat} (h : k < n.ss.length) : rtsL n k ++ (n.ss.getD k sq0).xs = rtsL n (k + 1) := by
  unfold rtsL; rw [zdi sq0 h, List.flatMap_append, List.append_assoc]; simp
theorem rts_len {n : Nt} (h : NtOk n) : ∀ k, k ≤ n.ss.length → (rtsL n k).length ≤ 16 + 4 * k
  | 0, _ => by have := h.o1; simp [rtsL]; omega
  | k + 1, hk => by
    rw [← rts_step n (by omega), List.length_append]
    have := rts_len h k (by omega)
    have := (h.sq _ (zbj (d := sq0) (show k < n.ss.length by omega))).len
    omega
theorem rts_ok {n : Nt} (h : NtOk n) {i : Nat} (hi : i < (rtsL n n.ss.length).length) : LtOk ((rtsL n n.ss.length).getD i 0) n.cnt := by
  have hm := zbj (d := (0 : Int)) hi
  generalize (rtsL n n.ss.length).getD i 0 = x at *
  unfold rtsL at hm
  rw [List.take_length, List.mem_append, List.mem_flatMap] at hm
  rcases hm with hm | ⟨s, hs, hx⟩
  · exact h.ou x hm
  · exact h.xs s hs x hx
def bitL (v : List Int) (l : Int) : Int := if l % 2 = 0 then v.getD (l / 2).toNat 0 else 1 - v.getD (l / 2).toNat 0
def B01 (v : List Int) : Prop := ∀ k, k < v.length → v.getD k 0 = 0 ∨ v.getD k 0 = 1
def leafL (n : Nt) (st : List Int) (inp : Int) : List Int := [0] ++ (List.range n.ins.toNat).map (fun k => inp / 2 ^ k % 2) ++ st.map (· % 2)
def valL (n : Nt) (st : List Int) (inp : Int) (k : Nat) : List Int := (n.gs.take k).foldl (fun v a => v ++ [bitL v a.a * bitL v a.b]) (leafL n st inp)
abbrev valsL (n : Nt) (st : List Int) (inp : Int) : List Int := valL n st inp n.gs.length
open Go.RowKit
theorem hq_oneX {N : Nat} {w0 : World} {l : List HP} {env : List (Nat × Value)} {Q : Post} {ex : Exit} {i e s n : Nat} {v : Value} {xs : List Value} (hi : l[i]? = some (rowE e s v n xs)) (k : v.oneCell' = true → HQ N w0 l env ex Q) : HQ N w0 l env ex Q := fun a w st => k (zcz (st.mem.holds _ (zbw hi))).one a w st
def AnsOk (f : Int) (gs : List An) : Prop := ∀ k, k < gs.length → LtOk (gs.getD k an0).a (f + k) ∧ LtOk (gs.getD k an0).b (f + k)
theorem ans_app {f : Int} {gs : List An} {a b : Int} (h : AnsOk f gs) (ha : LtOk a (f + gs.length)) (hb : LtOk b (f + gs.length)) : AnsOk f (gs ++ [An.mk a b]) := fun k hk => by
  rw [List.length_append, List.length_singleton] at hk
  by_cases hc : k < gs.length
  · rw [zfx hc]; exact h k hc
  · rw [getD_right (by omega), show k - gs.length = 0 by omega, show k = gs.length by omega]; exact ⟨ha, hb⟩
def SqsOk (m : Int) (ss : List Sq) : Prop := ∀ s ∈ ss, SqOk s ∧ ∀ x ∈ s.xs, LtOk x m
theorem sqs_app {m : Int} {ss : List Sq} {s : Sq} (h : SqsOk m ss) (h1 : SqOk s) (h2 : ∀ x ∈ s.xs, LtOk x m) : SqsOk m (ss ++ [s]) := fun r hr => by
  rcases List.mem_append.1 hr with hr | hr
  · exact h r hr
  · rw [List.mem_singleton] at hr; subst hr; exact ⟨h1, h2⟩
def OsOk (m : Int) (os : List Int) : Prop := ∀ x ∈ os, LtOk x m
theorem os_app {m : Int} {os : List Int} {x : Int} (h : OsOk m os) (hx : LtOk x m) : OsOk m (os ++ [x]) := fun r hr => by
  rcases List.mem_append.1 hr with hr | hr
  · exact h r hr
  · rw [List.mem_singleton] at hr; subst hr; exact hx
theorem conv_snocX {w0 : World} {ps l : List HP} {p : HP} : Conv w0 (bigE ps :: p :: l) (bigE (ps ++ [p]) :: l) := fun w hm => by
  have h1 : Mem w0 (ps ++ (p :: l)) w := hm.unbig
  have h2 : Mem w0 ((ps ++ [p]) ++ l) w := by simpa using h1
  exact h2.big
theorem nt_mk {ins m f : Int} {sv av ov : Value} {ss : List Sq} {gs : List An} {os : List Int} (h0 : 0 ≤ ins) (h1 : ins ≤ 20) (h2 : ss.length ≤ 12) (h3 : gs.length ≤ 300) (h4 : os.length ≤ 16) (h5 : SqsOk m ss) (h6 : AnsOk f gs) (h7 : OsOk m os)
    (hf : f = 1 + ins + ss.length) (hm : m = 1 + ins + ss.length + gs.length) : NtOk (Nt.mk ins sv av ov ss gs os) := by
  subst hf hm
  exact ⟨h0, h1, h2, h3, h4, fun s hs => (h5 s hs).1, fun s hs => (h5 s hs).2, h6, h7⟩
end Go.Proofs.Ytdagfahfgpjglaa
