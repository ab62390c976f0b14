/- The logic of states: rules for the operations. -/
import Derived.Test.YteccnnpcigkmhaaLog
import Derived.Laws.Bits
import Derived.Great.BuildSlice
set_option linter.unusedVariables false
set_option linter.unusedSimpArgs false
namespace Go.Proofs.Yteccnnpcigkmhaa
open Go.RowKit
/-- a whole block -/
def boxE (b : Nat) (cs : Array Value) (t : TypeId) : HP := ⟨fun k => k = b, fun w => w.heap[b]? = some (.cells cs t (0, 0))⟩
/-- a slice of the call's own -/
def rowE (e size : Nat) (v : Value) (n : Nat) (xs : List Value) : HP := ⟨fun k => v.ownBlock = some k, fun w => w.ownsRow 0 e size v n xs⟩
theorem boxE_ok (b cs t) : (boxE b cs t).Ok := fun w w' _ hb h => by show w'.heap[b]? = _; rw [hb b rfl]; exact h
theorem rowE_ok (e size v n xs) : (rowE e size v n xs).Ok := fun w w' hs hb h => by
  refine ⟨h.1, ?_⟩
  rcases h.2 with hn | ⟨g, cap, cur, rfl, hB, hgg, rest⟩
  · exact .inl hn
  · exact .inr ⟨g, cap, cur, rfl, hB, by rw [hb g rfl]; exact hgg, rest⟩
theorem own_base {w : World} {B B' E size n : Nat} {v : Value} {xs : List Value} (h : w.ownsRow B E size v n xs) (hB : ∀ k, v.ownBlock = some k → B' ≤ k) : w.ownsRow B' E size v n xs := by
  refine ⟨h.1, ?_⟩
  rcases h.2 with hn | ⟨g, cap, cur, rfl, h1, rest⟩
  · exact .inl hn
  · exact .inr ⟨g, cap, cur, rfl, hB g rfl, rest⟩
theorem cell_of_heap {w : World} {b o : Nat} {cs : Array Value} {t : TypeId} {fr : Nat × Nat} (h : w.heap[b]? = some (.cells cs t fr)) : w.cell? ⟨b, o, none⟩ = cs[o]? := by simp [World.cell?, h]
theorem frozen_of_heap {w : World} {b o : Nat} {cs : Array Value} {t : TypeId} (h : w.heap[b]? = some (.cells cs t (0, 0))) : w.frozen? ⟨b, o, none⟩ = false := by simp [World.frozen?, h]
theorem mem_at {l : List HP} {i : Nat} {p : HP} (h : l[i]? = some p) : p ∈ l := List.mem_of_getElem? h
theorem box_cell {w0 : World} {l : List HP} {b : Nat} {cs : Array Value} {t : TypeId} (i : Nat) (h : l[i]? = some (boxE b cs t)) {o : Nat} {v : Value} (hc : cs[o]? = some v) : ∀ w, Mem w0 l w → w.cell? ⟨b, o, none⟩ = some v := fun w hm =>
  (cell_of_heap (hm.holds _ (mem_at h))).trans hc
/-- new on top -/
theorem Mem.alloc {w0 w : World} {l : List HP} (h : Mem w0 l w) (cs : Array Value) (t : TypeId) : Mem w0 (boxE w.heap.size cs t :: l) (w.alloc (.cells cs t)) := by
  have hb : Below w.heap.size w (w.alloc (.cells cs t)) := bel_alloc (Below.refl _ _) _
  have : Mem w [boxE w.heap.size cs t] (w.alloc (.cells cs t)) := by
    refine ⟨hb, ?_, ?_, ?_, by simp⟩
    · intro p hp; rw [List.mem_singleton] at hp; subst hp; exact heap_alloc_new w _
    · intro p hp; rw [List.mem_singleton] at hp; subst hp; exact boxE_ok _ _ _
    · intro p hp b hf; rw [List.mem_singleton] at hp; subst hp; cases hf; rw [size_alloc']; omega
  exact h.app this
theorem Mem.newRow {w0 w w' : World} {l : List HP} {e size n : Nat} {v : Value} {xs : List Value} (h : Mem w0 l w) (ho : w'.ownsRow w.heap.size e size v n xs) (hb : Below w.heap.size w w') : Mem w0 (rowE e size v n xs :: l) w' := by
  have : Mem w [rowE e size v n xs] w' := by
    refine ⟨hb, ?_, ?_, ?_, by simp⟩
    · intro p hp; rw [List.mem_singleton] at hp; subst hp; exact own_base ho (fun _ _ => Nat.zero_le _)
    · intro p hp; rw [List.mem_singleton] at hp; subst hp; exact rowE_ok _ _ _ _ _
    · intro p hp b hf; rw [List.mem_singleton] at hp; subst hp; exact ho.lt b hf
  exact h.app this
theorem perm_set {l : List HP} {i : Nat} {p p' : HP} (hi : l[i]? = some p) : ∃ r, l.Perm (p :: r) ∧ (p' :: r).Perm (l.set i p') := by
  induction l generalizing i with
  | nil => simp at hi
  | cons q l ih =>
    cases i with
    | zero =>
      simp at hi
      subst hi
      exact ⟨l, .refl _, .refl _⟩
    | succ i =>
      obtain ⟨r, h1, h2⟩ := ih (i := i) (by simpa using hi)
      exact ⟨q :: r, (h1.cons q).trans (.swap _ _ _), (List.Perm.swap _ _ _).trans (h2.cons q)⟩
theorem Mem.turnAt {w0 w w' : World} {p p' : HP} {l : List HP} {i : Nat} (hi : l[i]? = some p) (h : Mem w0 l w) (hos : w'.os = w.os) (htape : w'.tape = w.tape) (hout : w'.output = w.output) (hs : w.heap.size ≤ w'.heap.size)
    (hk : ∀ b, b < w.heap.size → ¬ p.foot b → w'.heap[b]? = w.heap[b]?) (ho : p'.Ok) (hn : ∀ b, p'.foot b → p.foot b ∨ w.heap.size ≤ b) (hl : ∀ b, p'.foot b → b < w'.heap.size) (hp : p'.holds w') : Mem w0 (l.set i p') w' := by
  obtain ⟨r, h1, h2⟩ := perm_set (p' := p') hi
  exact ((h.perm h1).turn hos htape hout hs hk ho hn hl hp).perm h2
theorem Mem.setBox {w0 w : World} {l : List HP} {b : Nat} {cs : Array Value} {t : TypeId} {i : Nat} (hi : l[i]? = some (boxE b cs t)) (h : Mem w0 l w) (o : Nat) (v : Value) : Mem w0 (l.set i (boxE b (cs.setIfInBounds o v) t)) (w.setCell ⟨b, o, none⟩ v) := by
  have hb : w.heap[b]? = some (.cells cs t (0, 0)) := h.holds _ (mem_at hi)
  refine h.turnAt hi rfl rfl rfl (by simp [World.setCell]) (fun k _ hf => Below.heap_setCell w _ v k (fun e => hf e)) (boxE_ok _ _ _) (fun k hk => .inl hk) (fun k hk => ?_) ?_
  · cases hk; simp only [World.setCell, Array.size_modify]; exact (h.new _ (mem_at hi) b rfl).2
  · show (w.setCell ⟨b, o, none⟩ v).heap[b]? = _
    exact heap_setCell_same w b o cs t v hb
theorem Mem.setRow {w0 w : World} {l : List HP} {e size n g cap : Nat} {xs : List Value} {i : Nat} (hi : l[i]? = some (rowE e size (.slice (some ⟨g, 0, none⟩) n cap) n xs)) (h : Mem w0 l w) (j : Nat) (u : Value) : Mem w0 (l.set i (rowE e size (.slice (some ⟨g, 0, none⟩) n cap) n (xs.set j u))) (w.setCell ⟨g, j, none⟩ u) := by
  have hb : w.ownsRow 0 e size (.slice (some ⟨g, 0, none⟩) n cap) n xs := h.holds _ (mem_at hi)
  have hst := hb.stored j u
  refine h.turnAt hi rfl rfl rfl (by simp [World.setCell]) (fun k _ hf => Below.heap_setCell w _ u k (fun e => hf (by subst e; rfl))) (rowE_ok _ _ _ _ _) (fun k hk => .inl hk) (fun k hk => ?_) hst.1
  have e : g = k := by simpa [rowE, Value.ownBlock] using hk
  subst e
  have := (h.new _ (mem_at hi) g rfl).2
  simpa [World.setCell] using this
/-- the slice v reads as the cells cs, n elements of s cells -/
def RdsW (w : World) (v : Value) (s n : Nat) (cs : List Value) : Prop :=
  ∃ a cap, v = .slice a n cap ∧ cs.length = n * s ∧ (n ≤ 9223372036854775807 ∧ n ≤ cap) ∧ (0 < n → ∃ b off, a = some ⟨b, off, none⟩ ∧ ∀ j u, cs[j]? = some u → w.cell? ⟨b, off + j, none⟩ = some u)
def Rd (w0 : World) (l : List HP) (v : Value) (s n : Nat) (cs : List Value) : Prop := ∀ w, Mem w0 l w → RdsW w v s n cs
theorem rdsW_own {w : World} {B e size n : Nat} {v : Value} {xs : List Value} (ho : w.ownsRow B e size v n xs) : RdsW w v size n xs := by
  have h1 := ho.1
  rcases ho.2 with ⟨rfl, rfl⟩ | ⟨g, cap, cur, rfl, hB, hgg, hn, hcap, hsz, htk⟩
  · exact ⟨_, _, rfl, h1, ⟨by omega, by omega⟩, fun h => absurd h (by omega)⟩
  · refine ⟨_, _, rfl, h1, ⟨by unfold maxLen at hcap; omega, hn⟩, fun _ => ⟨g, 0, rfl, fun j u hj => ?_⟩⟩
    have hlt : j < n * size := by rw [← h1]; exact (List.getElem?_eq_some_iff.1 hj).1
    rw [Nat.zero_add, World.ownsRow.cellAt ⟨h1, .inr ⟨g, cap, cur, rfl, hB, hgg, hn, hcap, hsz, htk⟩⟩ j hlt]; exact hj
theorem rd_row {w0 : World} {l : List HP} {e size n : Nat} {v : Value} {xs : List Value} (i : Nat) (hi : l[i]? = some (rowE e size v n xs)) : Rd w0 l v size n xs := fun w hm => rdsW_own (hm.holds _ (mem_at hi))
theorem RdsW.below {w w' : World} {v : Value} {s n : Nat} {cs : List Value} (h : RdsW w v s n cs) (hb : Below w.heap.size w w') : RdsW w' v s n cs := by
  obtain ⟨a, cap, rfl, h1, h2, h3⟩ := h
  refine ⟨a, cap, rfl, h1, h2, fun hp => ?_⟩
  obtain ⟨b, off, rfl, hc⟩ := h3 hp
  exact ⟨b, off, rfl, fun j u hj => (hb.cell (p := ⟨b, off + j, none⟩) (World.block_lt_of_cell? _ _ (hc j u hj))).trans (hc j u hj)⟩
theorem rd_old {w0 : World} {v : Value} {s n : Nat} {cs : List Value} (h : RdsW w0 v s n cs) {l : List HP} : Rd w0 l v s n cs := fun w hm => h.below hm.bel
theorem rd_nil {w0 : World} {l : List HP} {a : Option Addr} {cap s : Nat} : Rd w0 l (.slice a 0 cap) s 0 [] := fun w hm => ⟨_, _, rfl, by simp, ⟨by omega, by omega⟩, fun h => absurd h (by omega)⟩
/-- the address o cells behind a slice's head -/
def elP (v : Value) (o : Nat) : Value := match v with | .slice (some ⟨b, off, none⟩) _ _ => .pointer (some ⟨b, off + o, none⟩) | _ => undef
theorem run_size {P : Program} {e s : Nat} (h : (P.info? e).map (·.size) = some s) (w : World) : (sizeOf e).run P w = .ok s w := by
  obtain ⟨i, hi, rfl⟩ := Option.map_eq_some_iff.1 h
  simp [sizeOf, typeInfo, hi]
def aggB (P : Program) (t : TypeId) : Option Bool := match P.underlying t with | some (.struct _) => some true | some (.array _ _) => some true | some _ => some false | none => none
theorem run_agg {P : Program} {t : TypeId} {c : Bool} (h : aggB P t = some c) (w : World) : (isAgg t).run P w = .ok c w := by
  unfold aggB at h
  unfold isAgg
  cases hu : P.underlying t with
  | none => rw [hu] at h; cases h
  | some d => rw [hu] at h; cases d <;> simp_all [run_underlying hu]
/-- the offset of a field that has cells -/
def fieldOff (P : Program) (t : TypeId) (f : Nat) : Option Nat := match P.underlying t with
  | some (.struct fs) => match fs[f]? with
    | some fd => match P.info? fd.type with | some i => bif Nat.beq i.size 0 then none else some fd.offset | none => none
    | none => none
  | _ => none
theorem add_lit (b o k : Nat) : (⟨b, o, none⟩ : Addr).add k = ⟨b, o + k, none⟩ := by unfold Addr.add; split <;> simp_all
theorem run_field {P : Program} {t : TypeId} {f off : Nat} (h : fieldOff P t f = some off) (b o : Nat) (w : World) : (Instr.fieldAt t (.pointer (some ⟨b, o, none⟩)) f).run P w = .ok (.pointer (some ⟨b, o + off, none⟩)) w := by
  unfold fieldOff at h
  cases hu : P.underlying t with
  | none => rw [hu] at h; cases h
  | some d =>
    rw [hu] at h
    cases d <;> simp only at h <;> try (cases h; done)
    rename_i fs
    cases hf : fs[f]? with
    | none => rw [hf] at h; cases h
    | some fd =>
      rw [hf] at h
      simp only at h
      cases hi : P.info? fd.type with
      | none => rw [hi] at h; cases h
      | some i =>
        rw [hi] at h
        simp only at h
        cases hz : Nat.beq i.size 0 with
        | true => rw [hz] at h; cases h
        | false =>
          rw [hz] at h
          simp at h
          subst h
          have hne : ¬ i.size = 0 := fun e => by rw [e] at hz; cases hz
          have hs : (sizeOf fd.type).run P w = .ok i.size w := run_size (by rw [hi]; rfl) w
          simp [Instr.fieldAt, run_underlying hu, hf, Instr.sureAddr, fieldPlace, hs, hne, add_lit]
section
variable {P : Program} {N : Nat} {w0 : World} {l l' : List HP} {env env' : List (Nat × Value)} {Q : Post} {ops : Array Oper} {rest : List Oper} {o : Oper} {d : Nat}
def evOp (env : List (Nat × Value)) : Op → Option Value
  | .move x => ev env x
  | .assign x => ev env x
  | .pick c a b => match ev env c with | some (.bool true) => ev env a | some (.bool false) => ev env b | _ => none
  | .unOp .not _ x => match ev env x with | some (.bool b) => some (.bool !b) | _ => none
  | .extract t i => match ev env t with | some (.tuple vs) => vs[i]? | _ => none
  | _ => none
/-- an operation that yields a value and leaves the world as it is -/
def RunV (P : Program) (N : Nat) (w0 : World) (l : List HP) (env : List (Nat × Value)) (o : Oper) (v : Value) : Prop := ∀ a w, St N w0 l env a w → (execOp a.eval o).run P w = .ok (.value v) w
theorem hl_v {v : Value} (hd : o.dst = some d) (hN : Nat.blt d N = true) (hw : want ops env o.guard = some true) (h : RunV P N w0 l env o v) (k : HL P N ops w0 l ((d, v) :: env) rest Q) : HL P N ops w0 l env (o :: rest) Q := hl_value hd hN hw h k
theorem rv_less {v : Value} (hs : sub env' env) (hl : l'.Sublist l) (h : RunV P N w0 l' env' o v) : RunV P N w0 l env o v := fun a w st => h a w (st.less hs hl)
theorem run_evOp {a w} (st : St N w0 l env a w) {v : Value} (h : evOp env o.op = some v) : (execOp a.eval o).run P w = .ok (.value v) w := by
  obtain ⟨dst, op, ty, pos, af, gd⟩ := o
  simp only at h
  cases op <;> simp only [evOp] at h <;> try (cases h; done)
  case move x => simp [execOp, st.eval h]
  case assign x => simp [execOp, st.eval h]
  case pick c x y =>
    split at h
    · rename_i hc; simp [execOp, st.eval hc, asBool, st.eval h]
    · rename_i hc; simp [execOp, st.eval hc, asBool, st.eval h]
    · cases h
  case unOp u t x =>
    cases u <;> simp only [evOp] at h <;> try (cases h; done)
    split at h
    · rename_i hc; cases h; simp [execOp, st.eval hc, Op.unary]
    · cases h
  case extract t i =>
    split at h
    · rename_i vs hc; simp [execOp, st.eval hc, Instr.extract, h]
    · cases h
theorem rv_ev {v : Value} (h : evOp env o.op = some v) : RunV P N w0 l env o (v) := fun a w st => run_evOp st h
/-- arithmetic and comparisons on ints -/
theorem run_arith {a w} (st : St N w0 l env a w) {op : BinOp} {t t' : TypeId} {x y : Operand} {m n r : Int} (ho : o.op = .binOp op t x y t') (hx : ev env x = some (.int .i64 m)) (hy : ev env y = some (.int .i64 n))
    (hop : (op = .add ∧ IntKind.i64.wrap (m + n) = r) ∨ (op = .sub ∧ IntKind.i64.wrap (m - n) = r) ∨ (op = .mul ∧ IntKind.i64.wrap (m * n) = r)) : (execOp a.eval o).run P w = .ok (.value (.int .i64 r)) w := by
  rcases hop with ⟨rfl, rfl⟩ | ⟨rfl, rfl⟩ | ⟨rfl, rfl⟩ <;> simp [execOp, ho, st.eval hx, st.eval hy, eqGuard, binOp, Op.intArith]
theorem rv_add {t t' : TypeId} {x y : Operand} {m n : Int} (ho : o.op = .binOp .add t x y t') (hx : ev env x = some (.int .i64 m)) (hy : ev env y = some (.int .i64 n))
    (hr : -9223372036854775808 ≤ m + n ∧ m + n ≤ 9223372036854775807) : RunV P N w0 l env o (.int .i64 (m + n)) := fun a w st => run_arith st ho hx hy (.inl ⟨rfl, IntWalk.i64_in _ hr⟩)
theorem rv_sub {t t' : TypeId} {x y : Operand} {m n : Int} (ho : o.op = .binOp .sub t x y t') (hx : ev env x = some (.int .i64 m)) (hy : ev env y = some (.int .i64 n))
    (hr : -9223372036854775808 ≤ m - n ∧ m - n ≤ 9223372036854775807) : RunV P N w0 l env o (.int .i64 (m - n)) := fun a w st => run_arith st ho hx hy (.inr (.inl ⟨rfl, IntWalk.i64_in _ hr⟩))
theorem rv_mul {t t' : TypeId} {x y : Operand} {m n : Int} (ho : o.op = .binOp .mul t x y t') (hx : ev env x = some (.int .i64 m)) (hy : ev env y = some (.int .i64 n))
    (hr : -9223372036854775808 ≤ m * n ∧ m * n ≤ 9223372036854775807) : RunV P N w0 l env o (.int .i64 (m * n)) := fun a w st => run_arith st ho hx hy (.inr (.inr ⟨rfl, IntWalk.i64_in _ hr⟩))
theorem rv_quo {t t' : TypeId} {x y : Operand} {m n : Int} (ho : o.op = .binOp .quo t x y t') (hx : ev env x = some (.int .i64 m)) (hy : ev env y = some (.int .i64 n))
    (hr : 0 ≤ m ∧ m ≤ 9223372036854775807 ∧ 1 ≤ n) : RunV P N w0 l env o (.int .i64 (m / n)) := fun a w st => by
    have hne : ¬ n = 0 := by omega
    have e := IntWalk.i64_quo m n hr
    simp [execOp, ho, st.eval hx, st.eval hy, eqGuard, binOp, Op.intDiv, hne, e]
theorem rv_quoS {t t' : TypeId} {x y : Operand} {m n : Int} (ho : o.op = .binOp .quo t x y t') (hx : ev env x = some (.int .i64 m)) (hy : ev env y = some (.int .i64 n))
    (hr : -9223372036854775808 ≤ m ∧ m ≤ 9223372036854775807 ∧ 1 ≤ n) : RunV P N w0 l env o (.int .i64 (m.tdiv n)) := fun a w st => by
    have hne : ¬ n = 0 := by omega
    have e := IntWalk.i64_quo' m n hr
    simp [execOp, ho, st.eval hx, st.eval hy, eqGuard, binOp, Op.intDiv, hne, e]
theorem rv_rem {t t' : TypeId} {x y : Operand} {m n : Int} (ho : o.op = .binOp .rem t x y t') (hx : ev env x = some (.int .i64 m)) (hy : ev env y = some (.int .i64 n))
    (hr : 0 ≤ m ∧ n ≠ 0) : RunV P N w0 l env o (.int .i64 (m % n)) := fun a w st => by
    have hne : ¬ n = 0 := hr.2
    have e := IntWalk.rem_in m n hr.1
    simp [execOp, ho, st.eval hx, st.eval hy, eqGuard, binOp, Op.intDiv, hne, e]
theorem rv_remS {t t' : TypeId} {x y : Operand} {m n : Int} (ho : o.op = .binOp .rem t x y t') (hx : ev env x = some (.int .i64 m)) (hy : ev env y = some (.int .i64 n))
    (hr : n ≠ 0) : RunV P N w0 l env o (.int .i64 (m.tmod n)) := fun a w st => by simp [execOp, ho, st.eval hx, st.eval hy, eqGuard, binOp, Op.intDiv, hr]
theorem rv_neg {t : TypeId} {x : Operand} {m : Int} (ho : o.op = .unOp .neg t x) (hx : ev env x = some (.int .i64 m))
    (hr : -9223372036854775807 ≤ m) (hr2 : m ≤ 9223372036854775807) : RunV P N w0 l env o (.int .i64 (-m)) := fun a w st => by
    have e : IntKind.i64.wrap (0 - m) = -m := by rw [Int.zero_sub]; exact IntWalk.i64_in _ (by omega)
    simp only [Int.zero_sub] at e
    simp [execOp, ho, st.eval hx, Op.unary, Op.intArith, e]
theorem rv_bits {op : BinOp} {t t' : TypeId} {x y : Operand} {m n : Int} (ho : o.op = .binOp op t x y t') (hop : op = .and ∨ op = .or ∨ op = .xor ∨ op = .andNot)
    (hx : ev env x = some (.int .i64 m)) (hy : ev env y = some (.int .i64 n)) {r : Int} (hr : bits op .i64 m n = r) : RunV P N w0 l env o (.int .i64 r) := fun a w st => by
    subst hr
    rcases hop with rfl | rfl | rfl | rfl <;> (simp [execOp, ho, st.eval hx, st.eval hy, eqGuard, binOp]; rfl)
theorem rv_shl {t t' : TypeId} {x y : Operand} {kk kk' : IntKind} {m n : Int} (ho : o.op = .binOp .shl t x y t') (hx : ev env x = some (.int .i64 m)) (hy : ev env y = some (.int kk n))
    (hn : 0 ≤ n ∧ n ≤ 63) (hr : -9223372036854775808 ≤ m * 2 ^ n.toNat ∧ m * 2 ^ n.toNat ≤ 9223372036854775807) : RunV P N w0 l env o (.int .i64 (m * 2 ^ n.toNat)) := fun a w st => by
    have h1 : ¬ n < 0 := by omega
    have h2 : min n.toNat IntKind.i64.bits = n.toNat := by have : IntKind.i64.bits = 64 := rfl; omega
    simp [execOp, ho, st.eval hx, st.eval hy, eqGuard, binOp, Op.shift, h1, h2, IntWalk.i64_in _ hr]
theorem rv_shr {t t' : TypeId} {x y : Operand} {kk : IntKind} {m n : Int} (ho : o.op = .binOp .shr t x y t') (hx : ev env x = some (.int .i64 m)) (hy : ev env y = some (.int kk n))
    (hn : 0 ≤ n ∧ n ≤ 64) : RunV P N w0 l env o (.int .i64 (m / 2 ^ n.toNat)) := fun a w st => by
    have h1 : ¬ n < 0 := by omega
    have h2 : min n.toNat IntKind.i64.bits = n.toNat := by have : IntKind.i64.bits = 64 := rfl; omega
    have h3 : m.fdiv (2 ^ n.toNat) = m / 2 ^ n.toNat := Int.fdiv_eq_ediv_of_nonneg _ (Int.pow_nonneg (by decide))
    simp [execOp, ho, st.eval hx, st.eval hy, eqGuard, binOp, Op.shift, h1, h2, h3]
def cmpOp : BinOp → Int → Int → Option Bool
  | .lss, m, n => some (decide (m < n))
  | .leq, m, n => some (decide (m ≤ n))
  | .gtr, m, n => some (decide (n < m))
  | .geq, m, n => some (decide (n ≤ m))
  | .eql, m, n => some (m == n)
  | .neq, m, n => some (m != n)
  | _, _, _ => none
theorem rv_cmp {op : BinOp} {t t' : TypeId} {x y : Operand} {m n : Int} {c : Bool} {kk : IntKind} (ho : o.op = .binOp op t x y t') (hx : ev env x = some (.int kk m)) (hy : ev env y = some (.int kk n))
    (hc : cmpOp op m n = some c) : RunV P N w0 l env o (.bool c) := fun a w st => by
    cases op <;> simp only [cmpOp, Option.some.injEq] at hc <;> (first | (cases hc; done) | (subst hc; simp [execOp, ho, st.eval hx, st.eval hy, eqGuard, binOp, Op.intCmp, GT.gt, GE.ge]))
theorem hl_bool {c : Bool} (h1 : c = true → HL P N ops w0 l ((d, .bool true) :: env) rest Q) (h2 : c = false → HL P N ops w0 l ((d, .bool false) :: env) rest Q) : HL P N ops w0 l ((d, .bool c) :: env) rest Q := by
  cases c
  · exact h2 rfl
  · exact h1 rfl
theorem hl_lss {t t' : TypeId} {x y : Operand} {m n : Int} {kk : IntKind} (hd : o.dst = some d) (hN : Nat.blt d N = true) (hw : want ops env o.guard = some true) (ho : o.op = .binOp .lss t x y t') (hx : ev env x = some (.int kk m)) (hy : ev env y = some (.int kk n))
    (h1 : m < n → HL P N ops w0 l ((d, .bool true) :: env) rest Q) (h2 : n ≤ m → HL P N ops w0 l ((d, .bool false) :: env) rest Q) : HL P N ops w0 l env (o :: rest) Q :=
  hl_v hd hN hw (rv_cmp ho hx hy rfl) (hl_bool (fun h => h1 (of_decide_eq_true h)) (fun h => h2 (by have := of_decide_eq_false h; omega)))
theorem hl_leq {t t' : TypeId} {x y : Operand} {m n : Int} {kk : IntKind} (hd : o.dst = some d) (hN : Nat.blt d N = true) (hw : want ops env o.guard = some true) (ho : o.op = .binOp .leq t x y t') (hx : ev env x = some (.int kk m)) (hy : ev env y = some (.int kk n))
    (h1 : m ≤ n → HL P N ops w0 l ((d, .bool true) :: env) rest Q) (h2 : n < m → HL P N ops w0 l ((d, .bool false) :: env) rest Q) : HL P N ops w0 l env (o :: rest) Q :=
  hl_v hd hN hw (rv_cmp ho hx hy rfl) (hl_bool (fun h => h1 (of_decide_eq_true h)) (fun h => h2 (by have := of_decide_eq_false h; omega)))
theorem hl_gtr {t t' : TypeId} {x y : Operand} {m n : Int} {kk : IntKind} (hd : o.dst = some d) (hN : Nat.blt d N = true) (hw : want ops env o.guard = some true) (ho : o.op = .binOp .gtr t x y t') (hx : ev env x = some (.int kk m)) (hy : ev env y = some (.int kk n))
    (h1 : n < m → HL P N ops w0 l ((d, .bool true) :: env) rest Q) (h2 : m ≤ n → HL P N ops w0 l ((d, .bool false) :: env) rest Q) : HL P N ops w0 l env (o :: rest) Q :=
  hl_v hd hN hw (rv_cmp ho hx hy rfl) (hl_bool (fun h => h1 (of_decide_eq_true h)) (fun h => h2 (by have := of_decide_eq_false h; omega)))
theorem hl_geq {t t' : TypeId} {x y : Operand} {m n : Int} {kk : IntKind} (hd : o.dst = some d) (hN : Nat.blt d N = true) (hw : want ops env o.guard = some true) (ho : o.op = .binOp .geq t x y t') (hx : ev env x = some (.int kk m)) (hy : ev env y = some (.int kk n))
    (h1 : n ≤ m → HL P N ops w0 l ((d, .bool true) :: env) rest Q) (h2 : m < n → HL P N ops w0 l ((d, .bool false) :: env) rest Q) : HL P N ops w0 l env (o :: rest) Q :=
  hl_v hd hN hw (rv_cmp ho hx hy rfl) (hl_bool (fun h => h1 (of_decide_eq_true h)) (fun h => h2 (by have := of_decide_eq_false h; omega)))
theorem hl_eql {t t' : TypeId} {x y : Operand} {m n : Int} {kk : IntKind} (hd : o.dst = some d) (hN : Nat.blt d N = true) (hw : want ops env o.guard = some true) (ho : o.op = .binOp .eql t x y t') (hx : ev env x = some (.int kk m)) (hy : ev env y = some (.int kk n))
    (h1 : m = n → HL P N ops w0 l ((d, .bool true) :: env) rest Q) (h2 : m ≠ n → HL P N ops w0 l ((d, .bool false) :: env) rest Q) : HL P N ops w0 l env (o :: rest) Q :=
  hl_v hd hN hw (rv_cmp ho hx hy rfl) (hl_bool (fun h => h1 (beq_iff_eq.1 h)) (fun h => h2 (beq_eq_false_iff_ne.1 h)))
theorem hl_neq {t t' : TypeId} {x y : Operand} {m n : Int} {kk : IntKind} (hd : o.dst = some d) (hN : Nat.blt d N = true) (hw : want ops env o.guard = some true) (ho : o.op = .binOp .neq t x y t') (hx : ev env x = some (.int kk m)) (hy : ev env y = some (.int kk n))
    (h1 : m ≠ n → HL P N ops w0 l ((d, .bool true) :: env) rest Q) (h2 : m = n → HL P N ops w0 l ((d, .bool false) :: env) rest Q) : HL P N ops w0 l env (o :: rest) Q :=
  hl_v hd hN hw (rv_cmp ho hx hy rfl) (hl_bool (fun h => h1 (bne_iff_ne.1 h)) (fun h => h2 (by simpa using h)))
end
end Go.Proofs.Yteccnnpcigkmhaa
