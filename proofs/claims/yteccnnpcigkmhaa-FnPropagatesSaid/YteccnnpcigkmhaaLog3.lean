/- The logic of states: rules for operations on memory, and for calls. -/
import Derived.Test.YteccnnpcigkmhaaLog2
import Derived.Maps.AppendAt
set_option linter.unusedVariables false
set_option linter.unusedSimpArgs false
namespace Go.Proofs.Yteccnnpcigkmhaa
open Go.RowKit
section
variable {P : Program} {N : Nat} {w0 : World} {l l' : List HP} {env env' : List (Nat × Value)} {Q : Post} {ops : Array Oper} {rest : List Oper} {o : Oper} {d : Nat}
/-- an operation that keeps all that there is: its value, and what it has made -/
def RunQ (P : Program) (N : Nat) (w0 : World) (l : List HP) (env : List (Nat × Value)) (o : Oper) (R : Value → List HP → Prop) : Prop :=
  ∀ a w, St N w0 l env a w → ∀ (Q : Post) (K : Act → World → Prop), (∀ v post w', R v post → Mem w post w' → K (a.put o.dst v) w') → o.wp P a w K Q
theorem rq_v {v : Value} (h : RunV P N w0 l env o v) : RunQ P N w0 l env o (fun v' post => v' = v ∧ post = []) := fun a w st Q K hK => by
  unfold Oper.wp
  rw [h a w st, Oper.upon_value]
  exact hK _ _ _ ⟨rfl, rfl⟩ (Mem.refl w)
theorem rq_mono {R R' : Value → List HP → Prop} (h : RunQ P N w0 l env o R) (hr : ∀ v post, R v post → R' v post) : RunQ P N w0 l env o R' := fun a w st Q K hK => h a w st Q K fun v post w' hv hm => hK v post w' (hr _ _ hv) hm
theorem rq_less {R : Value → List HP → Prop} (hs : sub env' env) (hl : l'.Sublist l) (h : RunQ P N w0 l' env' o R) : RunQ P N w0 l env o R := fun a w st => h a w (st.less hs hl)
theorem hl_q {R : Value → List HP → Prop} (hd : o.dst = some d) (hN : Nat.blt d N = true) (hw : want ops env o.guard = some true) (h : RunQ P N w0 l env o R) (k : ∀ v post, R v post → HL P N ops w0 (post ++ l) ((d, v) :: env) rest Q) : HL P N ops w0 l env (o :: rest) Q := fun a w st => wpList_step fun K hK => by
  rw [if_pos (st.wanted hw)]
  refine h a w st Q K fun v post w' hv hm => ?_
  rw [hd]
  exact hK _ _ (k v post hv _ _ (st.put hN (st.mem.app hm)))
theorem rq_of {R : Value → List HP → Prop} (h : ∀ a w, St N w0 l env a w → ∃ v post w', (execOp a.eval o).run P w = .ok (.value v) w' ∧ R v post ∧ Mem w post w') : RunQ P N w0 l env o R := fun a w st Q K hK => by
  unfold Oper.wp
  obtain ⟨v, post, w', hr, hv, hm⟩ := h a w st
  rw [hr, Oper.upon_value]
  exact hK _ _ _ hv hm
theorem mem_box (w : World) (cs : Array Value) (t : TypeId) : Mem w [boxE w.heap.size cs t] (w.alloc (.cells cs t)) := (Mem.refl w).alloc cs t
/-- the address of a field -/
theorem rv_field {t : TypeId} {x : Operand} {f b off k0 : Nat} (ho : o.op = .fieldAddr t x f) (hf : fieldOff P t f = some k0) (hx : ev env x = some (.pointer (some ⟨b, off, none⟩))) : RunV P N w0 l env o (.pointer (some ⟨b, off + k0, none⟩)) :=
  fun a w st => by simp [execOp, ho, st.eval hx, run_field hf]
theorem rv_nilCheck {x : Operand} {ad : Addr} (ho : o.op = .nilCheck x) (hx : ev env x = some (.pointer (some ad))) : RunV P N w0 l env o (.pointer (some ad)) :=
  fun a w st => by simp [execOp, ho, st.eval hx]
/-- an element's address -/
theorem rv_index {t e s n : Nat} {cs : List Value} {v : Value} {x i : Operand} {m : Int} {kk : IntKind} (ho : o.op = .indexAddr t x i) (hu : P.underlying t = some (.slice e)) (hs : (P.info? e).map (·.size) = some s)
    (hx : ev env x = some v) (hi : ev env i = some (.int kk m)) (hr : Rd w0 l v s n cs) (h0 : 0 ≤ m) (h1 : m < n) : RunV P N w0 l env o (elP v (m.toNat * s)) := fun a w st => by
  obtain ⟨ad, cap, rfl, hl, hn, hc0⟩ := hr w st.mem
  obtain ⟨b, off, rfl, hc⟩ := hc0 (by omega)
  have he : P.underlying t = some (.slice (P.elem t)) := by simp [Program.elem, hu]
  have hs' : P.elem t = e := by simp [Program.elem, hu]
  simp [execOp, ho, st.eval hx, st.eval hi, run_indexAt_slice w t _ _ _ _ _ he, h0, h1, hs', run_size hs, add_lit, elP]
theorem rv_fieldEl {t : TypeId} {x : Operand} {f k0 s n o' : Nat} {v : Value} {cs : List Value} (ho : o.op = .fieldAddr t x f) (hf : fieldOff P t f = some k0) (hx : ev env x = some (elP v o')) (hr : Rd w0 l v s n cs) (hn : 0 < n) : RunV P N w0 l env o (elP v (o' + k0)) := fun a w st => by
  obtain ⟨ad, cap, rfl, hl, _, hc0⟩ := hr w st.mem
  obtain ⟨b, off, rfl, hc⟩ := hc0 hn
  simp [execOp, ho, st.eval hx, elP, run_field hf, Nat.add_assoc]
theorem run_loadCells {b off : Nat} {w : World} : ∀ (n i : Nat) (cs : List Value) (acc : Array Value), cs.length = n → (∀ j u, cs[j]? = some u → w.cell? ⟨b, off + i + j, none⟩ = some u) → (loadCellsFrom ⟨b, off, none⟩ i n acc).run P w = .ok (acc ++ cs.toArray) w
  | 0, i, cs, acc, hl, h => by
    have : cs = [] := List.length_eq_zero_iff.1 hl
    subst this
    simp [loadCellsFrom]
  | n + 1, i, [], acc, hl, h => by simp at hl
  | n + 1, i, c :: cs, acc, hl, h => by
    have h0 := h 0 c rfl
    have h1 : (load (⟨b, off + i, none⟩ : Addr)).run P w = .ok c w := by simp [run_load, Nat.add_zero] at h0 ⊢; simp [h0]
    have ih := run_loadCells (b := b) (off := off) (w := w) n (i + 1) cs (acc.push c) (by simpa using hl) (fun j u hj => by have := h (j + 1) u (by simpa using hj); rw [show off + (i + 1) + j = off + i + (j + 1) by omega]; exact this)
    simp only [loadCellsFrom, Sem.run_bind, add_lit, h1, Result.andThen_ok, ih]
    simp
/-- a load of one cell -/
theorem rv_load {t b off : Nat} {x : Operand} {v : Value} (ho : o.op = .load t x) (ha : aggB P t = some false) (hx : ev env x = some (.pointer (some ⟨b, off, none⟩)))
    (hc : ∀ w, Mem w0 l w → w.cell? ⟨b, off, none⟩ = some v) : RunV P N w0 l env o v := fun a w st => by
  have h1 : (load (⟨b, off, none⟩ : Addr)).run P w = .ok v w := by simp [run_load, hc w st.mem]
  simp only [execOp, ho, st.eval hx, Instr.loadAt, Instr.sureAddr, loadVar, Sem.run_bind, Sem.run_pure, run_agg ha, Result.andThen_ok, Bool.false_eq_true, if_false, h1]
/-- a load of a struct -/
theorem rv_loadN {t b off s : Nat} {x : Operand} {cs : List Value} (ho : o.op = .load t x) (ha : aggB P t = some true) (hs : (P.info? t).map (·.size) = some s) (hx : ev env x = some (.pointer (some ⟨b, off, none⟩)))
    (hl : cs.length = s) (hc : ∀ w, Mem w0 l w → ∀ j u, cs[j]? = some u → w.cell? ⟨b, off + j, none⟩ = some u) : RunV P N w0 l env o (.agg cs.toArray) := fun a w st => by
  have h1 := run_loadCells (P := P) (b := b) (off := off) (w := w) s 0 cs #[] hl (fun j u hj => hc w st.mem j u hj)
  simp at h1
  simp [execOp, ho, st.eval hx, Instr.loadAt, Instr.sureAddr, loadVar, run_agg ha, run_size hs, loadCells, h1]
theorem rv_loadEl {t s n o' : Nat} {x : Operand} {v u : Value} {cs : List Value} (ho : o.op = .load t x) (ha : aggB P t = some false) (hx : ev env x = some (elP v o')) (hr : Rd w0 l v s n cs) (hc : cs[o']? = some u) : RunV P N w0 l env o u := fun a w st => by
  obtain ⟨ad, cap, rfl, hl, _, hc0⟩ := hr w st.mem
  have hlt : o' < cs.length := (List.getElem?_eq_some_iff.1 hc).1
  obtain ⟨b, off, rfl, hc1⟩ := hc0 (by rcases Nat.eq_zero_or_pos n with h | h; (subst h; omega); exact h)
  have h1 : (load (⟨b, off + o', none⟩ : Addr)).run P w = .ok u w := by simp [run_load, hc1 o' u hc]
  simp only [execOp, ho, st.eval hx, elP, Instr.loadAt, Instr.sureAddr, loadVar, Sem.run_bind, Sem.run_pure, run_agg ha, Result.andThen_ok, Bool.false_eq_true, if_false, h1]
theorem rv_loadElN {t s s' n o' : Nat} {x : Operand} {v : Value} {us cs : List Value} (ho : o.op = .load t x) (ha : aggB P t = some true) (hs : (P.info? t).map (·.size) = some s') (hx : ev env x = some (elP v o')) (hr : Rd w0 l v s n cs) (hn : 0 < n)
    (hl : us.length = s') (hc : ∀ j u, us[j]? = some u → cs[o' + j]? = some u) : RunV P N w0 l env o (.agg us.toArray) := fun a w st => by
  obtain ⟨ad, cap, rfl, hl', _, hc0⟩ := hr w st.mem
  obtain ⟨b, off, rfl, hc1⟩ := hc0 hn
  have h1 := run_loadCells (P := P) (b := b) (off := off + o') (w := w) s' 0 us #[] hl (fun j u hj => by have := hc1 _ u (hc j u hj); rw [Nat.add_zero, Nat.add_assoc]; exact this)
  simp at h1
  simp [execOp, ho, st.eval hx, elP, Instr.loadAt, Instr.sureAddr, loadVar, run_agg ha, run_size hs, loadCells, h1]
/-- a new variable -/
def IsBox (cs : Array Value) (t : TypeId) (v : Value) (post : List HP) : Prop := ∃ b, v = .pointer (some ⟨b, 0, none⟩) ∧ post = [boxE b cs t]
theorem rq_box {t : TypeId} {x : Operand} {v : Value} (ho : o.op = .box t x) (hx : ev env x = some v) : RunQ P N w0 l env o (IsBox v.cells t) := rq_of fun a w st =>
  ⟨.pointer (some ⟨w.heap.size, 0, none⟩), _, w.alloc (.cells v.cells t), by simp [execOp, ho, st.eval hx, Instr.box, newVar, newRow], ⟨_, rfl, rfl⟩, mem_box w _ _⟩
theorem rq_alloc {t : TypeId} {z : Value} (ho : o.op = .alloc t) (hz : (P.info? t).bind (·.zero) = some z) : RunQ P N w0 l env o (IsBox z.cells t) := rq_of fun a w st => by
  obtain ⟨i, hi, hz⟩ := Option.bind_eq_some_iff.1 hz
  exact ⟨.pointer (some ⟨w.heap.size, 0, none⟩), _, w.alloc (.cells z.cells t), by simp [execOp, ho, Instr.alloc, zeroValue, typeInfo, hi, hz, newVar, newRow], ⟨_, rfl, rfl⟩, mem_box w _ _⟩
/-- a struct literal -/
theorem evParts {a w} (st : St N w0 l env a w) : ∀ (ps : List (Nat × Operand)) (vs : List (Nat × Value)), ps.mapM (fun p => (ev env p.2).map fun v => (p.1, v)) = some vs → ps.map (fun p => (p.1, a.eval p.2)) = vs
  | [], vs, h => by simp at h; subst h; rfl
  | p :: ps, vs, h => by
    simp only [List.mapM_cons, Option.bind_eq_bind, Option.pure_def] at h
    cases hp : ev env p.2 with
    | none => rw [hp] at h; simp at h
    | some v =>
      cases hr : ps.mapM (fun p => (ev env p.2).map fun v => (p.1, v)) with
      | none => rw [hp, hr] at h; simp at h
      | some r =>
        rw [hp, hr] at h
        simp at h
        subst h
        simp [evParts st ps r hr, st.eval hp]
theorem rv_build {t : TypeId} {ps : Array (Nat × Operand)} {vs : List (Nat × Value)} {cs : Array Value} (ho : o.op = .build t ps)
    (hp : ps.toList.mapM (fun p => (ev env p.2).map fun v => (p.1, v)) = some vs) (hb : P.built t vs = some cs) : RunV P N w0 l env o (.agg cs) := fun a w st => by
  have h1 := evParts st _ _ hp
  have h2 : (ps.map fun (p : Nat × Operand) => (p.1, a.eval p.2)).toList = vs := by simpa using h1
  simp [execOp, ho, run_build w t (ps.map fun (p : Nat × Operand) => (p.1, a.eval p.2)) cs (by rw [h2]; exact hb)]
theorem builtS_zero {t e n : Nat} {vs : Array (Nat × Value)} (hu : P.underlying t = some (.slice e)) (hs : (P.info? e).map (·.size) = some n) (w : World) : (Instr.buildSlice t 0 #[]).run P w = .ok (.slice (some ⟨w.heap.size, 0, none⟩) 0 0) (w.alloc (.cells #[] e)) := by
  simp [Instr.buildSlice, run_underlying hu, run_size hs, Instr.fill, newRow]
  congr 2
  apply Array.eq_empty_of_size_eq_zero; simp
/-- a new slice, whole -/
def IsRow (e s n : Nat) (cs : List Value) (v : Value) (post : List HP) : Prop := ∃ b, v = .slice (some ⟨b, 0, none⟩) n n ∧ post = [rowE e s v n cs]
theorem mem_row {w w' : World} {e s n : Nat} {v : Value} {cs : List Value} (h : w'.ownsRow w.heap.size e s v n cs) (hb : Below w.heap.size w w') : Mem w [rowE e s v n cs] w' := (Mem.refl w).newRow h hb
theorem rq_slice0 {t e s : Nat} (ho : o.op = .buildSlice t 0 #[]) (hu : P.underlying t = some (.slice e)) (hs : (P.info? e).map (·.size) = some s) : RunQ P N w0 l env o (IsRow e s 0 []) := rq_of fun a w st =>
  ⟨.slice (some ⟨w.heap.size, 0, none⟩) 0 0, _, w.alloc (.cells #[] e), by have := builtS_zero (P := P) (vs := #[]) hu hs w; simp [execOp, ho, this], ⟨_, rfl, rfl⟩,
    mem_row (World.ownsRow_made w #[] 0 (Nat.le_refl _) (by decide) (by simp)) (bel_alloc (Below.refl _ _) _)⟩
theorem rq_buildSlice {t e len s : Nat} {ps : Array (Nat × Operand)} {vs : List (Nat × Value)} {cs : List Value} {z : Value} (ho : o.op = .buildSlice t len ps) (hu : P.underlying t = some (.slice e))
    (hi : (P.info? e).map (fun i => (i.zero, i.size)) = some (some z, s)) (hpos : (0 < len * s ∧ len * s ≤ 1000000) ∧ len ≤ 1000000)
    (hp : ps.toList.mapM (fun p => (ev env p.2).map fun v => (p.1, v)) = some vs) (hb : (Instr.fill (fun i => some (i * s, s)) ((Array.range (len * s)).map (z.cells[· % z.cells.size]!)) vs).map (·.toList) = some cs) (hl : cs.length = len * s) : RunQ P N w0 l env o (IsRow e s len cs) := rq_of fun a w st => by
  obtain ⟨i, hi', he⟩ := Option.map_eq_some_iff.1 hi
  simp only [Prod.mk.injEq] at he
  obtain ⟨hz, rfl⟩ := he
  obtain ⟨ca, hca, rfl⟩ := Option.map_eq_some_iff.1 hb
  have h1 := evParts st _ _ hp
  have h2 : (ps.map fun (p : Nat × Operand) => (p.1, a.eval p.2)).toList = vs := by simpa using h1
  have := run_buildSlice (P := P) w t e len (ps.map fun (p : Nat × Operand) => (p.1, a.eval p.2)) ca i z hu hi' hz (by have := hpos.1.2; omega) (by have := hpos.1.1; omega) (by rw [h2]; exact hca)
  refine ⟨.slice (some ⟨w.heap.size, 0, none⟩) len len, _, w.alloc (.cells ca e), by simp [execOp, ho, this], ⟨_, rfl, rfl⟩, mem_row ?_ (bel_alloc (Below.refl _ _) _)⟩
  refine ⟨hl, .inr ⟨w.heap.size, len, ca, rfl, Nat.le_refl _, heap_alloc_new w _, Nat.le_refl _, by unfold maxLen; omega, by simpa using hl, ?_⟩⟩
  rw [List.take_of_length_le (by rw [hl]; exact Nat.le_refl _)]
theorem rq_make {t e s bytes n : Nat} {x y : Operand} {z : Value} {cs : List Value} (ho : o.op = .makeSlice t x y) (hu : P.underlying t = some (.slice e))
    (hi : (P.info? e).map (fun i => (i.zero, i.size, i.bytes)) = some (some z, s, bytes)) (hb : bytes ≤ 1000) {m m' : Int} (hx : ev env x = some (.int .i64 m)) (hy : ev env y = some (.int .i64 m')) (hm : m = (n : Int)) (hm' : m' = (n : Int)) (hn : n ≤ 100000000000) (hcs : (madeCells z.cells (n * s)).toList = cs) : RunQ P N w0 l env o (IsRow e s n cs) := rq_of fun a w st => by
  obtain ⟨i, hi, hz, hs, hby⟩ := info_parts hi
  subst hm hm' hcs
  obtain ⟨w', hrun, r1, r2⟩ := run_make_full (P := P) w w.heap.size t e i z s hu hi hz hs .i64 .i64 n (by rw [hby]; have := Nat.mul_le_mul hb hn; omega) (by unfold maxLen; omega) (Nat.le_refl _)
  exact ⟨.slice (some ⟨w.heap.size, 0, none⟩) n n, _, w', by simp [execOp, ho, st.eval hx, st.eval hy, hrun], ⟨_, rfl, rfl⟩, mem_row r1 ((Below.refl _ _).grown r2 (Nat.le_refl _) (by simp))⟩
theorem hl_box {cs : Array Value} {t : TypeId} (hd : o.dst = some d) (hN : Nat.blt d N = true) (hw : want ops env o.guard = some true) (h : RunQ P N w0 l env o (IsBox cs t)) (k : ∀ b, HL P N ops w0 (boxE b cs t :: l) ((d, .pointer (some ⟨b, 0, none⟩)) :: env) rest Q) : HL P N ops w0 l env (o :: rest) Q :=
  hl_q hd hN hw h fun v post hv => by obtain ⟨b, rfl, rfl⟩ := hv; exact k b
theorem hl_row {e s n : Nat} {cs : List Value} (hd : o.dst = some d) (hN : Nat.blt d N = true) (hw : want ops env o.guard = some true) (h : RunQ P N w0 l env o (IsRow e s n cs)) (k : ∀ b, HL P N ops w0 (rowE e s (.slice (some ⟨b, 0, none⟩) n n) n cs :: l) ((d, .slice (some ⟨b, 0, none⟩) n n) :: env) rest Q) : HL P N ops w0 l env (o :: rest) Q :=
  hl_q hd hN hw h fun v post hv => by obtain ⟨b, rfl, rfl⟩ := hv; exact k b
/-- a store of one cell into a variable -/
theorem run_store1 {t b off : Nat} {v : Value} {w : World} (hs : (P.info? t).map (·.size) = some 1) (h1 : v.oneCell' = true) (hc : (w.cell? ⟨b, off, none⟩).isSome = true) (hf : w.frozen? ⟨b, off, none⟩ = false) :
    (Instr.storeAt t (.pointer (some ⟨b, off, none⟩)) v).run P w = .ok () (w.setCell ⟨b, off, none⟩ v) := by
  have hcs : v.cells = #[v] := by cases v <;> first | rfl | (cases h1; done)
  obtain ⟨u, hu⟩ := Option.isSome_iff_exists.1 hc
  have hst := run_store P w ⟨b, off, none⟩ v .plain h1
  rw [hu] at hst
  simp only [hf] at hst
  simp [Instr.storeAt, Instr.sureAddr, storeVar, hcs, run_size hs, storeCells, add_lit, hst]
theorem hl_storeBox {t b off i : Nat} {x y : Operand} {cs : Array Value} {tb : TypeId} {v : Value} (hd : o.dst = none) (hw : want ops env o.guard = some true) (ho : o.op = .store t x y) (hs : (P.info? t).map (·.size) = some 1)
    (hx : ev env x = some (.pointer (some ⟨b, off, none⟩))) (hy : ev env y = some v) (h1 : v.oneCell' = true) (hi : l[i]? = some (boxE b cs tb)) (hlt : Nat.blt off cs.size = true)
    (hl' : l.set i (boxE b (cs.setIfInBounds off v) tb) = l') (k : HL P N ops w0 l' env rest Q) : HL P N ops w0 l env (o :: rest) Q := by
  subst hl'
  exact hl_store0 hd hw (fun a w st => by
    have hb : w.heap[b]? = some (.cells cs tb (0, 0)) := st.mem.holds _ (mem_at hi)
    rw [Nat.blt_eq] at hlt
    refine ⟨w.setCell ⟨b, off, none⟩ v, ?_, st.mem.setBox hi off v⟩
    have := run_store1 (P := P) (t := t) (v := v) (w := w) (b := b) (off := off) hs h1 (by rw [cell_of_heap hb]; simp [hlt]) (frozen_of_heap hb)
    simp [execOp, ho, st.eval hx, st.eval hy, this]) k
theorem hl_storeEl {t i e size n j : Nat} {x y : Operand} {xs : List Value} {v u : Value} (hd : o.dst = none) (hw : want ops env o.guard = some true) (ho : o.op = .store t x y) (hs : (P.info? t).map (·.size) = some 1)
    (hx : ev env x = some (elP v j)) (hy : ev env y = some u) (h1 : u.oneCell' = true) (hi : l[i]? = some (rowE e size v n xs)) (hlt : j < n * size)
    {n' : Nat} {xs' : List Value} (hn' : n = n') (hx' : xs.set j u = xs') (hl' : l.set i (rowE e size v n' xs') = l') (k : HL P N ops w0 l' env rest Q) : HL P N ops w0 l env (o :: rest) Q := by
  subst hl' hn' hx'
  exact hl_store0 hd hw (fun a w st => by
    have hb : w.ownsRow 0 e size v n xs := st.mem.holds _ (mem_at hi)
    obtain ⟨g, cap, rfl⟩ : ∃ g cap, v = .slice (some ⟨g, 0, none⟩) n cap := by
      rcases hb.2 with ⟨rfl, rfl⟩ | ⟨g, cap', cur, rfl, _⟩
      · omega
      · exact ⟨g, cap', rfl⟩
    refine ⟨w.setCell ⟨g, j, none⟩ u, ?_, st.mem.setRow hi j u⟩
    have := run_store1 (P := P) (t := t) (v := u) (w := w) (b := g) (off := j) hs h1 (by rw [hb.cellAt j hlt, List.getElem?_eq_getElem (by rw [hb.1]; exact hlt)]; rfl) (hb.frozenAt j)
    simp [execOp, ho, st.eval hx, elP, st.eval hy, this]) k
theorem ints_set (xs : List Int) (m : Nat) (y : Int) : (xs.map (Value.int .i64)).set (m * 1) (.int .i64 y) = (xs.set m y).map (Value.int .i64) := by rw [Nat.mul_one, List.map_set]
/-- append to a row of the call's own -/
theorem Mem.append {w0 w w' : World} {l : List HP} {e size n n' i : Nat} {v v' : Value} {xs ys : List Value} (hi : l[i]? = some (rowE e size v n xs)) (h : Mem w0 l w) (ho : w'.ownsRow 0 e size v' n' ys) (hg : w.grownBy w' v.ownBlock) (hv : v'.ownBlock = v.ownBlock ∨ v'.ownBlock = some w.heap.size) : Mem w0 (l.set i (rowE e size v' n' ys)) w' := by
  refine h.turnAt hi hg.os hg.tape hg.output hg.size (fun k hk hf => hg.block k hk (fun e => hf e.symm)) (rowE_ok _ _ _ _ _) (fun k hk => ?_) (fun k hk => (ho.lt k hk).2) ho
  have hk' : v'.ownBlock = some k := hk
  rcases hv with h1 | h1
  · exact .inl (show v.ownBlock = some k from h1 ▸ hk')
  · rw [h1] at hk'; cases hk'; exact .inr (Nat.le_refl _)
theorem hl_append {t e s bytes n m i : Nat} {x y : Operand} {v u z : Value} {xs news : List Value} (hd : o.dst = some d) (hN : Nat.blt d N = true) (hw : want ops env o.guard = some true) (ho : o.op = .call { callee := .builtin .append, args := #[x, y], argTypes := #[t, t] })
    (hu : P.underlying t = some (.slice e)) (hinf : (P.info? e).map (fun i => (i.zero, i.size, i.bytes)) = some (some z, s, bytes)) (hzs : (Nat.beq z.cells.size s && Nat.blt 0 s && Nat.ble bytes 1000) = true)
    (hx : ev env x = some v) (hy : ev env y = some u) (hi : l[i]? = some (rowE e s v n xs)) (hr : Rd w0 l u s m news) (h1 : ∀ q ∈ news, q.oneCell' = true) (hnm : n + m ≤ 100000000000)
    {n' : Nat} {xs' : List Value} (hn' : n + m = n') (hx' : xs ++ news = xs') {L : Value → List HP} (hL : ∀ v', l.set i (rowE e s v' n' xs') = L v')
    (k : ∀ v', HL P N ops w0 (L v') ((d, v') :: env) rest Q) : HL P N ops w0 l env (o :: rest) Q := fun a w st => wpList_step fun K hK => by
  rw [if_pos (st.wanted hw)]
  unfold Oper.wp
  obtain ⟨inf, hi', hz, hs, hby⟩ := info_parts hinf
  simp only [Bool.and_eq_true, Nat.beq_eq, Nat.blt_eq, Nat.ble_eq] at hzs
  obtain ⟨⟨hz1, hz2⟩, hz3⟩ := hzs
  obtain ⟨ad, cap, rfl, hl, hm, hc⟩ := hr w st.mem
  have hown : w.ownsRow 0 e s v n xs := st.mem.holds _ (mem_at hi)
  have hrun : ∃ v' w', (Builtin.append_ #[t, t] o.type #[v, .slice ad m cap]).run P w = .ok v' w' ∧ w'.ownsRow 0 e s v' (n + m) (xs ++ news) ∧ w.grownBy w' v.ownBlock ∧ (v'.ownBlock = v.ownBlock ∨ v'.ownBlock = some w.heap.size) := by
    by_cases hm0 : m = 0
    · subst hm0
      have hn : news = [] := List.eq_nil_of_length_eq_zero (by simpa using hl)
      subst hn
      refine ⟨v, w, ?_, by simpa using hown, World.grownBy.refl _ _, .inl rfl⟩
      rcases hown.2 with ⟨rfl, rfl⟩ | ⟨g, cap', cur, rfl, _, hg, hnc, hcm, hcs, htake⟩
      · cases ad <;> simp [Builtin.append_, run_underlying hu, sizeOf, typeInfo, hi', Builtin.lenOf, Builtin.firstCells, loadCells, loadCellsFrom]
      · cases ad <;> simp [Builtin.append_, run_underlying hu, sizeOf, typeInfo, hi', Builtin.lenOf, Builtin.firstCells, loadCells, loadCellsFrom, hnc, storeCells]
    · obtain ⟨b, off, rfl, hc'⟩ := hc (by omega)
      have hb : (n + m) * bytes ≤ 140737488355328 := by have := Nat.mul_le_mul hnm hz3; omega
      obtain ⟨v', w', e1, e2, e3, _, e5⟩ := run_append_own_at (P := P) w 0 t o.type e inf z s bytes hu hi' hz hs hby hz1 hz2 v n xs hown ⟨b, off, none⟩ m cap news hl (fun j q hj => by rw [add_lit]; exact hc' j q hj) h1 (by unfold maxLen; omega) hb (Nat.zero_le _)
      exact ⟨v', w', e1, e2, e3, e5⟩
  obtain ⟨v', w', e1, e2, e3, e4⟩ := hrun
  have hr : (execOp a.eval o).run P w = .ok (.value v') w' := by
    simp only [execOp, ho, resolve, invoke, builtin, Sem.run_bind, Sem.run_pure, Result.andThen_ok, List.map_toArray, List.map_cons, List.map_nil, st.eval hx, st.eval hy, e1]
  rw [hr, Oper.upon_value, hd]
  subst hn' hx'
  refine hK _ _ (k v' _ _ (st.put hN ?_))
  rw [← hL]
  exact Mem.append hi st.mem e2 e3 e4
/-- len of a slice -/
theorem rv_len {t e s n : Nat} {v : Value} {cs : List Value} {x : Operand} (ho : o.op = .call { callee := .builtin .len, args := #[x], argTypes := #[t] }) (hu : P.underlying t = some (.slice e)) (hx : ev env x = some v) (hr : Rd w0 l v s n cs) : RunV P N w0 l env o (.int .i64 (n : Int)) := fun a w st => by
  obtain ⟨ad, cap, rfl, _⟩ := hr w st.mem
  have he : P.underlying t = some (.slice (P.elem t)) := by simp [Program.elem, hu]
  have := run_len_slice (P := P) w t o.type ad n cap he
  simp only [execOp, ho, resolve, invoke, builtin, Sem.run_bind, Sem.run_pure, Result.andThen_ok, List.map_toArray, List.map_cons, List.map_nil, st.eval hx, this, goInt]
/-- a slice of a slice -/
def slV (v : Value) (lo hi s : Nat) : Value := match v with | .slice a _ cap => sliced a lo hi cap s | _ => undef
theorem rdW_sl {w : World} {v : Value} {s n : Nat} {cs : List Value} (h : RdsW w v s n cs) {lo hi : Nat} (h1 : lo ≤ hi) (h2 : hi ≤ n) : RdsW w (slV v lo hi s) s (hi - lo) ((cs.drop (lo * s)).take ((hi - lo) * s)) := by
  obtain ⟨a, cap, rfl, hl, ⟨hn, hcap⟩, hc0⟩ := h
  refine ⟨_, _, rfl, ?_, ⟨by omega, by omega⟩, fun hp => ?_⟩
  · rw [List.length_take, List.length_drop, hl, ← Nat.sub_mul]
    exact Nat.min_eq_left (Nat.mul_le_mul_right _ (by omega))
  · obtain ⟨b, off, rfl, hc⟩ := hc0 (by omega)
    refine ⟨b, off + lo * s, ?_, fun j u hj => ?_⟩
    · rw [if_neg (by omega)]; simp [add_lit]
    · rw [List.getElem?_take] at hj
      split at hj
      · rw [List.getElem?_drop] at hj; rw [Nat.add_assoc]; exact hc _ u hj
      · cases hj
theorem rd_slH {w0 : World} {l : List HP} {v : Value} {xs : List Int} (h : Rd w0 l v 1 xs.length (xs.map (Value.int .i64))) {k : Nat} (hk : k ≤ xs.length) : Rd w0 l (slV v 0 k 1) 1 (xs.take k).length ((xs.take k).map (Value.int .i64)) := fun w hm => by
  have := rdW_sl (h w hm) (Nat.zero_le k) hk
  simp only [Nat.sub_zero, Nat.zero_mul, List.drop_zero, Nat.mul_one] at this
  rw [List.map_take, List.length_take, Nat.min_eq_left hk]; exact this
theorem rd_slL {w0 : World} {l : List HP} {v : Value} {xs : List Int} (h : Rd w0 l v 1 xs.length (xs.map (Value.int .i64))) {k : Nat} (hk : k ≤ xs.length) : Rd w0 l (slV v k xs.length 1) 1 (xs.drop k).length ((xs.drop k).map (Value.int .i64)) := fun w hm => by
  have := rdW_sl (h w hm) hk (Nat.le_refl _)
  rw [Nat.mul_one, Nat.mul_one, List.take_of_length_le (by simp)] at this
  rw [List.map_drop, List.length_drop]; exact this
theorem rv_slH {t e s n : Nat} {v : Value} {cs : List Value} {x y : Operand} {k : Int} {kk : IntKind} (ho : o.op = .slice t x none (some y) none) (hu : P.underlying t = some (.slice e)) (hs : (P.info? e).map (·.size) = some s) (hx : ev env x = some v) (hy : ev env y = some (.int kk k)) (hr : Rd w0 l v s n cs) (h0 : 0 ≤ k) (h1 : k ≤ n) : RunV P N w0 l env o (slV v 0 k.toNat s) := fun a w st => by
  obtain ⟨ad, cap, rfl, hl, ⟨hn, hcap⟩, hc⟩ := hr w st.mem
  have he : P.underlying t = some (.slice (P.elem t)) := by simp [Program.elem, hu]
  have hs' : P.elem t = e := by simp [Program.elem, hu]
  have := run_slice_h (P := P) w t ad n cap he kk k h0 (by omega)
  simp [execOp, ho, st.eval hx, st.eval hy, run_sliceAt_slice w t _ _ _ _ he, this, hs', run_size hs, slV]
theorem rv_slL {t e s n : Nat} {v : Value} {cs : List Value} {x y : Operand} {k : Int} {kk : IntKind} (ho : o.op = .slice t x (some y) none none) (hu : P.underlying t = some (.slice e)) (hs : (P.info? e).map (·.size) = some s) (hx : ev env x = some v) (hy : ev env y = some (.int kk k)) (hr : Rd w0 l v s n cs) (h0 : 0 ≤ k) (h1 : k ≤ n) : RunV P N w0 l env o (slV v k.toNat n s) := fun a w st => by
  obtain ⟨ad, cap, rfl, hl, ⟨hn, hcap⟩, hc⟩ := hr w st.mem
  have he : P.underlying t = some (.slice (P.elem t)) := by simp [Program.elem, hu]
  have hs' : P.elem t = e := by simp [Program.elem, hu]
  have := run_slice_l (P := P) w t ad n cap he kk k h0 (by omega)
  simp [execOp, ho, st.eval hx, st.eval hy, run_sliceAt_slice w t _ _ _ _ he, this, hs', run_size hs, slV]
/-! ### calls -/
/-- a function that has a body -/
def goesB (P : Program) (f : FuncId) : Bool := match P.funcs[f]? with | some fn => !(fn.name == "runtime.NumGoroutine") && fn.body.isSome | none => false
theorem run_go {f : FuncId} (h : goesB P f = true) (vs : Array Value) (w : World) : (callFunc f vs).run P w = .ok (.enter f vs) w := by
  unfold goesB at h
  unfold callFunc
  cases hf : P.funcs[f]? with
  | none => rw [hf] at h; cases h
  | some fn =>
    rw [hf] at h
    simp only [Bool.and_eq_true, Bool.not_eq_true', beq_eq_false_iff_ne] at h
    have h2 : fn.body.isNone = false := by cases hb : fn.body <;> simp_all
    simp only [Sem.run_bind, run_program, Result.andThen_ok, hf]
    rw [if_neg (by simpa using h.1), if_neg (by rw [h2]; decide)]
    rfl
def evs (env : List (Nat × Value)) (xs : List Operand) : Option (List Value) := xs.mapM (ev env)
theorem evs_map {a w} (st : St N w0 l env a w) : ∀ (xs : List Operand) (vs : List Value), evs env xs = some vs → xs.map a.eval = vs
  | [], vs, h => by simp [evs] at h; subst h; rfl
  | x :: xs, vs, h => by
    simp only [evs, List.mapM_cons, Option.bind_eq_bind, Option.pure_def] at h
    cases hx : ev env x with
    | none => rw [hx] at h; simp at h
    | some v =>
      cases hr : xs.mapM (ev env) with
      | none => rw [hx, hr] at h; simp at h
      | some r =>
        rw [hx, hr] at h
        simp at h
        subst h
        simp [evs_map st xs r hr, st.eval hx]
/-- what a call answers, and what it has made -/
def Ret (w : World) (R : Value → List HP → Prop) (e : Ending) (w' : World) : Prop := ∃ v post, e = .returned v ∧ R v post ∧ Mem w post w'
/-- a call with a plain answer -/
def Ans (w : World) (v : Value) (e : Ending) (w' : World) : Prop := e = .returned v ∧ Below w.heap.size w w'
theorem rq_call {f : FuncId} {xs : Array Operand} {ats : Array TypeId} {vs : List Value} {R : Value → List HP → Prop} {ty : TypeId} {pos : String} {af : Array Edge} {gd : Option (Nat × Bool)} {ds : Option Nat}
    (hgo : goesB P f = true) (hvs : evs env xs.toList = some vs) (hc : ∀ w, Mem w0 l w → Calls P f vs.toArray w (Ret w R)) : RunQ P N w0 l env { dst := ds, op := .call { callee := .value (.func f), args := xs, argTypes := ats }, type := ty, pos := pos, after := af, guard := gd } R := fun a w st Q K hK => by
  unfold Oper.wp
  have h1 := evs_map st _ _ hvs
  have h2 : #[] ++ xs.map a.eval ++ #[] = vs.toArray := by
    rw [Array.empty_append, Array.append_empty]
    apply Array.toList_inj.1
    simpa using h1
  rw [execOp_call_go, h2, run_go hgo, Oper.upon_enter]
  refine (hc w st.mem).mono fun e w' h => ?_
  obtain ⟨v, post, rfl, hR, hpost⟩ := h
  exact hK _ _ _ hR hpost
theorem ret_ans {f : FuncId} {vs : Array Value} {v : Value} {w : World} (h : Calls P f vs w (Ans w v)) : Calls P f vs w (Ret w (fun v' post => v' = v ∧ post = [])) := h.mono fun e w' ⟨h1, h2⟩ => ⟨v, [], h1, ⟨rfl, rfl⟩, (Mem.refl w).step h2⟩
theorem hl_callV {v : Value} (hd : o.dst = some d) (hN : Nat.blt d N = true) (hw : want ops env o.guard = some true) (h : RunQ P N w0 l env o (fun v' post => v' = v ∧ post = [])) (k : HL P N ops w0 l ((d, v) :: env) rest Q) : HL P N ops w0 l env (o :: rest) Q :=
  hl_q hd hN hw h fun v' post hv => by obtain ⟨rfl, rfl⟩ := hv; exact k
/-! ### a function as a whole -/
theorem calls_hc {f : FuncId} {fn : Func} {c : Code} {args : List Value} {w : World} {R : Ending → World → Prop} (hf : P.funcs[f]? = some fn) (hb : fn.body = some c) (hN : (fn.ntmps == N && Nat.ble args.length N) = true)
    (h : HC P N w [] (args.zipIdx.map fun p => (p.2, p.1)) c (bodyPost P fn R)) : Calls P f args.toArray w R := by
  simp only [Bool.and_eq_true, beq_iff_eq, Nat.ble_eq] at hN
  refine calls_of_wp hf hb (h _ w ⟨Mem.refl w, ?_, rfl, fun d v hd => ?_⟩)
  · simp; omega
  · have hm := lk_mem hd
    rw [List.mem_map] at hm
    obtain ⟨p, hp, he⟩ := hm
    have := List.mem_zipIdx_iff_getElem?.1 hp
    simp only [Prod.mk.injEq] at he
    obtain ⟨rfl, rfl⟩ := he
    have hlt : p.2 < args.length := (List.getElem?_eq_some_iff.1 this).1
    rw [Array.getElem?_append_left (by simpa using hlt)]
    simpa using this
/-- what a result's variable holds -/
def ResIs (P : Program) (w0 : World) (l : List HP) (env : List (Nat × Value)) (r : ResultVar) (v : Value) : Prop := match r with
  | .tmp t => lk env t = some v
  | .cell a t => ∃ b off cs, lk env a = some (.pointer (some ⟨b, off, none⟩)) ∧ v = .agg (List.toArray cs) ∧ aggB P t = some true ∧ (P.info? t).map (·.size) = some cs.length ∧ ∀ w, Mem w0 l w → ∀ j u, cs[j]? = some u → w.cell? ⟨b, off + j, none⟩ = some u
def resRun (tm : Array Value) : ResultVar → Sem Value
  | .tmp t => pure (tm.getD t undef)
  | .cell c t => do loadVar t (← asAddr (tm.getD c undef))
theorem results_eq (fn : Func) (tm : Array Value) : results fn tm = (do let vs ← fn.results.mapM (resRun tm); pure (if h : vs.size = 1 then vs[0] else .tuple vs)) := by
  unfold results
  congr 1
theorem ResIs.run {a w} (st : St N w0 l env a w) {r : ResultVar} {v : Value} (h : ResIs P w0 l env r v) : (resRun a.tmps r).run P w = .ok v w := by
  cases r with
  | tmp t =>
    have := st.env t v h
    simp [resRun, this]
  | cell c t =>
    obtain ⟨b, off, cs, hl, rfl, ha, hs, hc⟩ := h
    have := st.env c _ hl
    have h1 := run_loadCells (P := P) (b := b) (off := off) (w := w) cs.length 0 cs #[] rfl (fun j u hj => hc w st.mem j u hj)
    simp at h1
    simp [resRun, this, asAddr, loadVar, run_agg ha, run_size hs, loadCells, h1]
def AllIs (P : Program) (w0 : World) (l : List HP) (env : List (Nat × Value)) : List ResultVar → List Value → Prop
  | [], [] => True
  | r :: rs, v :: vs => ResIs P w0 l env r v ∧ AllIs P w0 l env rs vs
  | _, _ => False
theorem ResIs.all {a w} (st : St N w0 l env a w) : ∀ (rs : List ResultVar) (vs : List Value), AllIs P w0 l env rs vs → (rs.mapM (resRun a.tmps)).run P w = .ok vs w
  | [], [], h => by simp
  | [], _ :: _, h => h.elim
  | r :: rs, [], h => h.elim
  | r :: rs, v :: vs, h => by
    simp only [List.mapM_cons, Sem.run_bind]
    rw [ResIs.run st h.1]
    simp only [Result.andThen_ok, ResIs.all st rs vs h.2, Sem.run_pure]
def tupled (vs : List Value) : Value := match vs with | [v] => v | vs => .tuple vs.toArray
theorem hq_ret {fn : Func} {R : Ending → World → Prop} {rs : List ResultVar} {vs : List Value} {v : Value} (hr : fn.results = rs.toArray) (hv : AllIs P w0 l env rs vs) (ht : tupled vs = v) (h : ∀ w, Mem w0 l w → R (.returned v) w) : HQ N w0 l env .ret (bodyPost P fn R) := fun a w st => by
  refine ⟨st.defers, v, ?_, h w st.mem⟩
  have h1 := ResIs.all (P := P) st rs vs hv
  rw [results_eq, hr]
  simp only [List.mapM_toArray, Sem.run_bind, Sem.run_map]
  rw [h1]
  simp only [Result.andThen_ok, Sem.run_pure]
  subst ht
  cases vs with
  | nil => rfl
  | cons v vs => cases vs <;> rfl
theorem hl_eqL (h : l = l') (k : HL P N ops w0 l' env rest Q) : HL P N ops w0 l env rest Q := h ▸ k
theorem box_part {b : Nat} {cs : Array Value} {t : TypeId} {us : List Value} (i : Nat) (h : l[i]? = some (boxE b cs t)) (k : Nat) (hu : (cs.toList.drop k).take us.length = us) : ∀ w, Mem w0 l w → ∀ j u, us[j]? = some u → w.cell? ⟨b, k + j, none⟩ = some u := fun w hm j u hj => by
  rw [cell_of_heap (hm.holds _ (mem_at h))]
  rw [← hu, List.getElem?_take] at hj
  split at hj
  · simpa using hj
  · cases hj
theorem ans_of {f : FuncId} {vs : Array Value} {v : Value} {w : World} (h : Calls P f vs w fun e w' => e = .returned v ∧ w = w') : Calls P f vs w (Ans w v) := h.mono fun _ _ ⟨h1, h2⟩ => ⟨h1, h2 ▸ Below.refl _ _⟩
theorem len_app {α : Type} (a b : List α) : a.length + b.length = (a ++ b).length := List.length_append.symm
theorem ints_app (a b : List Int) : a.map (Value.int .i64) ++ b.map (Value.int .i64) = (a ++ b).map (Value.int .i64) := List.map_append.symm
theorem ints_one (xs : List Int) : ∀ q ∈ xs.map (Value.int .i64), q.oneCell' = true := by
  intro q hq; rw [List.mem_map] at hq; obtain ⟨x, -, rfl⟩ := hq; rfl
theorem ints_at1 {xs : List Int} {m : Int} (h : m.toNat < xs.length) : (xs.map (Value.int .i64))[m.toNat * 1]? = some (.int .i64 (xs.getD m.toNat 0)) := by
  simp [h]
theorem ints_at {xs : List Int} {m : Int} (h : m.toNat < xs.length) : (xs.map (Value.int .i64))[m.toNat * 1 + 0]? = some (.int .i64 (xs.getD m.toNat 0)) := by
  simp [h]
theorem ints_rng {xs : List Int} {i : Int} (h : ∀ x ∈ xs, -9223372036854775808 ≤ x ∧ x ≤ 9223372036854775807) : -9223372036854775808 ≤ xs.getD i.toNat 0 ∧ xs.getD i.toNat 0 ≤ 9223372036854775807 := by
  by_cases hi : i.toNat < xs.length
  · exact h _ (getD_mem hi)
  · rw [List.getD_eq_getElem?_getD, List.getElem?_eq_none (by omega)]; simp
theorem hq_ans {fn : Func} {t : Tmp} {v u : Value} (hr : fn.results = #[.tmp t]) (hv : lk env t = some v) (hu : v = u) : HQ N w0 l env .ret (bodyPost P fn (Ans w0 u)) :=
  hq_ret (rs := [.tmp t]) (vs := [v]) hr ⟨hv, trivial⟩ rfl (fun w hm => ⟨by rw [hu]; rfl, hm.bel⟩)
theorem hq_retR {fn : Func} {R : Value → List HP → Prop} {t : Tmp} {v : Value} {post : List HP} (hr : fn.results = #[.tmp t]) (hv : lk env t = some v) (hl : post.Sublist l) (h : R v post) : HQ N w0 l env .ret (bodyPost P fn (Ret w0 R)) :=
  hq_ret (rs := [.tmp t]) (vs := [v]) hr ⟨hv, trivial⟩ rfl (fun w hm => ⟨v, post, rfl, h, hm.sub hl⟩)
theorem hq_normal {fn : Func} {R : Ending → World → Prop} (h : HQ N w0 l env .ret (bodyPost P fn R)) : HQ N w0 l env .normal (bodyPost P fn R) := h
end
end Go.Proofs.Yteccnnpcigkmhaa
