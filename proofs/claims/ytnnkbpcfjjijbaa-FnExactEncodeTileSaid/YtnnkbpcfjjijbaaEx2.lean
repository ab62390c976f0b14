/- Configurations of tiles, by value: compared, marked, held. -/
import Derived.Test.YtnnkbpcfjjijbaaEx1
set_option linter.unusedVariables false
set_option linter.unusedSimpArgs false
namespace Go.Proofs.Ytnnkbpcfjjijbaa
open Go.RowKit

structure Le where
  v : Value
  xs : List Int
  m : Int
  f : Int
  i : Int
def Le.cells (e : Le) : List Value := [e.v, .int .i64 e.m, .int .i64 e.f, .int .i64 e.i]
def Le0 : Le := ⟨.slice none 0 0, [], 0, 0, 0⟩
def Le.val (e : Le) : List Int × Int × Int × Int := (e.xs, e.m, e.f, e.i)
def Le.Rd1 (w : World) (e : Le) : Prop := RdsW w e.v 1 e.xs.length (e.xs.map (Value.int .i64)) ∧ e.xs.length ≤ 2000000
abbrev lePart (e : Le) : HP := rowE 3 1 e.v e.xs.length (e.xs.map (Value.int .i64))
abbrev lesE (lv : Value) (es : List Le) : HP := bigE [bigE (es.map lePart), rowE 87 4 lv es.length (es.flatMap Le.cells)]
structure Tc where
  mv : Value
  mx : List Int
  lv : Value
  es : List Le
  pad : Int
  ram : Int
def Tc.val (t : Tc) : List Int × List (List Int × Int × Int × Int) × Int × Int := (t.mx, t.es.map Le.val, t.pad, t.ram)
abbrev Tc.agg (t : Tc) : Value := .agg #[t.mv, t.lv, .int .i64 t.pad, .int .i64 t.ram]
abbrev tcE (t : Tc) : HP := bigE [rowE 3 1 t.mv t.mx.length (t.mx.map (Value.int .i64)), lesE t.lv t.es]
structure Tc.Rds (w : World) (t : Tc) : Prop where
  mx : RdsW w t.mv 1 t.mx.length (t.mx.map (Value.int .i64))
  lv : RdsW w t.lv 4 t.es.length (t.es.flatMap Le.cells)
  es : ∀ e ∈ t.es, e.Rd1 w
  nmx : t.mx.length ≤ 2000000
  nes : t.es.length ≤ 2000000
theorem Le.Rd1.below {w w' : World} {e : Le} (h : e.Rd1 w) (hb : Below w.heap.size w w') : e.Rd1 w' := ⟨h.1.below hb, h.2⟩
theorem Tc.Rds.below {w w' : World} {t : Tc} (h : t.Rds w) (hb : Below w.heap.size w w') : t.Rds w' := ⟨h.mx.below hb, h.lv.below hb, fun e he => (h.es e he).below hb, h.nmx, h.nes⟩
/-- a configuration that a call owns reads -/
theorem tc_rds {w0 : World} {l : List HP} {t : Tc} (i : Nat) (hi : l[i]? = some (tcE t)) (h1 : t.mx.length ≤ 2000000) (h2 : t.es.length ≤ 2000000) (h3 : ∀ e ∈ t.es, e.xs.length ≤ 2000000) (w : World) (hm : Mem w0 l w) : t.Rds w := by
  obtain ⟨b1, -⟩ := hm.holds _ (mem_at hi)
  have c1 := (b1 _ (List.mem_cons_self)).2
  have c2 := (b1 _ (List.mem_cons_of_mem _ List.mem_cons_self)).2
  obtain ⟨b2, -⟩ := c2
  have c3 := (b2 _ (List.mem_cons_self)).2
  have c4 := (b2 _ (List.mem_cons_of_mem _ List.mem_cons_self)).2
  exact ⟨rdsW_own c1, rdsW_own c4, fun e he => ⟨rdsW_own (c3.1 (lePart e) (List.mem_map.2 ⟨e, he, rfl⟩)).2, h3 e he⟩, h1, h2⟩
def markLe (k : Int) (e : Le) : Le := ⟨e.v, seqL k e.xs.length, k + e.xs.length, k + e.xs.length + 1, k + e.xs.length + 2⟩
def nextK (k : Int) (e : Le) : Int := k + e.xs.length + 3
def markEs : Int → List Le → List Le
  | _, [] => []
  | k, e :: es => markLe k e :: markEs (nextK k e) es
def sumK : Int → List Le → Int
  | k, [] => k
  | k, e :: es => sumK (nextK k e) es
theorem markEs_len : ∀ (es : List Le) (k : Int), (markEs k es).length = es.length
  | [], _ => rfl
  | _ :: es, _ => by rw [markEs, List.length_cons, List.length_cons, markEs_len es]
theorem markEs_snoc : ∀ (es : List Le) (k : Int) (e : Le), markEs k (es ++ [e]) = markEs k es ++ [markLe (sumK k es) e]
  | [], k, e => rfl
  | a :: es, k, e => by simp only [List.cons_append, markEs, sumK, markEs_snoc es]
theorem sumK_snoc : ∀ (es : List Le) (k : Int) (e : Le), sumK k (es ++ [e]) = nextK (sumK k es) e
  | [], k, e => rfl
  | a :: es, k, e => by simp only [List.cons_append, sumK, sumK_snoc es]
def markE (k : Int) (es : List Le) (j : Nat) : List Le := markEs k (es.take j) ++ es.drop j
theorem markE_len (k : Int) (es : List Le) (j : Nat) (h : j ≤ es.length) : (markE k es j).length = es.length := by unfold markE; rw [List.length_append, markEs_len, List.length_take, List.length_drop]; omega
theorem markE_at (k : Int) (es : List Le) (j : Nat) (h : j < es.length) : (markE k es j).getD j Le0 = es.getD j Le0 := by
  unfold markE
  rw [List.getD_eq_getElem?_getD, List.getElem?_append_right (by rw [markEs_len, List.length_take]; omega), markEs_len, List.length_take, show j - min j es.length = 0 by omega, List.getElem?_drop, Nat.add_zero, ← List.getD_eq_getElem?_getD]
theorem markE_succ (k : Int) (es : List Le) (j : Nat) (h : j < es.length) : (markE k es j).set j (markLe (sumK k (es.take j)) (es.getD j Le0)) = markE k es (j + 1) := by
  have e : es.getD j Le0 = es[j] := by rw [List.getD_eq_getElem?_getD, List.getElem?_eq_getElem h]; rfl
  unfold markE
  rw [List.set_append_right _ _ (by rw [markEs_len, List.length_take]; omega), markEs_len, List.length_take, show j - min j es.length = 0 by omega, List.drop_eq_getElem_cons h, List.set_cons_zero,
    List.take_succ_eq_append_getElem h, markEs_snoc, List.append_assoc, e]; rfl
theorem sumK_succ (k : Int) (es : List Le) (j : Nat) (h : j < es.length) : sumK k (es.take (j + 1)) = sumK k (es.take j) + (es.getD j Le0).xs.length + 3 := by
  have e : es.getD j Le0 = es[j] := by rw [List.getD_eq_getElem?_getD, List.getElem?_eq_getElem h]; rfl
  rw [List.take_succ_eq_append_getElem h, sumK_snoc, e]; rfl
theorem markE_all (k : Int) (es : List Le) : markE k es es.length = markEs k es := by unfold markE; rw [List.take_length, List.drop_length, List.append_nil]
/-- held: marked already -/
theorem held_at : ∀ (es : List Le) (k : Int) (j : Nat), markEs k es = es → j < es.length → es.getD j Le0 = markLe (sumK k (es.take j)) (es.getD j Le0)
  | [], k, j, _, h => by simp at h
  | e :: es, k, 0, he, h => by simp only [markEs, List.cons.injEq] at he; exact he.1.symm
  | e :: es, k, j + 1, he, h => by
    simp only [markEs, List.cons.injEq] at he
    exact held_at es (nextK k e) j he.2 (by simpa using h)
theorem markEs_again : ∀ (es : List Le) (k : Int), markEs k (markEs k es) = markEs k es
  | [], k => rfl
  | e :: es, k => by
    have h1 : markLe k (markLe k e) = markLe k e := by simp [markLe, seqL_len]
    have h2 : nextK k (markLe k e) = nextK k e := by simp [nextK, markLe, seqL_len]
    rw [markEs, markEs, h1, h2, markEs_again es]
theorem sumK_again : ∀ (es : List Le) (k : Int), sumK k (markEs k es) = sumK k es
  | [], k => rfl
  | e :: es, k => by
    have h2 : nextK k (markLe k e) = nextK k e := by simp [nextK, markLe, seqL_len]
    rw [markEs, sumK, sumK, h2, sumK_again es]
theorem sumK_le : ∀ (es : List Le) (k : Int), (∀ e ∈ es, e.xs.length ≤ 2000000) → k ≤ sumK k es ∧ sumK k es ≤ k + es.length * 2000003
  | [], k, _ => by simp [sumK]
  | e :: es, k, h => by
    have h1 := h e List.mem_cons_self
    have h2 := sumK_le es (nextK k e) (fun x hx => h x (List.mem_cons_of_mem _ hx))
    rw [sumK, List.length_cons]
    unfold nextK at *
    omega
def markT (k : Int) (t : Tc) : Tc := ⟨t.mv, seqL k t.mx.length, t.lv, markEs (k + t.mx.length) t.es, t.pad, t.ram⟩
def sumT (k : Int) (t : Tc) : Int := sumK (k + t.mx.length) t.es
theorem markT_again (k : Int) (t : Tc) : markT k (markT k t) = markT k t := by simp only [markT, seqL_len, markEs_again]
theorem sumT_again (k : Int) (t : Tc) : sumT k (markT k t) = sumT k t := by simp only [markT, sumT, seqL_len, sumK_again]
theorem markEs_mem : ∀ (es : List Le) (k : Int), (∀ e ∈ es, e.xs.length ≤ 2000000) → ∀ e ∈ markEs k es, e.xs.length ≤ 2000000
  | [], k, h, e, he => by cases he
  | a :: es, k, h, e, he => by
    rw [markEs] at he
    rcases List.mem_cons.1 he with rfl | he
    · have := h a List.mem_cons_self; simpa [markLe, seqL_len] using this
    · exact markEs_mem es _ (fun x hx => h x (List.mem_cons_of_mem _ hx)) e he
set_option maxHeartbeats 4000000 in
set_option maxRecDepth 100000 in
theorem eqLeConfig_ans (a b : Le) (w : World) (ha : a.Rd1 w) (hb : b.Rd1 w) :
    Calls Try.prog 128 #[.agg #[a.v, .int .i64 a.m, .int .i64 a.f, .int .i64 a.i], .agg #[b.v, .int .i64 b.m, .int .i64 b.f, .int .i64 b.i]] w (Ans w (.bool (decide (a.val = b.val)))) := by
  have hal := ha.2
  refine calls_hc (N := 26) (args := [.agg #[a.v, .int .i64 a.m, .int .i64 a.f, .int .i64 a.i], .agg #[b.v, .int .i64 b.m, .int .i64 b.f, .int .i64 b.i]]) Try.func128 rfl rfl ?_
  refine hc_less _ (sub_cons (d := 0) rfl (sub_cons (d := 1) rfl (sub_nil _))) (.refl _) ?_
  refine hc_seq ?_
  refine hc_region ?_
  refine hl_box rfl rfl rfl (rq_box rfl rfl) ?_
  intro b1
  refine hl_box rfl rfl rfl (rq_box rfl rfl) ?_
  intro b2
  refine hl_v rfl rfl rfl (rv_ev rfl) ?_
  refine hl_less (sub_cons (d := 0) rfl (sub_cons (d := 1) rfl (sub_cons (d := 2) rfl (sub_cons (d := 3) rfl (sub_cons (d := 4) rfl (sub_nil _)))))) (.refl _) ?_
  refine hl_nil ?_
  refine hq_then ?_
  refine hc_seq ?_
  refine hc_seq ?_
  refine hc_region ?_
  refine hl_v rfl rfl rfl (rv_field (k0 := 0) rfl (by kernel_rfl) rfl) ?_
  refine hl_v rfl rfl rfl (rv_load rfl (by kernel_rfl) rfl (box_cell 1 rfl rfl)) ?_
  refine hl_v rfl rfl rfl (rv_field (k0 := 0) rfl (by kernel_rfl) rfl) ?_
  refine hl_v rfl rfl rfl (rv_load rfl (by kernel_rfl) rfl (box_cell 0 rfl rfl)) ?_
  refine hl_callV rfl rfl rfl (rq_call (by kernel_rfl) rfl (fun w hm => ret_ans (eqIntS_ans a.xs b.xs _ _ w ((rd_old ha.1) w hm) ((rd_old hb.1) w hm) (by omega)))) ?_
  refine hl_bool (fun h3 => ?_) (fun h3 => ?_)
  ·
    have h3p := of_decide_eq_true h3
    refine hl_v rfl rfl rfl (rv_ev rfl) ?_
    refine hl_less (sub_cons (d := 0) rfl (sub_cons (d := 1) rfl (sub_cons (d := 2) rfl (sub_cons (d := 3) rfl (sub_cons (d := 4) rfl (sub_cons (d := 10) rfl (sub_nil _))))))) (.refl _) ?_
    refine hl_nil ?_
    refine hq_then ?_
    refine hc_false rfl ?_
    refine hc_skip ?_
    refine hq_then ?_
    refine hc_seq ?_
    refine hc_seq ?_
    refine hc_region ?_
    refine hl_v rfl rfl rfl (rv_field (k0 := 1) rfl (by kernel_rfl) rfl) ?_
    refine hl_v rfl rfl rfl (rv_load rfl (by kernel_rfl) rfl (box_cell 1 rfl rfl)) ?_
    refine hl_v rfl rfl rfl (rv_field (k0 := 1) rfl (by kernel_rfl) rfl) ?_
    refine hl_v rfl rfl rfl (rv_load rfl (by kernel_rfl) rfl (box_cell 0 rfl rfl)) ?_
    refine hl_neq rfl rfl rfl rfl rfl rfl (fun h4 => ?_) (fun h4 => ?_)
    ·
      refine hl_less (sub_cons (d := 0) rfl (sub_cons (d := 1) rfl (sub_cons (d := 2) rfl (sub_cons (d := 3) rfl (sub_cons (d := 4) rfl (sub_cons (d := 10) rfl (sub_cons (d := 15) rfl (sub_nil _)))))))) (.refl _) ?_
      refine hl_nil ?_
      refine hq_then ?_
      refine hc_true rfl ?_
      refine hc_seq ?_
      refine hc_region ?_
      refine hl_v rfl rfl rfl (rv_ev rfl) ?_
      refine hl_less (sub_cons (d := 0) rfl (sub_cons (d := 1) rfl (sub_cons (d := 2) rfl (sub_cons (d := 3) rfl (sub_cons (d := 4) rfl (sub_cons (d := 10) rfl (sub_cons (d := 15) rfl (sub_nil _)))))))) (.refl _) ?_
      refine hl_nil ?_
      refine hq_then ?_
      refine hc_ret ?_
      refine hq_then_ret ?_
      exact hq_ans rfl rfl (congrArg _ (decide_eq_false (by simp only [Le.val, Prod.mk.injEq]; rintro ⟨q1, q2, q3, q4⟩; first | omega | contradiction)).symm)
    ·
      refine hl_less (sub_cons (d := 0) rfl (sub_cons (d := 1) rfl (sub_cons (d := 2) rfl (sub_cons (d := 3) rfl (sub_cons (d := 4) rfl (sub_cons (d := 10) rfl (sub_cons (d := 15) rfl (sub_nil _)))))))) (.refl _) ?_
      refine hl_nil ?_
      refine hq_then ?_
      refine hc_false rfl ?_
      refine hc_skip ?_
      refine hq_then ?_
      refine hc_seq ?_
      refine hc_seq ?_
      refine hc_region ?_
      refine hl_v rfl rfl rfl (rv_field (k0 := 2) rfl (by kernel_rfl) rfl) ?_
      refine hl_v rfl rfl rfl (rv_load rfl (by kernel_rfl) rfl (box_cell 1 rfl rfl)) ?_
      refine hl_v rfl rfl rfl (rv_field (k0 := 2) rfl (by kernel_rfl) rfl) ?_
      refine hl_v rfl rfl rfl (rv_load rfl (by kernel_rfl) rfl (box_cell 0 rfl rfl)) ?_
      refine hl_neq rfl rfl rfl rfl rfl rfl (fun h5 => ?_) (fun h5 => ?_)
      ·
        refine hl_less (sub_cons (d := 0) rfl (sub_cons (d := 1) rfl (sub_cons (d := 2) rfl (sub_cons (d := 3) rfl (sub_cons (d := 4) rfl (sub_cons (d := 10) rfl (sub_cons (d := 15) rfl (sub_cons (d := 20) rfl (sub_nil _))))))))) (.refl _) ?_
        refine hl_nil ?_
        refine hq_then ?_
        refine hc_true rfl ?_
        refine hc_seq ?_
        refine hc_region ?_
        refine hl_v rfl rfl rfl (rv_ev rfl) ?_
        refine hl_less (sub_cons (d := 0) rfl (sub_cons (d := 1) rfl (sub_cons (d := 2) rfl (sub_cons (d := 3) rfl (sub_cons (d := 4) rfl (sub_cons (d := 10) rfl (sub_cons (d := 15) rfl (sub_cons (d := 20) rfl (sub_nil _))))))))) (.refl _) ?_
        refine hl_nil ?_
        refine hq_then ?_
        refine hc_ret ?_
        refine hq_then_ret ?_
        exact hq_ans rfl rfl (congrArg _ (decide_eq_false (by simp only [Le.val, Prod.mk.injEq]; rintro ⟨q1, q2, q3, q4⟩; first | omega | contradiction)).symm)
      ·
        refine hl_less (sub_cons (d := 0) rfl (sub_cons (d := 1) rfl (sub_cons (d := 2) rfl (sub_cons (d := 3) rfl (sub_cons (d := 4) rfl (sub_cons (d := 10) rfl (sub_cons (d := 15) rfl (sub_cons (d := 20) rfl (sub_nil _))))))))) (.refl _) ?_
        refine hl_nil ?_
        refine hq_then ?_
        refine hc_false rfl ?_
        refine hc_skip ?_
        refine hq_then ?_
        refine hc_seq ?_
        refine hc_seq ?_
        refine hc_region ?_
        refine hl_v rfl rfl rfl (rv_field (k0 := 3) rfl (by kernel_rfl) rfl) ?_
        refine hl_v rfl rfl rfl (rv_load rfl (by kernel_rfl) rfl (box_cell 1 rfl rfl)) ?_
        refine hl_v rfl rfl rfl (rv_field (k0 := 3) rfl (by kernel_rfl) rfl) ?_
        refine hl_v rfl rfl rfl (rv_load rfl (by kernel_rfl) rfl (box_cell 0 rfl rfl)) ?_
        refine hl_neq rfl rfl rfl rfl rfl rfl (fun h6 => ?_) (fun h6 => ?_)
        ·
          refine hl_less (sub_cons (d := 0) rfl (sub_cons (d := 1) rfl (sub_cons (d := 2) rfl (sub_cons (d := 3) rfl (sub_cons (d := 4) rfl (sub_cons (d := 10) rfl (sub_cons (d := 15) rfl (sub_cons (d := 20) rfl (sub_cons (d := 25) rfl (sub_nil _)))))))))) (.refl _) ?_
          refine hl_nil ?_
          refine hq_then ?_
          refine hc_true rfl ?_
          refine hc_seq ?_
          refine hc_region ?_
          refine hl_v rfl rfl rfl (rv_ev rfl) ?_
          refine hl_less (sub_cons (d := 0) rfl (sub_cons (d := 1) rfl (sub_cons (d := 2) rfl (sub_cons (d := 3) rfl (sub_cons (d := 4) rfl (sub_cons (d := 10) rfl (sub_cons (d := 15) rfl (sub_cons (d := 20) rfl (sub_cons (d := 25) rfl (sub_nil _)))))))))) (.refl _) ?_
          refine hl_nil ?_
          refine hq_then ?_
          refine hc_ret ?_
          refine hq_then_ret ?_
          exact hq_ans rfl rfl (congrArg _ (decide_eq_false (by simp only [Le.val, Prod.mk.injEq]; rintro ⟨q1, q2, q3, q4⟩; first | omega | contradiction)).symm)
        ·
          refine hl_less (sub_cons (d := 0) rfl (sub_cons (d := 1) rfl (sub_cons (d := 2) rfl (sub_cons (d := 3) rfl (sub_cons (d := 4) rfl (sub_cons (d := 10) rfl (sub_cons (d := 15) rfl (sub_cons (d := 20) rfl (sub_cons (d := 25) rfl (sub_nil _)))))))))) (.refl _) ?_
          refine hl_nil ?_
          refine hq_then ?_
          refine hc_false rfl ?_
          refine hc_skip ?_
          refine hq_then ?_
          refine hc_seq ?_
          refine hc_region ?_
          refine hl_v rfl rfl rfl (rv_ev rfl) ?_
          refine hl_less (sub_cons (d := 0) rfl (sub_cons (d := 1) rfl (sub_cons (d := 2) rfl (sub_cons (d := 3) rfl (sub_cons (d := 4) rfl (sub_cons (d := 10) rfl (sub_cons (d := 15) rfl (sub_cons (d := 20) rfl (sub_cons (d := 25) rfl (sub_nil _)))))))))) (.refl _) ?_
          refine hl_nil ?_
          refine hq_then ?_
          refine hc_ret ?_
          exact hq_ans rfl rfl (congrArg _ (decide_eq_true (by simp only [Le.val, Prod.mk.injEq]; exact ⟨by assumption, by omega, by omega, by omega⟩)).symm)
  ·
    have h3p := of_decide_eq_false h3
    refine hl_v rfl rfl rfl (rv_ev rfl) ?_
    refine hl_less (sub_cons (d := 0) rfl (sub_cons (d := 1) rfl (sub_cons (d := 2) rfl (sub_cons (d := 3) rfl (sub_cons (d := 4) rfl (sub_cons (d := 10) rfl (sub_nil _))))))) (.refl _) ?_
    refine hl_nil ?_
    refine hq_then ?_
    refine hc_true rfl ?_
    refine hc_seq ?_
    refine hc_region ?_
    refine hl_v rfl rfl rfl (rv_ev rfl) ?_
    refine hl_less (sub_cons (d := 0) rfl (sub_cons (d := 1) rfl (sub_cons (d := 2) rfl (sub_cons (d := 3) rfl (sub_cons (d := 4) rfl (sub_cons (d := 10) rfl (sub_nil _))))))) (.refl _) ?_
    refine hl_nil ?_
    refine hq_then ?_
    refine hc_ret ?_
    refine hq_then_ret ?_
    exact hq_ans rfl rfl (congrArg _ (decide_eq_false (by simp only [Le.val, Prod.mk.injEq]; rintro ⟨q1, q2, q3, q4⟩; first | omega | contradiction)).symm)
set_option maxHeartbeats 4000000 in
set_option maxRecDepth 100000 in
theorem eqLeConfigS_ans (ea eb : List Le) (u v : Value) (w : World) (hu : RdsW w u 4 ea.length (ea.flatMap Le.cells)) (hv : RdsW w v 4 eb.length (eb.flatMap Le.cells)) (has : ∀ e ∈ ea, e.Rd1 w) (hbs : ∀ e ∈ eb, e.Rd1 w) (hlen : ea.length ≤ 2000000) :
    Calls Try.prog 82 #[u, v] w (Ans w (.bool (decide (ea.map Le.val = eb.map Le.val)))) := by
  refine calls_hc (N := 27) (args := [u, v]) Try.func82 rfl rfl ?_
  refine hc_less _ (sub_cons (d := 0) rfl (sub_cons (d := 1) rfl (sub_nil _))) (.refl _) ?_
  refine hc_seq ?_
  refine hc_region ?_
  refine hl_v rfl rfl rfl (rv_ev rfl) ?_
  refine hl_less (sub_cons (d := 0) rfl (sub_cons (d := 1) rfl (sub_cons (d := 4) rfl (sub_nil _)))) (.refl _) ?_
  refine hl_nil ?_
  refine hq_then ?_
  refine hc_seq ?_
  refine hc_seq ?_
  refine hc_region ?_
  refine hl_v rfl rfl rfl (rv_ev rfl) ?_
  refine hl_v rfl rfl rfl (rv_len rfl Try.underlying37 rfl (rd_old hu)) ?_
  refine hl_v rfl rfl rfl (rv_ev rfl) ?_
  refine hl_v rfl rfl rfl (rv_len rfl Try.underlying37 rfl (rd_old hv)) ?_
  refine hl_neq rfl rfl rfl rfl rfl rfl (fun h1 => ?_) (fun h1 => ?_)
  ·
    refine hl_less (sub_cons (d := 0) rfl (sub_cons (d := 1) rfl (sub_cons (d := 4) rfl (sub_cons (d := 10) rfl (sub_nil _))))) (.refl _) ?_
    refine hl_nil ?_
    refine hq_then ?_
    refine hc_true rfl ?_
    refine hc_seq ?_
    refine hc_region ?_
    refine hl_v rfl rfl rfl (rv_ev rfl) ?_
    refine hl_less (sub_cons (d := 0) rfl (sub_cons (d := 1) rfl (sub_cons (d := 4) rfl (sub_cons (d := 10) rfl (sub_nil _))))) (.refl _) ?_
    refine hl_nil ?_
    refine hq_then ?_
    refine hc_ret ?_
    refine hq_then_ret ?_
    exact hq_ans rfl rfl (congrArg _ (decide_eq_false (fun he => by first | (have := congrArg List.length he; simp at this; omega) | (have := map_at (d := Le0) he (i := j) (by omega); contradiction))).symm)
  ·
    refine hl_less (sub_cons (d := 0) rfl (sub_cons (d := 1) rfl (sub_cons (d := 4) rfl (sub_cons (d := 10) rfl (sub_nil _))))) (.refl _) ?_
    refine hl_nil ?_
    refine hq_then ?_
    refine hc_false rfl ?_
    refine hc_skip ?_
    refine hq_then ?_
    refine hc_seq ?_
    refine hc_seq ?_
    refine hc_region ?_
    refine hl_v rfl rfl rfl (rv_ev rfl) ?_
    refine hl_less (sub_cons (d := 0) rfl (sub_cons (d := 1) rfl (sub_cons (d := 4) rfl (sub_cons (d := 5) rfl (sub_cons (d := 10) rfl (sub_nil _)))))) (.refl _) ?_
    refine hl_nil ?_
    refine hq_then ?_
    refine hc_block ?_
    refine hc_loop1 (α := Nat) (fun j => []) (fun j => [(0, u), (1, v), (4, .bool false), (5, .int .i64 (j : Int)), (10, .bool false)]) (fun j => j ≤ ea.length ∧ ∀ i, i < j → (ea.getD i Le0).val = (eb.getD i Le0).val) (fun j => ea.length - j) 0 ⟨by omega, fun i hi => absurd hi (by omega)⟩ (sub_cons (d := 0) rfl (sub_cons (d := 1) rfl (sub_cons (d := 4) rfl (sub_cons (d := 5) rfl (sub_cons (d := 10) rfl (sub_nil _)))))) (.slnil) ?_
    intro j hi2
    obtain ⟨hk1, hk2⟩ := hi2
    refine hc_seq ?_
    refine hc_seq ?_
    refine hc_region ?_
    refine hl_v rfl rfl rfl (rv_ev rfl) ?_
    refine hl_v rfl rfl rfl (rv_ev rfl) ?_
    refine hl_v rfl rfl rfl (rv_len rfl Try.underlying37 rfl (rd_old hu)) ?_
    refine hl_lss rfl rfl rfl rfl rfl rfl (fun h3 => ?_) (fun h3 => ?_)
    ·
      refine hl_less (sub_cons (d := 0) rfl (sub_cons (d := 1) rfl (sub_cons (d := 4) rfl (sub_cons (d := 5) rfl (sub_cons (d := 10) rfl (sub_cons (d := 14) rfl (sub_nil _))))))) (.refl _) ?_
      refine hl_nil ?_
      refine hq_then ?_
      refine hc_true rfl ?_
      refine hc_skip ?_
      refine hq_then ?_
      refine hc_seq ?_
      refine hc_block ?_
      refine hc_seq ?_
      rcases Bool.eq_false_or_eq_true (decide ((ea.getD j Le0).val = (eb.getD j Le0).val)) with hb4 | hb4
      ·
        have hb4p := of_decide_eq_true hb4
        refine hc_draw (by kernel_rfl) 10 [0, 1, 2, 3, 4, 5, 6, 7, 8, 9] (List.take 10 _) (List.drop 10 _) [[], [], [0, 1], [2], [], [], [4, 5], [6], [3, 7], [8]] [17, 18, 19, 20, 21, 22, 23, 24, 25, 26] (fun i vs_ v_ p_ => match i with | 0 => v_ = u ∧ p_ = [] | 1 => v_ = .int .i64 (j : Int) ∧ p_ = [] | 2 => v_ = elP u (((j : Int)).toNat * 4) ∧ p_ = [] | 3 => v_ = .agg #[(ea.getD j Le0).v, .int .i64 ((ea.getD j Le0).m), .int .i64 ((ea.getD j Le0).f), .int .i64 ((ea.getD j Le0).i)] ∧ p_ = [] | 4 => v_ = v ∧ p_ = [] | 5 => v_ = .int .i64 (j : Int) ∧ p_ = [] | 6 => v_ = elP v (((j : Int)).toNat * 4) ∧ p_ = [] | 7 => v_ = .agg #[(eb.getD j Le0).v, .int .i64 ((eb.getD j Le0).m), .int .i64 ((eb.getD j Le0).f), .int .i64 ((eb.getD j Le0).i)] ∧ p_ = [] | 8 => v_ = .bool true ∧ p_ = [] | 9 => v_ = .bool false ∧ p_ = [] | _ => True) (List.take_append_drop 10 _).symm (by kernel_rfl) (by kernel_rfl) rfl rfl ?_ ?_
        ·
          refine ⟨?_, ?_, ?_, ?_, ?_, ?_, ?_, ?_, ?_, ?_, trivial⟩
          ·
            intro vf pf hR
            refine Or.inl ⟨rfl, ?_⟩
            refine rq_less (l' := []) (sub_cons (d := 0) rfl (sub_nil _)) (List.sublist_append_right _ _) ?_
            exact rq_v (rv_ev rfl)
          ·
            intro vf pf hR
            refine Or.inl ⟨rfl, ?_⟩
            refine rq_less (l' := []) (sub_cons (d := 5) rfl (sub_nil _)) (List.sublist_append_right _ _) ?_
            exact rq_v (rv_ev rfl)
          ·
            intro vf pf hR
            have e0 : (vf 0) = u ∧ (pf 0) = [] := hR 0 (by decide)
            have e1 : (vf 1) = .int .i64 (j : Int) ∧ (pf 1) = [] := hR 1 (by decide)
            refine Or.inl ⟨rfl, ?_⟩
            refine rq_less (l' := []) (sub_cons (d := 17) (congrArg some e0.1) (sub_cons (d := 18) (congrArg some e1.1) (sub_nil _))) (List.sublist_append_right _ _) ?_
            exact rq_v (rv_index (s := 4) rfl Try.underlying37 (by kernel_rfl) rfl rfl (rd_old hu) (by omega) (by first | omega | (simp only [List.length_set]; omega)))
          ·
            intro vf pf hR
            have e2 : (vf 2) = elP u (((j : Int)).toNat * 4) ∧ (pf 2) = [] := hR 2 (by decide)
            refine Or.inl ⟨rfl, ?_⟩
            refine rq_less (l' := []) (sub_cons (d := 19) (congrArg some e2.1) (sub_nil _)) (List.sublist_append_right _ _) ?_
            exact rq_v (rv_loadElN (us := [(ea.getD j Le0).v, .int .i64 ((ea.getD j Le0).m), .int .i64 ((ea.getD j Le0).f), .int .i64 ((ea.getD j Le0).i)]) rfl (by kernel_rfl) (by kernel_rfl) rfl (rd_old hu) (by omega) rfl (flat_atN Le.cells 4 (fun _ => rfl) ea Le0 (show j < _ by first | omega | (simp only [List.length_set]; omega)) rfl))
          ·
            intro vf pf hR
            refine Or.inl ⟨rfl, ?_⟩
            refine rq_less (l' := []) (sub_cons (d := 1) rfl (sub_nil _)) (List.sublist_append_right _ _) ?_
            exact rq_v (rv_ev rfl)
          ·
            intro vf pf hR
            refine Or.inl ⟨rfl, ?_⟩
            refine rq_less (l' := []) (sub_cons (d := 5) rfl (sub_nil _)) (List.sublist_append_right _ _) ?_
            exact rq_v (rv_ev rfl)
          ·
            intro vf pf hR
            have e4 : (vf 4) = v ∧ (pf 4) = [] := hR 4 (by decide)
            have e5 : (vf 5) = .int .i64 (j : Int) ∧ (pf 5) = [] := hR 5 (by decide)
            refine Or.inl ⟨rfl, ?_⟩
            refine rq_less (l' := []) (sub_cons (d := 21) (congrArg some e4.1) (sub_cons (d := 22) (congrArg some e5.1) (sub_nil _))) (List.sublist_append_right _ _) ?_
            exact rq_v (rv_index (s := 4) rfl Try.underlying37 (by kernel_rfl) rfl rfl (rd_old hv) (by omega) (by first | omega | (simp only [List.length_set]; omega)))
          ·
            intro vf pf hR
            have e6 : (vf 6) = elP v (((j : Int)).toNat * 4) ∧ (pf 6) = [] := hR 6 (by decide)
            refine Or.inl ⟨rfl, ?_⟩
            refine rq_less (l' := []) (sub_cons (d := 23) (congrArg some e6.1) (sub_nil _)) (List.sublist_append_right _ _) ?_
            exact rq_v (rv_loadElN (us := [(eb.getD j Le0).v, .int .i64 ((eb.getD j Le0).m), .int .i64 ((eb.getD j Le0).f), .int .i64 ((eb.getD j Le0).i)]) rfl (by kernel_rfl) (by kernel_rfl) rfl (rd_old hv) (by omega) rfl (flat_atN Le.cells 4 (fun _ => rfl) eb Le0 (show j < _ by first | omega | (simp only [List.length_set]; omega)) rfl))
          ·
            intro vf pf hR
            have e3 : (vf 3) = .agg #[(ea.getD j Le0).v, .int .i64 ((ea.getD j Le0).m), .int .i64 ((ea.getD j Le0).f), .int .i64 ((ea.getD j Le0).i)] ∧ (pf 3) = [] := hR 3 (by decide)
            have e7 : (vf 7) = .agg #[(eb.getD j Le0).v, .int .i64 ((eb.getD j Le0).m), .int .i64 ((eb.getD j Le0).f), .int .i64 ((eb.getD j Le0).i)] ∧ (pf 7) = [] := hR 7 (by decide)
            refine Or.inl ⟨rfl, ?_⟩
            refine rq_less (l' := []) (sub_cons (d := 20) (congrArg some e3.1) (sub_cons (d := 24) (congrArg some e7.1) (sub_nil _))) (List.sublist_append_right _ _) ?_
            exact rq_mono (rq_call (by kernel_rfl) rfl (fun w hm => ret_ans (eqLeConfig_ans (ea.getD j Le0) (eb.getD j Le0) w ((has _ (getD_mem' (by omega))).below hm.bel) ((hbs _ (getD_mem' (by omega))).below hm.bel)))) (fun _ _ h => ⟨h.1.trans (congrArg Value.bool hb4), h.2⟩)
          ·
            intro vf pf hR
            have e8 : (vf 8) = .bool true ∧ (pf 8) = [] := hR 8 (by decide)
            refine Or.inl ⟨rfl, ?_⟩
            refine rq_less (l' := []) (sub_cons (d := 25) (congrArg some e8.1) (sub_nil _)) (List.sublist_append_right _ _) ?_
            exact rq_v (rv_ev rfl)
        ·
          intro vf pf hR
          have e9 : (vf 9) = .bool false ∧ (pf 9) = [] := hR 9 (by decide)
          refine hl_less (l' := []) (sub_cons (d := 0) rfl (sub_cons (d := 1) rfl (sub_cons (d := 4) rfl (sub_cons (d := 5) rfl (sub_cons (d := 10) rfl (sub_cons (d := 14) rfl (sub_cons (d := 26) (congrArg some e9.1) (sub_nil _)))))))) (List.sublist_append_right _ _) ?_
          simp only [List.drop_succ_cons, List.drop_zero]
          refine hl_less (sub_cons (d := 0) rfl (sub_cons (d := 1) rfl (sub_cons (d := 4) rfl (sub_cons (d := 5) rfl (sub_cons (d := 10) rfl (sub_cons (d := 14) rfl (sub_cons (d := 26) rfl (sub_nil _)))))))) (.refl _) ?_
          refine hl_nil ?_
          refine hq_then ?_
          refine hc_false rfl ?_
          refine hc_skip ?_
          refine hq_block_normal ?_
          refine hq_then ?_
          refine hc_region ?_
          refine hl_v rfl rfl rfl (rv_ev rfl) ?_
          refine hl_v rfl rfl rfl (rv_add rfl rfl rfl (by constructor <;> omega)) ?_
          refine hl_v rfl rfl rfl (rv_ev rfl) ?_
          refine hl_less (sub_cons (d := 0) rfl (sub_cons (d := 1) rfl (sub_cons (d := 4) rfl (sub_cons (d := 5) rfl (sub_cons (d := 10) rfl (sub_cons (d := 14) rfl (sub_cons (d := 26) rfl (sub_nil _)))))))) (.refl _) ?_
          refine hl_nil ?_
          exact hq_round1 (j + 1) ⟨by omega, fun i hi => by by_cases hij : i = j; (subst hij; simpa using (by assumption)); exact hk2 i (by omega)⟩ (by omega) (sub_cons (d := 0) rfl (sub_cons (d := 1) rfl (sub_cons (d := 4) rfl (sub_cons (d := 5) rfl (sub_cons (d := 10) rfl (sub_nil _)))))) (.slnil)
      ·
        have hb4p := of_decide_eq_false hb4
        refine hc_draw (by kernel_rfl) 10 [0, 1, 2, 3, 4, 5, 6, 7, 8, 9] (List.take 10 _) (List.drop 10 _) [[], [], [0, 1], [2], [], [], [4, 5], [6], [3, 7], [8]] [17, 18, 19, 20, 21, 22, 23, 24, 25, 26] (fun i vs_ v_ p_ => match i with | 0 => v_ = u ∧ p_ = [] | 1 => v_ = .int .i64 (j : Int) ∧ p_ = [] | 2 => v_ = elP u (((j : Int)).toNat * 4) ∧ p_ = [] | 3 => v_ = .agg #[(ea.getD j Le0).v, .int .i64 ((ea.getD j Le0).m), .int .i64 ((ea.getD j Le0).f), .int .i64 ((ea.getD j Le0).i)] ∧ p_ = [] | 4 => v_ = v ∧ p_ = [] | 5 => v_ = .int .i64 (j : Int) ∧ p_ = [] | 6 => v_ = elP v (((j : Int)).toNat * 4) ∧ p_ = [] | 7 => v_ = .agg #[(eb.getD j Le0).v, .int .i64 ((eb.getD j Le0).m), .int .i64 ((eb.getD j Le0).f), .int .i64 ((eb.getD j Le0).i)] ∧ p_ = [] | 8 => v_ = .bool false ∧ p_ = [] | 9 => v_ = .bool true ∧ p_ = [] | _ => True) (List.take_append_drop 10 _).symm (by kernel_rfl) (by kernel_rfl) rfl rfl ?_ ?_
        ·
          refine ⟨?_, ?_, ?_, ?_, ?_, ?_, ?_, ?_, ?_, ?_, trivial⟩
          ·
            intro vf pf hR
            refine Or.inl ⟨rfl, ?_⟩
            refine rq_less (l' := []) (sub_cons (d := 0) rfl (sub_nil _)) (List.sublist_append_right _ _) ?_
            exact rq_v (rv_ev rfl)
          ·
            intro vf pf hR
            refine Or.inl ⟨rfl, ?_⟩
            refine rq_less (l' := []) (sub_cons (d := 5) rfl (sub_nil _)) (List.sublist_append_right _ _) ?_
            exact rq_v (rv_ev rfl)
          ·
            intro vf pf hR
            have e0 : (vf 0) = u ∧ (pf 0) = [] := hR 0 (by decide)
            have e1 : (vf 1) = .int .i64 (j : Int) ∧ (pf 1) = [] := hR 1 (by decide)
            refine Or.inl ⟨rfl, ?_⟩
            refine rq_less (l' := []) (sub_cons (d := 17) (congrArg some e0.1) (sub_cons (d := 18) (congrArg some e1.1) (sub_nil _))) (List.sublist_append_right _ _) ?_
            exact rq_v (rv_index (s := 4) rfl Try.underlying37 (by kernel_rfl) rfl rfl (rd_old hu) (by omega) (by first | omega | (simp only [List.length_set]; omega)))
          ·
            intro vf pf hR
            have e2 : (vf 2) = elP u (((j : Int)).toNat * 4) ∧ (pf 2) = [] := hR 2 (by decide)
            refine Or.inl ⟨rfl, ?_⟩
            refine rq_less (l' := []) (sub_cons (d := 19) (congrArg some e2.1) (sub_nil _)) (List.sublist_append_right _ _) ?_
            exact rq_v (rv_loadElN (us := [(ea.getD j Le0).v, .int .i64 ((ea.getD j Le0).m), .int .i64 ((ea.getD j Le0).f), .int .i64 ((ea.getD j Le0).i)]) rfl (by kernel_rfl) (by kernel_rfl) rfl (rd_old hu) (by omega) rfl (flat_atN Le.cells 4 (fun _ => rfl) ea Le0 (show j < _ by first | omega | (simp only [List.length_set]; omega)) rfl))
          ·
            intro vf pf hR
            refine Or.inl ⟨rfl, ?_⟩
            refine rq_less (l' := []) (sub_cons (d := 1) rfl (sub_nil _)) (List.sublist_append_right _ _) ?_
            exact rq_v (rv_ev rfl)
          ·
            intro vf pf hR
            refine Or.inl ⟨rfl, ?_⟩
            refine rq_less (l' := []) (sub_cons (d := 5) rfl (sub_nil _)) (List.sublist_append_right _ _) ?_
            exact rq_v (rv_ev rfl)
          ·
            intro vf pf hR
            have e4 : (vf 4) = v ∧ (pf 4) = [] := hR 4 (by decide)
            have e5 : (vf 5) = .int .i64 (j : Int) ∧ (pf 5) = [] := hR 5 (by decide)
            refine Or.inl ⟨rfl, ?_⟩
            refine rq_less (l' := []) (sub_cons (d := 21) (congrArg some e4.1) (sub_cons (d := 22) (congrArg some e5.1) (sub_nil _))) (List.sublist_append_right _ _) ?_
            exact rq_v (rv_index (s := 4) rfl Try.underlying37 (by kernel_rfl) rfl rfl (rd_old hv) (by omega) (by first | omega | (simp only [List.length_set]; omega)))
          ·
            intro vf pf hR
            have e6 : (vf 6) = elP v (((j : Int)).toNat * 4) ∧ (pf 6) = [] := hR 6 (by decide)
            refine Or.inl ⟨rfl, ?_⟩
            refine rq_less (l' := []) (sub_cons (d := 23) (congrArg some e6.1) (sub_nil _)) (List.sublist_append_right _ _) ?_
            exact rq_v (rv_loadElN (us := [(eb.getD j Le0).v, .int .i64 ((eb.getD j Le0).m), .int .i64 ((eb.getD j Le0).f), .int .i64 ((eb.getD j Le0).i)]) rfl (by kernel_rfl) (by kernel_rfl) rfl (rd_old hv) (by omega) rfl (flat_atN Le.cells 4 (fun _ => rfl) eb Le0 (show j < _ by first | omega | (simp only [List.length_set]; omega)) rfl))
          ·
            intro vf pf hR
            have e3 : (vf 3) = .agg #[(ea.getD j Le0).v, .int .i64 ((ea.getD j Le0).m), .int .i64 ((ea.getD j Le0).f), .int .i64 ((ea.getD j Le0).i)] ∧ (pf 3) = [] := hR 3 (by decide)
            have e7 : (vf 7) = .agg #[(eb.getD j Le0).v, .int .i64 ((eb.getD j Le0).m), .int .i64 ((eb.getD j Le0).f), .int .i64 ((eb.getD j Le0).i)] ∧ (pf 7) = [] := hR 7 (by decide)
            refine Or.inl ⟨rfl, ?_⟩
            refine rq_less (l' := []) (sub_cons (d := 20) (congrArg some e3.1) (sub_cons (d := 24) (congrArg some e7.1) (sub_nil _))) (List.sublist_append_right _ _) ?_
            exact rq_mono (rq_call (by kernel_rfl) rfl (fun w hm => ret_ans (eqLeConfig_ans (ea.getD j Le0) (eb.getD j Le0) w ((has _ (getD_mem' (by omega))).below hm.bel) ((hbs _ (getD_mem' (by omega))).below hm.bel)))) (fun _ _ h => ⟨h.1.trans (congrArg Value.bool hb4), h.2⟩)
          ·
            intro vf pf hR
            have e8 : (vf 8) = .bool false ∧ (pf 8) = [] := hR 8 (by decide)
            refine Or.inl ⟨rfl, ?_⟩
            refine rq_less (l' := []) (sub_cons (d := 25) (congrArg some e8.1) (sub_nil _)) (List.sublist_append_right _ _) ?_
            exact rq_v (rv_ev rfl)
        ·
          intro vf pf hR
          have e9 : (vf 9) = .bool true ∧ (pf 9) = [] := hR 9 (by decide)
          refine hl_less (l' := []) (sub_cons (d := 0) rfl (sub_cons (d := 1) rfl (sub_cons (d := 4) rfl (sub_cons (d := 5) rfl (sub_cons (d := 10) rfl (sub_cons (d := 14) rfl (sub_cons (d := 26) (congrArg some e9.1) (sub_nil _)))))))) (List.sublist_append_right _ _) ?_
          simp only [List.drop_succ_cons, List.drop_zero]
          refine hl_less (sub_cons (d := 0) rfl (sub_cons (d := 1) rfl (sub_cons (d := 4) rfl (sub_cons (d := 5) rfl (sub_cons (d := 10) rfl (sub_cons (d := 14) rfl (sub_cons (d := 26) rfl (sub_nil _)))))))) (.refl _) ?_
          refine hl_nil ?_
          refine hq_then ?_
          refine hc_true rfl ?_
          refine hc_seq ?_
          refine hc_region ?_
          refine hl_v rfl rfl rfl (rv_ev rfl) ?_
          refine hl_less (sub_cons (d := 0) rfl (sub_cons (d := 1) rfl (sub_cons (d := 4) rfl (sub_cons (d := 5) rfl (sub_cons (d := 10) rfl (sub_cons (d := 14) rfl (sub_cons (d := 26) rfl (sub_nil _)))))))) (.refl _) ?_
          refine hl_nil ?_
          refine hq_then ?_
          refine hc_ret ?_
          refine hq_block_ret ?_
          refine hq_then_ret ?_
          refine hq_then_ret ?_
          refine hq_block_ret ?_
          refine hq_then_ret ?_
          exact hq_ans rfl rfl (congrArg _ (decide_eq_false (fun he => by first | (have := congrArg List.length he; simp at this; omega) | (have := map_at (d := Le0) he (i := j) (by omega); contradiction))).symm)
    ·
      refine hl_less (sub_cons (d := 0) rfl (sub_cons (d := 1) rfl (sub_cons (d := 4) rfl (sub_cons (d := 5) rfl (sub_cons (d := 10) rfl (sub_cons (d := 14) rfl (sub_nil _))))))) (.refl _) ?_
      refine hl_nil ?_
      refine hq_then ?_
      refine hc_false rfl ?_
      refine hc_exit ?_
      refine hq_then_exit ?_
      refine hq_then_exit ?_
      refine hq_block_exit ?_
      refine hq_then ?_
      refine hc_seq ?_
      refine hc_region ?_
      refine hl_v rfl rfl rfl (rv_ev rfl) ?_
      refine hl_less (sub_cons (d := 0) rfl (sub_cons (d := 1) rfl (sub_cons (d := 4) rfl (sub_cons (d := 5) rfl (sub_cons (d := 10) rfl (sub_cons (d := 14) rfl (sub_nil _))))))) (.refl _) ?_
      refine hl_nil ?_
      refine hq_then ?_
      refine hc_ret ?_
      exact hq_ans rfl rfl (congrArg _ (decide_eq_true (map_ext_getD (d := Le0) (by omega) (fun i hi => hk2 i (by omega)))).symm)
set_option maxHeartbeats 4000000 in
set_option maxRecDepth 100000 in
theorem eqTileConfig_ans (a b : Tc) (w : World) (ha : a.Rds w) (hb : b.Rds w) :
    Calls Try.prog 28 #[.agg #[a.mv, a.lv, .int .i64 a.pad, .int .i64 a.ram], .agg #[b.mv, b.lv, .int .i64 b.pad, .int .i64 b.ram]] w (Ans w (.bool (decide (a.val = b.val)))) := by
  have hal := ha.nmx
  refine calls_hc (N := 27) (args := [.agg #[a.mv, a.lv, .int .i64 a.pad, .int .i64 a.ram], .agg #[b.mv, b.lv, .int .i64 b.pad, .int .i64 b.ram]]) Try.func28 rfl rfl ?_
  refine hc_less _ (sub_cons (d := 0) rfl (sub_cons (d := 1) rfl (sub_nil _))) (.refl _) ?_
  refine hc_seq ?_
  refine hc_region ?_
  refine hl_box rfl rfl rfl (rq_box rfl rfl) ?_
  intro b1
  refine hl_box rfl rfl rfl (rq_box rfl rfl) ?_
  intro b2
  refine hl_v rfl rfl rfl (rv_ev rfl) ?_
  refine hl_less (sub_cons (d := 0) rfl (sub_cons (d := 1) rfl (sub_cons (d := 2) rfl (sub_cons (d := 3) rfl (sub_cons (d := 4) rfl (sub_nil _)))))) (.refl _) ?_
  refine hl_nil ?_
  refine hq_then ?_
  refine hc_seq ?_
  refine hc_seq ?_
  refine hc_region ?_
  refine hl_v rfl rfl rfl (rv_field (k0 := 0) rfl (by kernel_rfl) rfl) ?_
  refine hl_v rfl rfl rfl (rv_load rfl (by kernel_rfl) rfl (box_cell 1 rfl rfl)) ?_
  refine hl_v rfl rfl rfl (rv_field (k0 := 0) rfl (by kernel_rfl) rfl) ?_
  refine hl_v rfl rfl rfl (rv_load rfl (by kernel_rfl) rfl (box_cell 0 rfl rfl)) ?_
  refine hl_callV rfl rfl rfl (rq_call (by kernel_rfl) rfl (fun w hm => ret_ans (eqIntS_ans a.mx b.mx _ _ w ((rd_old ha.mx) w hm) ((rd_old hb.mx) w hm) (by omega)))) ?_
  refine hl_bool (fun h3 => ?_) (fun h3 => ?_)
  ·
    have h3p := of_decide_eq_true h3
    refine hl_v rfl rfl rfl (rv_ev rfl) ?_
    refine hl_less (sub_cons (d := 0) rfl (sub_cons (d := 1) rfl (sub_cons (d := 2) rfl (sub_cons (d := 3) rfl (sub_cons (d := 4) rfl (sub_cons (d := 10) rfl (sub_nil _))))))) (.refl _) ?_
    refine hl_nil ?_
    refine hq_then ?_
    refine hc_false rfl ?_
    refine hc_skip ?_
    refine hq_then ?_
    refine hc_seq ?_
    refine hc_seq ?_
    refine hc_region ?_
    refine hl_v rfl rfl rfl (rv_field (k0 := 1) rfl (by kernel_rfl) rfl) ?_
    refine hl_v rfl rfl rfl (rv_load rfl (by kernel_rfl) rfl (box_cell 1 rfl rfl)) ?_
    refine hl_v rfl rfl rfl (rv_field (k0 := 1) rfl (by kernel_rfl) rfl) ?_
    refine hl_v rfl rfl rfl (rv_load rfl (by kernel_rfl) rfl (box_cell 0 rfl rfl)) ?_
    refine hl_callV rfl rfl rfl (rq_call (by kernel_rfl) rfl (fun w hm => ret_ans (eqLeConfigS_ans a.es b.es _ _ w (ha.lv.below hm.bel) (hb.lv.below hm.bel) (fun e he => (ha.es e he).below hm.bel) (fun e he => (hb.es e he).below hm.bel) ha.nes))) ?_
    refine hl_bool (fun h4 => ?_) (fun h4 => ?_)
    ·
      have h4p := of_decide_eq_true h4
      refine hl_v rfl rfl rfl (rv_ev rfl) ?_
      refine hl_less (sub_cons (d := 0) rfl (sub_cons (d := 1) rfl (sub_cons (d := 2) rfl (sub_cons (d := 3) rfl (sub_cons (d := 4) rfl (sub_cons (d := 10) rfl (sub_cons (d := 16) rfl (sub_nil _)))))))) (.refl _) ?_
      refine hl_nil ?_
      refine hq_then ?_
      refine hc_false rfl ?_
      refine hc_skip ?_
      refine hq_then ?_
      refine hc_seq ?_
      refine hc_seq ?_
      refine hc_region ?_
      refine hl_v rfl rfl rfl (rv_field (k0 := 2) rfl (by kernel_rfl) rfl) ?_
      refine hl_v rfl rfl rfl (rv_load rfl (by kernel_rfl) rfl (box_cell 1 rfl rfl)) ?_
      refine hl_v rfl rfl rfl (rv_field (k0 := 2) rfl (by kernel_rfl) rfl) ?_
      refine hl_v rfl rfl rfl (rv_load rfl (by kernel_rfl) rfl (box_cell 0 rfl rfl)) ?_
      refine hl_neq rfl rfl rfl rfl rfl rfl (fun h5 => ?_) (fun h5 => ?_)
      ·
        refine hl_less (sub_cons (d := 0) rfl (sub_cons (d := 1) rfl (sub_cons (d := 2) rfl (sub_cons (d := 3) rfl (sub_cons (d := 4) rfl (sub_cons (d := 10) rfl (sub_cons (d := 16) rfl (sub_cons (d := 21) rfl (sub_nil _))))))))) (.refl _) ?_
        refine hl_nil ?_
        refine hq_then ?_
        refine hc_true rfl ?_
        refine hc_seq ?_
        refine hc_region ?_
        refine hl_v rfl rfl rfl (rv_ev rfl) ?_
        refine hl_less (sub_cons (d := 0) rfl (sub_cons (d := 1) rfl (sub_cons (d := 2) rfl (sub_cons (d := 3) rfl (sub_cons (d := 4) rfl (sub_cons (d := 10) rfl (sub_cons (d := 16) rfl (sub_cons (d := 21) rfl (sub_nil _))))))))) (.refl _) ?_
        refine hl_nil ?_
        refine hq_then ?_
        refine hc_ret ?_
        refine hq_then_ret ?_
        exact hq_ans rfl rfl (congrArg _ (decide_eq_false (by simp only [Tc.val, Prod.mk.injEq]; rintro ⟨q1, q2, q3, q4⟩; first | omega | contradiction)).symm)
      ·
        refine hl_less (sub_cons (d := 0) rfl (sub_cons (d := 1) rfl (sub_cons (d := 2) rfl (sub_cons (d := 3) rfl (sub_cons (d := 4) rfl (sub_cons (d := 10) rfl (sub_cons (d := 16) rfl (sub_cons (d := 21) rfl (sub_nil _))))))))) (.refl _) ?_
        refine hl_nil ?_
        refine hq_then ?_
        refine hc_false rfl ?_
        refine hc_skip ?_
        refine hq_then ?_
        refine hc_seq ?_
        refine hc_seq ?_
        refine hc_region ?_
        refine hl_v rfl rfl rfl (rv_field (k0 := 3) rfl (by kernel_rfl) rfl) ?_
        refine hl_v rfl rfl rfl (rv_load rfl (by kernel_rfl) rfl (box_cell 1 rfl rfl)) ?_
        refine hl_v rfl rfl rfl (rv_field (k0 := 3) rfl (by kernel_rfl) rfl) ?_
        refine hl_v rfl rfl rfl (rv_load rfl (by kernel_rfl) rfl (box_cell 0 rfl rfl)) ?_
        refine hl_neq rfl rfl rfl rfl rfl rfl (fun h6 => ?_) (fun h6 => ?_)
        ·
          refine hl_less (sub_cons (d := 0) rfl (sub_cons (d := 1) rfl (sub_cons (d := 2) rfl (sub_cons (d := 3) rfl (sub_cons (d := 4) rfl (sub_cons (d := 10) rfl (sub_cons (d := 16) rfl (sub_cons (d := 21) rfl (sub_cons (d := 26) rfl (sub_nil _)))))))))) (.refl _) ?_
          refine hl_nil ?_
          refine hq_then ?_
          refine hc_true rfl ?_
          refine hc_seq ?_
          refine hc_region ?_
          refine hl_v rfl rfl rfl (rv_ev rfl) ?_
          refine hl_less (sub_cons (d := 0) rfl (sub_cons (d := 1) rfl (sub_cons (d := 2) rfl (sub_cons (d := 3) rfl (sub_cons (d := 4) rfl (sub_cons (d := 10) rfl (sub_cons (d := 16) rfl (sub_cons (d := 21) rfl (sub_cons (d := 26) rfl (sub_nil _)))))))))) (.refl _) ?_
          refine hl_nil ?_
          refine hq_then ?_
          refine hc_ret ?_
          refine hq_then_ret ?_
          exact hq_ans rfl rfl (congrArg _ (decide_eq_false (by simp only [Tc.val, Prod.mk.injEq]; rintro ⟨q1, q2, q3, q4⟩; first | omega | contradiction)).symm)
        ·
          refine hl_less (sub_cons (d := 0) rfl (sub_cons (d := 1) rfl (sub_cons (d := 2) rfl (sub_cons (d := 3) rfl (sub_cons (d := 4) rfl (sub_cons (d := 10) rfl (sub_cons (d := 16) rfl (sub_cons (d := 21) rfl (sub_cons (d := 26) rfl (sub_nil _)))))))))) (.refl _) ?_
          refine hl_nil ?_
          refine hq_then ?_
          refine hc_false rfl ?_
          refine hc_skip ?_
          refine hq_then ?_
          refine hc_seq ?_
          refine hc_region ?_
          refine hl_v rfl rfl rfl (rv_ev rfl) ?_
          refine hl_less (sub_cons (d := 0) rfl (sub_cons (d := 1) rfl (sub_cons (d := 2) rfl (sub_cons (d := 3) rfl (sub_cons (d := 4) rfl (sub_cons (d := 10) rfl (sub_cons (d := 16) rfl (sub_cons (d := 21) rfl (sub_cons (d := 26) rfl (sub_nil _)))))))))) (.refl _) ?_
          refine hl_nil ?_
          refine hq_then ?_
          refine hc_ret ?_
          exact hq_ans rfl rfl (congrArg _ (decide_eq_true (by simp only [Tc.val, Prod.mk.injEq]; exact ⟨by assumption, by assumption, by omega, by omega⟩)).symm)
    ·
      have h4p := of_decide_eq_false h4
      refine hl_v rfl rfl rfl (rv_ev rfl) ?_
      refine hl_less (sub_cons (d := 0) rfl (sub_cons (d := 1) rfl (sub_cons (d := 2) rfl (sub_cons (d := 3) rfl (sub_cons (d := 4) rfl (sub_cons (d := 10) rfl (sub_cons (d := 16) rfl (sub_nil _)))))))) (.refl _) ?_
      refine hl_nil ?_
      refine hq_then ?_
      refine hc_true rfl ?_
      refine hc_seq ?_
      refine hc_region ?_
      refine hl_v rfl rfl rfl (rv_ev rfl) ?_
      refine hl_less (sub_cons (d := 0) rfl (sub_cons (d := 1) rfl (sub_cons (d := 2) rfl (sub_cons (d := 3) rfl (sub_cons (d := 4) rfl (sub_cons (d := 10) rfl (sub_cons (d := 16) rfl (sub_nil _)))))))) (.refl _) ?_
      refine hl_nil ?_
      refine hq_then ?_
      refine hc_ret ?_
      refine hq_then_ret ?_
      exact hq_ans rfl rfl (congrArg _ (decide_eq_false (by simp only [Tc.val, Prod.mk.injEq]; rintro ⟨q1, q2, q3, q4⟩; first | omega | contradiction)).symm)
  ·
    have h3p := of_decide_eq_false h3
    refine hl_v rfl rfl rfl (rv_ev rfl) ?_
    refine hl_less (sub_cons (d := 0) rfl (sub_cons (d := 1) rfl (sub_cons (d := 2) rfl (sub_cons (d := 3) rfl (sub_cons (d := 4) rfl (sub_cons (d := 10) rfl (sub_nil _))))))) (.refl _) ?_
    refine hl_nil ?_
    refine hq_then ?_
    refine hc_true rfl ?_
    refine hc_seq ?_
    refine hc_region ?_
    refine hl_v rfl rfl rfl (rv_ev rfl) ?_
    refine hl_less (sub_cons (d := 0) rfl (sub_cons (d := 1) rfl (sub_cons (d := 2) rfl (sub_cons (d := 3) rfl (sub_cons (d := 4) rfl (sub_cons (d := 10) rfl (sub_nil _))))))) (.refl _) ?_
    refine hl_nil ?_
    refine hq_then ?_
    refine hc_ret ?_
    refine hq_then_ret ?_
    exact hq_ans rfl rfl (congrArg _ (decide_eq_false (by simp only [Tc.val, Prod.mk.injEq]; rintro ⟨q1, q2, q3, q4⟩; first | omega | contradiction)).symm)
set_option maxHeartbeats 4000000 in
set_option maxRecDepth 100000 in
theorem markLeConfigS_mut (es : List Le) (k : Int) (lv : Value) (w0 : World) (l : List HP) (w : World) (hm0 : Mem w0 (lesE lv es :: l) w) (hk : -100000000000000 ≤ k ∧ k ≤ 100000000000000) (hlen : es.length ≤ 2000000) (hes : ∀ e ∈ es, e.xs.length ≤ 2000000) :
    Calls Try.prog 83 #[lv, .int .i64 k] w (fun e_ w_ => ∃ v_ p_, e_ = .returned v_ ∧ (fun u_ p_ => u_ = .int .i64 (sumK k es) ∧ p_ = lesE lv (markEs k es)) v_ p_ ∧ Mem w0 (p_ :: l) w_) := by
  refine calls_hcM (N := 41) (args := [lv, .int .i64 k]) Try.func83 rfl rfl (l := (bigE (es.map lePart) :: rowE 87 4 lv es.length (es.flatMap Le.cells) :: l)) hm0.unbig ?_
  refine hc_less _ (sub_cons (d := 0) rfl (sub_cons (d := 1) rfl (sub_nil _))) (.refl _) ?_
  refine hc_seq ?_
  refine hc_region ?_
  refine hl_v rfl rfl rfl (rv_ev rfl) ?_
  refine hl_less (sub_cons (d := 0) rfl (sub_cons (d := 1) rfl (sub_cons (d := 4) rfl (sub_nil _)))) (.refl _) ?_
  refine hl_nil ?_
  refine hq_then ?_
  refine hc_seq ?_
  refine hc_seq ?_
  refine hc_region ?_
  refine hl_v rfl rfl rfl (rv_ev rfl) ?_
  refine hl_less (sub_cons (d := 0) rfl (sub_cons (d := 1) rfl (sub_cons (d := 4) rfl (sub_cons (d := 5) rfl (sub_nil _))))) (.refl _) ?_
  refine hl_nil ?_
  refine hq_then ?_
  refine hc_block ?_
  refine hc_loop3 (α := Nat) (β := Int) (γ := List Le) (fun j q zs => (bigE (zs.map lePart) :: rowE 87 4 lv zs.length (zs.flatMap Le.cells) :: l)) (fun j q zs => [(0, lv), (1, .int .i64 q), (4, .int .i64 0), (5, .int .i64 (j : Int))]) (fun j q zs => j ≤ es.length ∧ q = sumK k (es.take j) ∧ zs = markE k es j ∧ zs.length = es.length) (fun j q zs => es.length - j) 0 k es ⟨by omega, by simp [sumK], by simp [markE, markEs], rfl⟩ (sub_cons (d := 0) rfl (sub_cons (d := 1) rfl (sub_cons (d := 4) rfl (sub_cons (d := 5) rfl (sub_nil _))))) ((.cons_cons _ (.cons_cons _ (.refl _)))) ?_
  intro j q zs hi1
  obtain ⟨hj, hq, hz, hzl⟩ := hi1
  have hqb := sumK_le (es.take j) k (fun e he => hes e (List.mem_of_mem_take he))
  rw [← hq, List.length_take] at hqb
  refine hc_seq ?_
  refine hc_seq ?_
  refine hc_region ?_
  refine hl_v rfl rfl rfl (rv_ev rfl) ?_
  refine hl_v rfl rfl rfl (rv_ev rfl) ?_
  refine hl_v rfl rfl rfl (rv_len rfl Try.underlying37 rfl (rd_row 1 rfl)) ?_
  refine hl_lss rfl rfl rfl rfl rfl rfl (fun h2 => ?_) (fun h2 => ?_)
  ·
    refine hl_less (sub_cons (d := 0) rfl (sub_cons (d := 1) rfl (sub_cons (d := 4) rfl (sub_cons (d := 5) rfl (sub_cons (d := 9) rfl (sub_nil _)))))) (.refl _) ?_
    refine hl_nil ?_
    refine hq_then ?_
    refine hc_true rfl ?_
    refine hc_skip ?_
    refine hq_then ?_
    refine hc_seq ?_
    refine hc_block ?_
    refine hc_seq ?_
    refine hc_region ?_
    refine hl_v rfl rfl rfl (rv_ev rfl) ?_
    refine hl_v rfl rfl rfl (rv_ev rfl) ?_
    refine hl_v rfl rfl rfl (rv_index (s := 4) rfl Try.underlying37 (by kernel_rfl) rfl rfl (rd_row 1 rfl) (by omega) (by first | omega | (simp only [List.length_set]; omega))) ?_
    refine hl_v rfl rfl rfl (rv_fieldEl (k0 := 0) rfl (by kernel_rfl) rfl (rd_row 1 rfl) (by first | omega | (simp only [List.length_set]; omega))) ?_
    refine hl_v rfl rfl rfl (rv_loadEl (u := (zs.getD j Le0).v) rfl (by kernel_rfl) rfl (rd_row 1 rfl) ((flat_at Le.cells 4 (fun _ => rfl) zs Le0 (show j < _ by first | omega | (simp only [List.length_set]; omega)) (by decide)).trans rfl)) ?_
    refine hl_v rfl rfl rfl (rv_ev rfl) ?_
    have hzat : zs.getD j Le0 = es.getD j Le0 := by rw [hz]; exact markE_at k es j (by omega)
    have hxl := hes _ (getD_mem' (es := es) (i := j) (d := Le0) (by omega))
    rw [← hzat] at hxl
    refine hl_conv (rowE 3 1 ((zs.getD j Le0).v) ((zs.getD j Le0).xs.length) ((zs.getD j Le0).xs.map (Value.int .i64)) :: bigE ((zs.map lePart).eraseIdx j) :: rowE 87 4 lv zs.length (zs.flatMap Le.cells) :: l) (conv_focus (j := j) (by rw [List.getElem?_map, getD_at (d := Le0) (by omega)]; rfl)) ?_
    refine hl_callM (R := (fun u_ p_ => u_ = .int .i64 (q + ((zs.getD j Le0).xs).length) ∧ p_ = rowE 3 1 ((zs.getD j Le0).v) ((zs.getD j Le0).xs).length ((seqL q ((zs.getD j Le0).xs).length).map (Value.int .i64)))) 0 rfl rfl (by kernel_rfl) rfl rfl (fun l' w hm => markIntS_mut ((zs.getD j Le0).xs) q ((zs.getD j Le0).v) _ _ w hm (by omega) (by omega)) ?_
    intro v3 p4 hR5
    obtain ⟨rfl, rfl⟩ := hR5
    refine hl_eqL (l' := (rowE 3 1 ((zs.getD j Le0).v) (((zs.getD j Le0).xs).length) ((seqL q ((zs.getD j Le0).xs).length).map (Value.int .i64)) :: bigE ((zs.map lePart).eraseIdx j) :: rowE 87 4 lv zs.length (zs.flatMap Le.cells) :: l)) rfl ?_
    refine hl_v rfl rfl rfl (rv_ev rfl) ?_
    refine hl_less (sub_cons (d := 0) rfl (sub_cons (d := 1) rfl (sub_cons (d := 4) rfl (sub_cons (d := 5) rfl (sub_cons (d := 9) rfl (sub_nil _)))))) (.refl _) ?_
    refine hl_nil ?_
    refine hq_then ?_
    refine hc_seq ?_
    refine hc_region ?_
    refine hl_v rfl rfl rfl (rv_ev rfl) ?_
    refine hl_v rfl rfl rfl (rv_ev rfl) ?_
    refine hl_v rfl rfl rfl (rv_ev rfl) ?_
    refine hl_v rfl rfl rfl (rv_index (s := 4) rfl Try.underlying37 (by kernel_rfl) rfl rfl (rd_row 2 rfl) (by omega) (by first | omega | (simp only [List.length_set]; omega))) ?_
    refine hl_v rfl rfl rfl (rv_fieldEl (k0 := 1) rfl (by kernel_rfl) rfl (rd_row 2 rfl) (by first | omega | (simp only [List.length_set]; omega))) ?_
    refine hl_storeEl (i := 2) (n' := (zs.set j { zs.getD j Le0 with m := q + ((zs.getD j Le0).xs).length }).length) (xs' := ((zs.set j { zs.getD j Le0 with m := q + ((zs.getD j Le0).xs).length }).flatMap Le.cells)) (l' := (rowE 3 1 ((zs.getD j Le0).v) (((zs.getD j Le0).xs).length) ((seqL q ((zs.getD j Le0).xs).length).map (Value.int .i64)) :: bigE ((zs.map lePart).eraseIdx j) :: rowE 87 4 lv ((zs.set j { zs.getD j Le0 with m := q + ((zs.getD j Le0).xs).length }).length) ((zs.set j { zs.getD j Le0 with m := q + ((zs.getD j Le0).xs).length }).flatMap Le.cells) :: l)) rfl rfl rfl (by kernel_rfl) rfl rfl rfl rfl (by first | omega | (simp only [List.length_set]; omega)) List.length_set.symm (flat_set Le.cells 4 (fun _ => rfl) _ Le0 _ (by first | omega | (simp only [List.length_set]; omega)) (by decide) rfl) rfl ?_
    refine hl_less (sub_cons (d := 0) rfl (sub_cons (d := 1) rfl (sub_cons (d := 4) rfl (sub_cons (d := 5) rfl (sub_cons (d := 9) rfl (sub_nil _)))))) (.refl _) ?_
    refine hl_nil ?_
    refine hq_then ?_
    refine hc_seq ?_
    refine hc_region ?_
    refine hl_v rfl rfl rfl (rv_ev rfl) ?_
    refine hl_v rfl rfl rfl (rv_add rfl rfl rfl (by constructor <;> omega)) ?_
    refine hl_v rfl rfl rfl (rv_ev rfl) ?_
    refine hl_less (sub_cons (d := 0) rfl (sub_cons (d := 1) rfl (sub_cons (d := 4) rfl (sub_cons (d := 5) rfl (sub_cons (d := 9) rfl (sub_nil _)))))) (.refl _) ?_
    refine hl_nil ?_
    refine hq_then ?_
    refine hc_seq ?_
    refine hc_region ?_
    refine hl_v rfl rfl rfl (rv_ev rfl) ?_
    refine hl_v rfl rfl rfl (rv_ev rfl) ?_
    refine hl_v rfl rfl rfl (rv_ev rfl) ?_
    refine hl_v rfl rfl rfl (rv_index (s := 4) rfl Try.underlying37 (by kernel_rfl) rfl rfl (rd_row 2 rfl) (by omega) (by first | omega | (simp only [List.length_set]; omega))) ?_
    refine hl_v rfl rfl rfl (rv_fieldEl (k0 := 2) rfl (by kernel_rfl) rfl (rd_row 2 rfl) (by first | omega | (simp only [List.length_set]; omega))) ?_
    refine hl_storeEl (i := 2) (n' := ((zs.set j { zs.getD j Le0 with m := q + ((zs.getD j Le0).xs).length }).set j { (zs.set j { zs.getD j Le0 with m := q + ((zs.getD j Le0).xs).length }).getD j Le0 with f := (q + ((zs.getD j Le0).xs).length) + 1 }).length) (xs' := (((zs.set j { zs.getD j Le0 with m := q + ((zs.getD j Le0).xs).length }).set j { (zs.set j { zs.getD j Le0 with m := q + ((zs.getD j Le0).xs).length }).getD j Le0 with f := (q + ((zs.getD j Le0).xs).length) + 1 }).flatMap Le.cells)) (l' := (rowE 3 1 ((zs.getD j Le0).v) (((zs.getD j Le0).xs).length) ((seqL q ((zs.getD j Le0).xs).length).map (Value.int .i64)) :: bigE ((zs.map lePart).eraseIdx j) :: rowE 87 4 lv (((zs.set j { zs.getD j Le0 with m := q + ((zs.getD j Le0).xs).length }).set j { (zs.set j { zs.getD j Le0 with m := q + ((zs.getD j Le0).xs).length }).getD j Le0 with f := (q + ((zs.getD j Le0).xs).length) + 1 }).length) (((zs.set j { zs.getD j Le0 with m := q + ((zs.getD j Le0).xs).length }).set j { (zs.set j { zs.getD j Le0 with m := q + ((zs.getD j Le0).xs).length }).getD j Le0 with f := (q + ((zs.getD j Le0).xs).length) + 1 }).flatMap Le.cells) :: l)) rfl rfl rfl (by kernel_rfl) rfl rfl rfl rfl (by first | omega | (simp only [List.length_set]; omega)) List.length_set.symm (flat_set Le.cells 4 (fun _ => rfl) _ Le0 _ (by first | omega | (simp only [List.length_set]; omega)) (by decide) rfl) rfl ?_
    refine hl_less (sub_cons (d := 0) rfl (sub_cons (d := 1) rfl (sub_cons (d := 4) rfl (sub_cons (d := 5) rfl (sub_cons (d := 9) rfl (sub_nil _)))))) (.refl _) ?_
    refine hl_nil ?_
    refine hq_then ?_
    refine hc_seq ?_
    refine hc_region ?_
    refine hl_v rfl rfl rfl (rv_ev rfl) ?_
    refine hl_v rfl rfl rfl (rv_add rfl rfl rfl (by constructor <;> omega)) ?_
    refine hl_v rfl rfl rfl (rv_ev rfl) ?_
    refine hl_less (sub_cons (d := 0) rfl (sub_cons (d := 1) rfl (sub_cons (d := 4) rfl (sub_cons (d := 5) rfl (sub_cons (d := 9) rfl (sub_nil _)))))) (.refl _) ?_
    refine hl_nil ?_
    refine hq_then ?_
    refine hc_seq ?_
    refine hc_region ?_
    refine hl_v rfl rfl rfl (rv_ev rfl) ?_
    refine hl_v rfl rfl rfl (rv_ev rfl) ?_
    refine hl_v rfl rfl rfl (rv_ev rfl) ?_
    refine hl_v rfl rfl rfl (rv_index (s := 4) rfl Try.underlying37 (by kernel_rfl) rfl rfl (rd_row 2 rfl) (by omega) (by first | omega | (simp only [List.length_set]; omega))) ?_
    refine hl_v rfl rfl rfl (rv_fieldEl (k0 := 3) rfl (by kernel_rfl) rfl (rd_row 2 rfl) (by first | omega | (simp only [List.length_set]; omega))) ?_
    refine hl_storeEl (i := 2) (n' := (((zs.set j { zs.getD j Le0 with m := q + ((zs.getD j Le0).xs).length }).set j { (zs.set j { zs.getD j Le0 with m := q + ((zs.getD j Le0).xs).length }).getD j Le0 with f := (q + ((zs.getD j Le0).xs).length) + 1 }).set j { ((zs.set j { zs.getD j Le0 with m := q + ((zs.getD j Le0).xs).length }).set j { (zs.set j { zs.getD j Le0 with m := q + ((zs.getD j Le0).xs).length }).getD j Le0 with f := (q + ((zs.getD j Le0).xs).length) + 1 }).getD j Le0 with i := ((q + ((zs.getD j Le0).xs).length) + 1) + 1 }).length) (xs' := ((((zs.set j { zs.getD j Le0 with m := q + ((zs.getD j Le0).xs).length }).set j { (zs.set j { zs.getD j Le0 with m := q + ((zs.getD j Le0).xs).length }).getD j Le0 with f := (q + ((zs.getD j Le0).xs).length) + 1 }).set j { ((zs.set j { zs.getD j Le0 with m := q + ((zs.getD j Le0).xs).length }).set j { (zs.set j { zs.getD j Le0 with m := q + ((zs.getD j Le0).xs).length }).getD j Le0 with f := (q + ((zs.getD j Le0).xs).length) + 1 }).getD j Le0 with i := ((q + ((zs.getD j Le0).xs).length) + 1) + 1 }).flatMap Le.cells)) (l' := (rowE 3 1 ((zs.getD j Le0).v) (((zs.getD j Le0).xs).length) ((seqL q ((zs.getD j Le0).xs).length).map (Value.int .i64)) :: bigE ((zs.map lePart).eraseIdx j) :: rowE 87 4 lv ((((zs.set j { zs.getD j Le0 with m := q + ((zs.getD j Le0).xs).length }).set j { (zs.set j { zs.getD j Le0 with m := q + ((zs.getD j Le0).xs).length }).getD j Le0 with f := (q + ((zs.getD j Le0).xs).length) + 1 }).set j { ((zs.set j { zs.getD j Le0 with m := q + ((zs.getD j Le0).xs).length }).set j { (zs.set j { zs.getD j Le0 with m := q + ((zs.getD j Le0).xs).length }).getD j Le0 with f := (q + ((zs.getD j Le0).xs).length) + 1 }).getD j Le0 with i := ((q + ((zs.getD j Le0).xs).length) + 1) + 1 }).length) ((((zs.set j { zs.getD j Le0 with m := q + ((zs.getD j Le0).xs).length }).set j { (zs.set j { zs.getD j Le0 with m := q + ((zs.getD j Le0).xs).length }).getD j Le0 with f := (q + ((zs.getD j Le0).xs).length) + 1 }).set j { ((zs.set j { zs.getD j Le0 with m := q + ((zs.getD j Le0).xs).length }).set j { (zs.set j { zs.getD j Le0 with m := q + ((zs.getD j Le0).xs).length }).getD j Le0 with f := (q + ((zs.getD j Le0).xs).length) + 1 }).getD j Le0 with i := ((q + ((zs.getD j Le0).xs).length) + 1) + 1 }).flatMap Le.cells) :: l)) rfl rfl rfl (by kernel_rfl) rfl rfl rfl rfl (by first | omega | (simp only [List.length_set]; omega)) List.length_set.symm (flat_set Le.cells 4 (fun _ => rfl) _ Le0 _ (by first | omega | (simp only [List.length_set]; omega)) (by decide) rfl) rfl ?_
    refine hl_less (sub_cons (d := 0) rfl (sub_cons (d := 1) rfl (sub_cons (d := 4) rfl (sub_cons (d := 5) rfl (sub_cons (d := 9) rfl (sub_nil _)))))) (.refl _) ?_
    refine hl_nil ?_
    refine hq_then ?_
    refine hc_region ?_
    refine hl_v rfl rfl rfl (rv_ev rfl) ?_
    refine hl_v rfl rfl rfl (rv_add rfl rfl rfl (by constructor <;> omega)) ?_
    refine hl_v rfl rfl rfl (rv_ev rfl) ?_
    refine hl_less (sub_cons (d := 0) rfl (sub_cons (d := 1) rfl (sub_cons (d := 4) rfl (sub_cons (d := 5) rfl (sub_cons (d := 9) rfl (sub_nil _)))))) (.refl _) ?_
    refine hl_nil ?_
    refine hq_block_normal ?_
    refine hq_then ?_
    refine hc_region ?_
    refine hl_v rfl rfl rfl (rv_ev rfl) ?_
    refine hl_v rfl rfl rfl (rv_add rfl rfl rfl (by constructor <;> omega)) ?_
    refine hl_v rfl rfl rfl (rv_ev rfl) ?_
    refine hl_less (sub_cons (d := 0) rfl (sub_cons (d := 1) rfl (sub_cons (d := 4) rfl (sub_cons (d := 5) rfl (sub_cons (d := 9) rfl (sub_nil _)))))) (.refl _) ?_
    refine hl_nil ?_
    have hs1 : ((zs.map lePart).set j (lePart (markLe q (zs.getD j Le0)))) = (zs.set j (markLe q (zs.getD j Le0))).map lePart := by rw [List.map_set]
    have hs2 : (((zs.set j { zs.getD j Le0 with m := q + ((zs.getD j Le0).xs).length }).set j { (zs.set j { zs.getD j Le0 with m := q + ((zs.getD j Le0).xs).length }).getD j Le0 with f := (q + ((zs.getD j Le0).xs).length) + 1 }).set j { ((zs.set j { zs.getD j Le0 with m := q + ((zs.getD j Le0).xs).length }).set j { (zs.set j { zs.getD j Le0 with m := q + ((zs.getD j Le0).xs).length }).getD j Le0 with f := (q + ((zs.getD j Le0).xs).length) + 1 }).getD j Le0 with i := ((q + ((zs.getD j Le0).xs).length) + 1) + 1 }).flatMap Le.cells = (zs.set j (markLe q (zs.getD j Le0))).flatMap Le.cells := by (try simp only [List.set_set]); exact set_flat _ _ _ _ _ (by simp [getD_set_self', show j < zs.length by omega, Le.cells, markLe]; omega)
    have hs3 : (((zs.set j { zs.getD j Le0 with m := q + ((zs.getD j Le0).xs).length }).set j { (zs.set j { zs.getD j Le0 with m := q + ((zs.getD j Le0).xs).length }).getD j Le0 with f := (q + ((zs.getD j Le0).xs).length) + 1 }).set j { ((zs.set j { zs.getD j Le0 with m := q + ((zs.getD j Le0).xs).length }).set j { (zs.set j { zs.getD j Le0 with m := q + ((zs.getD j Le0).xs).length }).getD j Le0 with f := (q + ((zs.getD j Le0).xs).length) + 1 }).getD j Le0 with i := ((q + ((zs.getD j Le0).xs).length) + 1) + 1 }).length = (zs.set j (markLe q (zs.getD j Le0))).length := by simp only [List.length_set]
    refine hq_conv (bigE ((zs.set j (markLe q (zs.getD j Le0))).map lePart) :: rowE 87 4 lv ((zs.set j (markLe q (zs.getD j Le0))).length) ((zs.set j (markLe q (zs.getD j Le0))).flatMap Le.cells) :: l) (fun w hm => by have hm2 := conv_unfocus (p' := lePart (markLe q (zs.getD j Le0))) (ps := zs.map lePart) (j := j) (by rw [List.length_map]; omega) w (by simpa only [lePart, markLe, seqL_len] using hm); rw [hs1, hs2, hs3] at hm2; exact hm2) ?_
    exact hq_round3 (j + 1) _ _ ⟨by omega, by rw [sumK_succ k es j (by omega), ← hq, ← hzat]; omega, by rw [← markE_succ k es j (by omega), ← hz, ← hq, hzat], by rw [List.length_set]; exact hzl⟩ (by omega) (sub_cons (d := 0) rfl (sub_cons (d := 1) rfl (sub_cons (d := 4) rfl (sub_cons (d := 5) rfl (sub_nil _))))) ((.cons_cons _ (.cons_cons _ (.refl _))))
  ·
    refine hl_less (sub_cons (d := 0) rfl (sub_cons (d := 1) rfl (sub_cons (d := 4) rfl (sub_cons (d := 5) rfl (sub_cons (d := 9) rfl (sub_nil _)))))) (.refl _) ?_
    refine hl_nil ?_
    refine hq_then ?_
    refine hc_false rfl ?_
    refine hc_exit ?_
    refine hq_then_exit ?_
    refine hq_then_exit ?_
    refine hq_block_exit ?_
    refine hq_then ?_
    refine hc_seq ?_
    refine hc_region ?_
    refine hl_v rfl rfl rfl (rv_ev rfl) ?_
    refine hl_v rfl rfl rfl (rv_ev rfl) ?_
    refine hl_less (sub_cons (d := 0) rfl (sub_cons (d := 1) rfl (sub_cons (d := 4) rfl (sub_cons (d := 5) rfl (sub_cons (d := 9) rfl (sub_nil _)))))) (.refl _) ?_
    refine hl_nil ?_
    refine hq_then ?_
    refine hc_ret ?_
    have hjx : j = es.length := by omega
    refine hq_conv (lesE lv zs :: l) (conv_big (ps := [bigE (zs.map lePart), rowE 87 4 lv zs.length (zs.flatMap Le.cells)])) ?_
    exact hq_retMut (p' := lesE lv zs) rfl rfl (.refl _) ⟨by rw [hq, hjx, List.take_length], by rw [hz, hjx, markE_all]⟩
end Go.Proofs.Ytnnkbpcfjjijbaa
