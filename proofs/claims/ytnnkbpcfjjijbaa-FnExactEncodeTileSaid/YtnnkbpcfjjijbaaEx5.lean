/- Configurations of tiles: opened, measured, copied. -/
import Derived.Test.YtnnkbpcfjjijbaaEx3
import Derived.Test.YtnnkbpcfjjijbaaLog8
import Derived.Test.YtnnkbpcfjjijbaaOpen
set_option linter.unusedVariables false
set_option linter.unusedSimpArgs false
namespace Go.Proofs.Ytnnkbpcfjjijbaa
open Go.RowKit

structure Tc.RdU (w : World) (t : Tc) : Prop where
  mx : RdsW w t.mv 1 t.mx.length (t.mx.map (Value.int .i64))
  lv : RdsW w t.lv 4 t.es.length (t.es.flatMap Le.cells)
  es : ∀ e ∈ t.es, RdsW w e.v 1 e.xs.length (e.xs.map (Value.int .i64))
def TcArg (w : World) (v : Value) (t : Tc) : Prop := v = t.agg ∧ t.RdU w
theorem tcCells : Try.prog.cellsOf 50 = 4 := by kernel_rfl
theorem leCells : Try.prog.cellsOf 125 = 4 := by kernel_rfl
theorem inCells : Try.prog.cellsOf 3 = 1 := by kernel_rfl
section
variable {H : Type} {enc : TypeId × Value → H} {w : World} {base : Nat} {spare : Nat → Bool} {held : Bool}
set_option maxRecDepth 100000 in
theorem open_le {n : Nat} {cs : List Value} {y : DataW H × List MemPlace} (hl : cs.length = 4) (h : DataW.trod enc Try.prog w base spare held n 125 cs = some y) :
    ∃ e : Le, cs = e.cells ∧ RdsW w e.v 1 e.xs.length (e.xs.map (Value.int .i64)) := by
  obtain ⟨y0, y1, y2, y3, m, -, -, h0, h1, h2, h3⟩ := Go.Joins.trod_struct4 Try.underlying125 h
  match cs, hl with
  | [c0, c1, c2, c3], _ =>
    obtain ⟨xs, hx, -⟩ := open_ints (v := c0) Try.underlying30 Try.underlying3 inCells h0
    obtain ⟨k1, e1, -, -⟩ := DataW.trod_int (cs := [c1]) Try.underlying3 h1
    obtain ⟨k2, e2, -, -⟩ := DataW.trod_int (cs := [c2]) Try.underlying3 h2
    obtain ⟨k3, e3, -, -⟩ := DataW.trod_int (cs := [c3]) Try.underlying3 h3
    simp only [List.cons.injEq, and_true] at e1 e2 e3
    subst e1 e2 e3
    exact ⟨⟨c0, xs, k1, k2, k3⟩, rfl, hx⟩
set_option maxRecDepth 100000 in
theorem open_tc {r : Reach} {b0 : Nat} {v : Value} {d : DataW H} {p : List MemPlace} (hv : Value.okWide Try.prog w r b0 50 v) (h : DataW.Trod enc Try.prog w base spare held 50 v d p) : ∃ t : Tc, TcArg w v t := by
  obtain ⟨v0, v1, v2, v3, y0, y1, y2, y3, n, rfl, -, -, h0, h1, h2, h3⟩ := Go.Joins.open_agg4 Try.underlying50 (by kernel_rfl) tcCells hv h
  obtain ⟨mx, hmx, -⟩ := open_ints Try.underlying30 Try.underlying3 inCells h0
  obtain ⟨es, hes, hq⟩ := open_rds Le.cells Le0 (q := fun e => RdsW w e.v 1 e.xs.length (e.xs.map (Value.int .i64))) Try.underlying48 leCells (by decide) (fun _ => rfl) h1 (fun n cs y hl hy => by
    obtain ⟨e, he, hr⟩ := open_le hl hy; exact ⟨e, he, hr⟩)
  obtain ⟨k2, e2, -, -⟩ := DataW.trod_int Try.underlying3 h2
  obtain ⟨k3, e3, -, -⟩ := DataW.trod_int Try.underlying3 h3
  simp only [List.cons.injEq, and_true] at e2 e3
  subst e2 e3
  exact ⟨⟨v0, mx, v1, es, k2, k3⟩, rfl, hmx, hes, hq⟩
end
set_option maxHeartbeats 4000000 in
set_option maxRecDepth 100000 in
theorem szIntS_ans (xs : List Int) (k : Int) (v : Value) (w : World) (hv : RdsW w v 1 xs.length (xs.map (Value.int .i64))) (hk : 0 ≤ k ∧ k ≤ 1048576) :
    Calls Try.prog 91 #[v, .int .i64 k] w (Ans w (.int .i64 (if k - (xs.length : Int) < 0 then -1 else k - (xs.length : Int)))) := by
  have hsm : xs.length ≤ 9223372036854775807 := by obtain ⟨_, _, _, _, h, _⟩ := hv; exact h.1
  refine calls_hc (N := 12) (args := [v, .int .i64 k]) Try.func91 rfl rfl ?_
  refine hc_less _ (sub_cons (d := 0) rfl (sub_cons (d := 1) rfl (sub_nil _))) (.refl _) ?_
  refine hc_seq ?_
  refine hc_region ?_
  refine hl_v rfl rfl rfl (rv_ev rfl) ?_
  refine hl_less (sub_cons (d := 0) rfl (sub_cons (d := 1) rfl (sub_cons (d := 4) rfl (sub_nil _)))) (.refl _) ?_
  refine hl_nil ?_
  refine hq_then ?_
  refine hc_seq ?_
  refine hc_region ?_
  refine hl_v rfl rfl rfl (rv_ev rfl) ?_
  refine hl_v rfl rfl rfl (rv_ev rfl) ?_
  refine hl_v rfl rfl rfl (rv_len rfl Try.underlying30 rfl (rd_old hv)) ?_
  refine hl_v rfl rfl rfl (rv_sub rfl rfl rfl (by constructor <;> omega)) ?_
  refine hl_v rfl rfl rfl (rv_ev rfl) ?_
  refine hl_less (sub_cons (d := 0) rfl (sub_cons (d := 1) rfl (sub_cons (d := 4) rfl (sub_nil _)))) (.refl _) ?_
  refine hl_nil ?_
  refine hq_then ?_
  refine hc_seq ?_
  refine hc_seq ?_
  refine hc_region ?_
  refine hl_v rfl rfl rfl (rv_ev rfl) ?_
  refine hl_lss rfl rfl rfl rfl rfl rfl (fun h1 => ?_) (fun h1 => ?_)
  ·
    refine hl_less (sub_cons (d := 0) rfl (sub_cons (d := 1) rfl (sub_cons (d := 4) rfl (sub_cons (d := 10) rfl (sub_nil _))))) (.refl _) ?_
    refine hl_nil ?_
    refine hq_then ?_
    refine hc_true rfl ?_
    refine hc_seq ?_
    refine hc_region ?_
    refine hl_v rfl rfl rfl (rv_ev rfl) ?_
    refine hl_less (sub_cons (d := 0) rfl (sub_cons (d := 1) rfl (sub_cons (d := 4) rfl (sub_cons (d := 10) rfl (sub_nil _))))) (.refl _) ?_
    refine hl_nil ?_
    refine hq_then ?_
    refine hc_ret ?_
    refine hq_then_ret ?_
    exact hq_ans rfl rfl (by first | rw [if_pos (by omega)] | rw [if_neg (by omega)])
  ·
    refine hl_less (sub_cons (d := 0) rfl (sub_cons (d := 1) rfl (sub_cons (d := 4) rfl (sub_cons (d := 10) rfl (sub_nil _))))) (.refl _) ?_
    refine hl_nil ?_
    refine hq_then ?_
    refine hc_false rfl ?_
    refine hc_skip ?_
    refine hq_then ?_
    refine hc_seq ?_
    refine hc_region ?_
    refine hl_v rfl rfl rfl (rv_ev rfl) ?_
    refine hl_v rfl rfl rfl (rv_ev rfl) ?_
    refine hl_less (sub_cons (d := 0) rfl (sub_cons (d := 1) rfl (sub_cons (d := 4) rfl (sub_cons (d := 10) rfl (sub_nil _))))) (.refl _) ?_
    refine hl_nil ?_
    refine hq_then ?_
    refine hc_ret ?_
    exact hq_ans rfl rfl (by first | rw [if_pos (by omega)] | rw [if_neg (by omega)])
set_option maxHeartbeats 4000000 in
set_option maxRecDepth 100000 in
theorem szLeConfig_ans (a : Le) (k : Int) (w : World) (hv : RdsW w a.v 1 a.xs.length (a.xs.map (Value.int .i64))) (hk : 0 ≤ k ∧ k ≤ 1048576) :
    Calls Try.prog 129 #[.agg #[a.v, .int .i64 a.m, .int .i64 a.f, .int .i64 a.i], .int .i64 k] w (Ans w (.int .i64 (if k - (a.xs.length : Int) < 0 then -1 else k - (a.xs.length : Int)))) := by
  refine calls_hc (N := 12) (args := [.agg #[a.v, .int .i64 a.m, .int .i64 a.f, .int .i64 a.i], .int .i64 k]) Try.func129 rfl rfl ?_
  refine hc_less _ (sub_cons (d := 0) rfl (sub_cons (d := 1) rfl (sub_nil _))) (.refl _) ?_
  refine hc_seq ?_
  refine hc_region ?_
  refine hl_box rfl rfl rfl (rq_box rfl rfl) ?_
  intro b1
  refine hl_v rfl rfl rfl (rv_ev rfl) ?_
  refine hl_less (sub_cons (d := 0) rfl (sub_cons (d := 1) rfl (sub_cons (d := 2) rfl (sub_cons (d := 4) rfl (sub_nil _))))) (.refl _) ?_
  refine hl_nil ?_
  refine hq_then ?_
  refine hc_seq ?_
  refine hc_region ?_
  refine hl_v rfl rfl rfl (rv_field (k0 := 0) rfl (by kernel_rfl) rfl) ?_
  refine hl_v rfl rfl rfl (rv_load rfl (by kernel_rfl) rfl (box_cell 0 rfl rfl)) ?_
  refine hl_v rfl rfl rfl (rv_ev rfl) ?_
  refine hl_callV rfl rfl rfl (rq_call (by kernel_rfl) rfl (fun w hm => ret_ans (szIntS_ans a.xs k _ w ((rd_old hv) w hm) (by omega)))) ?_
  refine hl_v rfl rfl rfl (rv_ev rfl) ?_
  refine hl_less (sub_cons (d := 0) rfl (sub_cons (d := 1) rfl (sub_cons (d := 2) rfl (sub_cons (d := 4) rfl (sub_nil _))))) (.refl _) ?_
  refine hl_nil ?_
  refine hq_then ?_
  refine hc_seq ?_
  refine hc_seq ?_
  refine hc_region ?_
  refine hl_v rfl rfl rfl (rv_ev rfl) ?_
  refine hl_lss rfl rfl rfl rfl rfl rfl (fun h2 => ?_) (fun h2 => ?_)
  ·
    refine hl_less (sub_cons (d := 0) rfl (sub_cons (d := 1) rfl (sub_cons (d := 2) rfl (sub_cons (d := 4) rfl (sub_cons (d := 10) rfl (sub_nil _)))))) (.refl _) ?_
    refine hl_nil ?_
    refine hq_then ?_
    refine hc_true rfl ?_
    refine hc_seq ?_
    refine hc_region ?_
    refine hl_v rfl rfl rfl (rv_ev rfl) ?_
    refine hl_less (sub_cons (d := 0) rfl (sub_cons (d := 1) rfl (sub_cons (d := 2) rfl (sub_cons (d := 4) rfl (sub_cons (d := 10) rfl (sub_nil _)))))) (.refl _) ?_
    refine hl_nil ?_
    refine hq_then ?_
    refine hc_ret ?_
    refine hq_then_ret ?_
    exact hq_ans rfl rfl (by first | rfl | omega | (congr 1; omega) | (split at * <;> first | rfl | omega))
  ·
    refine hl_less (sub_cons (d := 0) rfl (sub_cons (d := 1) rfl (sub_cons (d := 2) rfl (sub_cons (d := 4) rfl (sub_cons (d := 10) rfl (sub_nil _)))))) (.refl _) ?_
    refine hl_nil ?_
    refine hq_then ?_
    refine hc_false rfl ?_
    refine hc_skip ?_
    refine hq_then ?_
    refine hc_seq ?_
    refine hc_region ?_
    refine hl_v rfl rfl rfl (rv_ev rfl) ?_
    refine hl_v rfl rfl rfl (rv_ev rfl) ?_
    refine hl_less (sub_cons (d := 0) rfl (sub_cons (d := 1) rfl (sub_cons (d := 2) rfl (sub_cons (d := 4) rfl (sub_cons (d := 10) rfl (sub_nil _)))))) (.refl _) ?_
    refine hl_nil ?_
    refine hq_then ?_
    refine hc_ret ?_
    exact hq_ans rfl rfl (by first | rfl | omega | (congr 1; omega) | (split at * <;> first | rfl | omega))
set_option maxHeartbeats 4000000 in
set_option maxRecDepth 100000 in
theorem szLeConfigS_ret (es : List Le) (k : Int) (v : Value) (w : World) (hv : RdsW w v 4 es.length (es.flatMap Le.cells)) (hes : ∀ e ∈ es, RdsW w e.v 1 e.xs.length (e.xs.map (Value.int .i64))) (hk : 0 ≤ k ∧ k ≤ 1048576) :
    Calls Try.prog 92 #[v, .int .i64 k] w (Ret w (fun v post => post = [] ∧ ∃ r : Int, v = .int .i64 r ∧ r ≤ k ∧ (0 ≤ r → es.length ≤ 1048576 ∧ ∀ e ∈ es, e.xs.length ≤ 1048576))) := by
  have hsm : es.length ≤ 9223372036854775807 := by obtain ⟨_, _, _, _, h, _⟩ := hv; exact h.1
  refine calls_hc (N := 27) (args := [v, .int .i64 k]) Try.func92 rfl rfl ?_
  refine hc_less _ (sub_cons (d := 0) rfl (sub_cons (d := 1) rfl (sub_nil _))) (.refl _) ?_
  refine hc_seq ?_
  refine hc_region ?_
  refine hl_v rfl rfl rfl (rv_ev rfl) ?_
  refine hl_less (sub_cons (d := 0) rfl (sub_cons (d := 1) rfl (sub_cons (d := 4) rfl (sub_nil _)))) (.refl _) ?_
  refine hl_nil ?_
  refine hq_then ?_
  refine hc_seq ?_
  refine hc_region ?_
  refine hl_v rfl rfl rfl (rv_ev rfl) ?_
  refine hl_v rfl rfl rfl (rv_ev rfl) ?_
  refine hl_v rfl rfl rfl (rv_len rfl Try.underlying48 rfl (rd_old hv)) ?_
  refine hl_v rfl rfl rfl (rv_sub rfl rfl rfl (by constructor <;> omega)) ?_
  refine hl_v rfl rfl rfl (rv_ev rfl) ?_
  refine hl_less (sub_cons (d := 0) rfl (sub_cons (d := 1) rfl (sub_cons (d := 4) rfl (sub_nil _)))) (.refl _) ?_
  refine hl_nil ?_
  refine hq_then ?_
  refine hc_seq ?_
  refine hc_seq ?_
  refine hc_region ?_
  refine hl_v rfl rfl rfl (rv_ev rfl) ?_
  refine hl_lss rfl rfl rfl rfl rfl rfl (fun h1 => ?_) (fun h1 => ?_)
  ·
    refine hl_less (sub_cons (d := 0) rfl (sub_cons (d := 1) rfl (sub_cons (d := 4) rfl (sub_cons (d := 11) rfl (sub_nil _))))) (.refl _) ?_
    refine hl_nil ?_
    refine hq_then ?_
    refine hc_true rfl ?_
    refine hc_seq ?_
    refine hc_region ?_
    refine hl_v rfl rfl rfl (rv_ev rfl) ?_
    refine hl_less (sub_cons (d := 0) rfl (sub_cons (d := 1) rfl (sub_cons (d := 4) rfl (sub_cons (d := 11) rfl (sub_nil _))))) (.refl _) ?_
    refine hl_nil ?_
    refine hq_then ?_
    refine hc_ret ?_
    refine hq_then_ret ?_
    exact hq_retR (post := []) rfl rfl (List.nil_sublist _) ⟨rfl, _, rfl, by omega, fun h => by first | omega | exact ⟨by omega, fun e he => by obtain ⟨i, hi, rfl⟩ := List.mem_iff_getElem.1 he; have := hq2 i (by omega); rw [List.getD_eq_getElem?_getD, List.getElem?_eq_getElem hi] at this; exact this⟩⟩
  ·
    refine hl_less (sub_cons (d := 0) rfl (sub_cons (d := 1) rfl (sub_cons (d := 4) rfl (sub_cons (d := 11) rfl (sub_nil _))))) (.refl _) ?_
    refine hl_nil ?_
    refine hq_then ?_
    refine hc_false rfl ?_
    refine hc_skip ?_
    refine hq_then ?_
    refine hc_seq ?_
    refine hc_seq ?_
    refine hc_region ?_
    refine hl_v rfl rfl rfl (rv_ev rfl) ?_
    refine hl_less (sub_cons (d := 0) rfl (sub_cons (d := 1) rfl (sub_cons (d := 4) rfl (sub_cons (d := 5) rfl (sub_cons (d := 11) rfl (sub_nil _)))))) (.refl _) ?_
    refine hl_nil ?_
    refine hq_then ?_
    refine hc_block ?_
    refine hc_loop2 (α := Nat) (β := Int) (fun j q => []) (fun j q => [(0, v), (1, .int .i64 q), (4, .int .i64 0), (5, .int .i64 (j : Int)), (11, .bool false)]) (fun j q => j ≤ es.length ∧ 0 ≤ q ∧ q ≤ k ∧ es.length ≤ 1048576 ∧ ∀ i, i < j → (es.getD i Le0).xs.length ≤ 1048576) (fun j q => es.length - j) 0 _ ⟨by omega, by omega, by omega, by omega, fun i hi => absurd hi (by omega)⟩ (sub_cons (d := 0) rfl (sub_cons (d := 1) rfl (sub_cons (d := 4) rfl (sub_cons (d := 5) rfl (sub_cons (d := 11) rfl (sub_nil _)))))) (.slnil) ?_
    intro j q hi2
    obtain ⟨hj, hq0, hq1, hnl, hq2⟩ := hi2
    refine hc_seq ?_
    refine hc_seq ?_
    refine hc_region ?_
    refine hl_v rfl rfl rfl (rv_ev rfl) ?_
    refine hl_v rfl rfl rfl (rv_ev rfl) ?_
    refine hl_v rfl rfl rfl (rv_len rfl Try.underlying48 rfl (rd_old hv)) ?_
    refine hl_lss rfl rfl rfl rfl rfl rfl (fun h3 => ?_) (fun h3 => ?_)
    ·
      refine hl_less (sub_cons (d := 0) rfl (sub_cons (d := 1) rfl (sub_cons (d := 4) rfl (sub_cons (d := 5) rfl (sub_cons (d := 11) rfl (sub_cons (d := 15) rfl (sub_nil _))))))) (.refl _) ?_
      refine hl_nil ?_
      refine hq_then ?_
      refine hc_true rfl ?_
      refine hc_skip ?_
      refine hq_then ?_
      refine hc_seq ?_
      refine hc_block ?_
      refine hc_seq ?_
      refine hc_region ?_
      refine hl_v rfl rfl rfl (rv_ev rfl) ?_
      refine hl_v rfl rfl rfl (rv_ev rfl) ?_
      refine hl_v rfl rfl rfl (rv_index (s := 4) rfl Try.underlying48 (by kernel_rfl) rfl rfl (rd_old hv) (by omega) (by first | omega | (simp only [List.length_set]; omega))) ?_
      refine hl_v rfl rfl rfl (rv_loadElN (us := [(es.getD j Le0).v, .int .i64 ((es.getD j Le0).m), .int .i64 ((es.getD j Le0).f), .int .i64 ((es.getD j Le0).i)]) rfl (by kernel_rfl) (by kernel_rfl) rfl (rd_old hv) (by omega) rfl (flat_atN Le.cells 4 (fun _ => rfl) es Le0 (show j < _ by first | omega | (simp only [List.length_set]; omega)) rfl)) ?_
      refine hl_v rfl rfl rfl (rv_ev rfl) ?_
      refine hl_callV rfl rfl rfl (rq_call (by kernel_rfl) rfl (fun w hm => ret_ans (szLeConfig_ans (es.getD j Le0) q w ((hes _ (getD_mem' (by omega))).below hm.bel) (by omega)))) ?_
      refine hl_v rfl rfl rfl (rv_ev rfl) ?_
      refine hl_less (sub_cons (d := 0) rfl (sub_cons (d := 1) rfl (sub_cons (d := 4) rfl (sub_cons (d := 5) rfl (sub_cons (d := 11) rfl (sub_cons (d := 15) rfl (sub_nil _))))))) (.refl _) ?_
      refine hl_nil ?_
      refine hq_then ?_
      refine hc_seq ?_
      refine hc_region ?_
      refine hl_v rfl rfl rfl (rv_ev rfl) ?_
      refine hl_lss rfl rfl rfl rfl rfl rfl (fun h4 => ?_) (fun h4 => ?_)
      ·
        refine hl_less (sub_cons (d := 0) rfl (sub_cons (d := 1) rfl (sub_cons (d := 4) rfl (sub_cons (d := 5) rfl (sub_cons (d := 11) rfl (sub_cons (d := 15) rfl (sub_cons (d := 25) rfl (sub_nil _)))))))) (.refl _) ?_
        refine hl_nil ?_
        refine hq_then ?_
        refine hc_true rfl ?_
        refine hc_seq ?_
        refine hc_region ?_
        refine hl_v rfl rfl rfl (rv_ev rfl) ?_
        refine hl_less (sub_cons (d := 0) rfl (sub_cons (d := 1) rfl (sub_cons (d := 4) rfl (sub_cons (d := 5) rfl (sub_cons (d := 11) rfl (sub_cons (d := 15) rfl (sub_cons (d := 25) rfl (sub_nil _)))))))) (.refl _) ?_
        refine hl_nil ?_
        refine hq_then ?_
        refine hc_ret ?_
        refine hq_block_ret ?_
        refine hq_then_ret ?_
        refine hq_then_ret ?_
        refine hq_block_ret ?_
        refine hq_then_ret ?_
        exact hq_retR (post := []) rfl rfl (List.nil_sublist _) ⟨rfl, _, rfl, by omega, fun h => by first | omega | exact ⟨by omega, fun e he => by obtain ⟨i, hi, rfl⟩ := List.mem_iff_getElem.1 he; have := hq2 i (by omega); rw [List.getD_eq_getElem?_getD, List.getElem?_eq_getElem hi] at this; exact this⟩⟩
      ·
        refine hl_less (sub_cons (d := 0) rfl (sub_cons (d := 1) rfl (sub_cons (d := 4) rfl (sub_cons (d := 5) rfl (sub_cons (d := 11) rfl (sub_cons (d := 15) rfl (sub_cons (d := 25) rfl (sub_nil _)))))))) (.refl _) ?_
        refine hl_nil ?_
        refine hq_then ?_
        refine hc_false rfl ?_
        refine hc_skip ?_
        refine hq_block_normal ?_
        refine hq_then ?_
        refine hc_region ?_
        refine hl_v rfl rfl rfl (rv_ev rfl) ?_
        refine hl_v rfl rfl rfl (rv_add rfl rfl rfl (by constructor <;> omega)) ?_
        refine hl_v rfl rfl rfl (rv_ev rfl) ?_
        refine hl_less (sub_cons (d := 0) rfl (sub_cons (d := 1) rfl (sub_cons (d := 4) rfl (sub_cons (d := 5) rfl (sub_cons (d := 11) rfl (sub_cons (d := 15) rfl (sub_cons (d := 25) rfl (sub_nil _)))))))) (.refl _) ?_
        refine hl_nil ?_
        exact hq_round2 (j + 1) _ ⟨by omega, by omega, by (try split at *) <;> omega, hnl, fun i hi => by by_cases hij : i = j; (subst hij; (try split at *) <;> omega); exact hq2 i (by omega)⟩ (by omega) (sub_cons (d := 0) rfl (sub_cons (d := 1) rfl (sub_cons (d := 4) rfl (sub_cons (d := 5) rfl (sub_cons (d := 11) rfl (sub_nil _)))))) (.slnil)
    ·
      refine hl_less (sub_cons (d := 0) rfl (sub_cons (d := 1) rfl (sub_cons (d := 4) rfl (sub_cons (d := 5) rfl (sub_cons (d := 11) rfl (sub_cons (d := 15) rfl (sub_nil _))))))) (.refl _) ?_
      refine hl_nil ?_
      refine hq_then ?_
      refine hc_false rfl ?_
      refine hc_exit ?_
      refine hq_then_exit ?_
      refine hq_then_exit ?_
      refine hq_block_exit ?_
      refine hq_then ?_
      refine hc_seq ?_
      refine hc_region ?_
      refine hl_v rfl rfl rfl (rv_ev rfl) ?_
      refine hl_v rfl rfl rfl (rv_ev rfl) ?_
      refine hl_less (sub_cons (d := 0) rfl (sub_cons (d := 1) rfl (sub_cons (d := 4) rfl (sub_cons (d := 5) rfl (sub_cons (d := 11) rfl (sub_cons (d := 15) rfl (sub_nil _))))))) (.refl _) ?_
      refine hl_nil ?_
      refine hq_then ?_
      refine hc_ret ?_
      exact hq_retR (post := []) rfl rfl (List.nil_sublist _) ⟨rfl, _, rfl, by omega, fun h => by first | omega | exact ⟨by omega, fun e he => by obtain ⟨i, hi, rfl⟩ := List.mem_iff_getElem.1 he; have := hq2 i (by omega); rw [List.getD_eq_getElem?_getD, List.getElem?_eq_getElem hi] at this; exact this⟩⟩
set_option maxHeartbeats 4000000 in
set_option maxRecDepth 100000 in
theorem szTileConfig_ret (t : Tc) (k : Int) (w : World) (ht : t.RdU w) (hk : 0 ≤ k ∧ k ≤ 1048576) :
    Calls Try.prog 37 #[.agg #[t.mv, t.lv, .int .i64 t.pad, .int .i64 t.ram], .int .i64 k] w (Ret w (fun v post => post = [] ∧ ∃ r : Int, v = .int .i64 r ∧ r ≤ k ∧ (0 ≤ r → t.mx.length ≤ 1048576 ∧ t.es.length ≤ 1048576 ∧ ∀ e ∈ t.es, e.xs.length ≤ 1048576))) := by
  refine calls_hc (N := 18) (args := [.agg #[t.mv, t.lv, .int .i64 t.pad, .int .i64 t.ram], .int .i64 k]) Try.func37 rfl rfl ?_
  refine hc_less _ (sub_cons (d := 0) rfl (sub_cons (d := 1) rfl (sub_nil _))) (.refl _) ?_
  refine hc_seq ?_
  refine hc_region ?_
  refine hl_box rfl rfl rfl (rq_box rfl rfl) ?_
  intro b1
  refine hl_v rfl rfl rfl (rv_ev rfl) ?_
  refine hl_less (sub_cons (d := 0) rfl (sub_cons (d := 1) rfl (sub_cons (d := 2) rfl (sub_cons (d := 4) rfl (sub_nil _))))) (.refl _) ?_
  refine hl_nil ?_
  refine hq_then ?_
  refine hc_seq ?_
  refine hc_region ?_
  refine hl_v rfl rfl rfl (rv_field (k0 := 0) rfl (by kernel_rfl) rfl) ?_
  refine hl_v rfl rfl rfl (rv_load rfl (by kernel_rfl) rfl (box_cell 0 rfl rfl)) ?_
  refine hl_v rfl rfl rfl (rv_ev rfl) ?_
  refine hl_callV rfl rfl rfl (rq_call (by kernel_rfl) rfl (fun w hm => ret_ans (szIntS_ans t.mx k _ w ((rd_old ht.mx) w hm) (by omega)))) ?_
  refine hl_v rfl rfl rfl (rv_ev rfl) ?_
  refine hl_less (sub_cons (d := 0) rfl (sub_cons (d := 1) rfl (sub_cons (d := 2) rfl (sub_cons (d := 4) rfl (sub_nil _))))) (.refl _) ?_
  refine hl_nil ?_
  refine hq_then ?_
  refine hc_seq ?_
  refine hc_seq ?_
  refine hc_region ?_
  refine hl_v rfl rfl rfl (rv_ev rfl) ?_
  refine hl_lss rfl rfl rfl rfl rfl rfl (fun h2 => ?_) (fun h2 => ?_)
  ·
    refine hl_less (sub_cons (d := 0) rfl (sub_cons (d := 1) rfl (sub_cons (d := 2) rfl (sub_cons (d := 4) rfl (sub_cons (d := 10) rfl (sub_nil _)))))) (.refl _) ?_
    refine hl_nil ?_
    refine hq_then ?_
    refine hc_true rfl ?_
    refine hc_seq ?_
    refine hc_region ?_
    refine hl_v rfl rfl rfl (rv_ev rfl) ?_
    refine hl_less (sub_cons (d := 0) rfl (sub_cons (d := 1) rfl (sub_cons (d := 2) rfl (sub_cons (d := 4) rfl (sub_cons (d := 10) rfl (sub_nil _)))))) (.refl _) ?_
    refine hl_nil ?_
    refine hq_then ?_
    refine hc_ret ?_
    refine hq_then_ret ?_
    exact hq_retR (post := []) rfl rfl (List.nil_sublist _) ⟨rfl, _, rfl, by first | omega | (split at * <;> omega), fun h => by first | omega | exact ⟨by first | omega | (split at * <;> omega), hcc (by omega)⟩⟩
  ·
    refine hl_less (sub_cons (d := 0) rfl (sub_cons (d := 1) rfl (sub_cons (d := 2) rfl (sub_cons (d := 4) rfl (sub_cons (d := 10) rfl (sub_nil _)))))) (.refl _) ?_
    refine hl_nil ?_
    refine hq_then ?_
    refine hc_false rfl ?_
    refine hc_skip ?_
    refine hq_then ?_
    refine hc_seq ?_
    refine hc_region ?_
    refine hl_v rfl rfl rfl (rv_field (k0 := 1) rfl (by kernel_rfl) rfl) ?_
    refine hl_v rfl rfl rfl (rv_load rfl (by kernel_rfl) rfl (box_cell 0 rfl rfl)) ?_
    refine hl_v rfl rfl rfl (rv_ev rfl) ?_
    refine hl_q rfl rfl rfl (rq_call (by kernel_rfl) rfl (fun w hm => szLeConfigS_ret t.es (if k - (t.mx.length : Int) < 0 then -1 else k - (t.mx.length : Int)) _ w (ht.lv.below hm.bel) (fun e he => (ht.es e he).below hm.bel) (by (try split at *) <;> omega))) ?_
    intro v3 p4 hR5
    obtain ⟨rfl, rhR5, rfl, uhR5, hcc⟩ := hR5
    refine hl_v rfl rfl rfl (rv_ev rfl) ?_
    refine hl_less (sub_cons (d := 0) rfl (sub_cons (d := 1) rfl (sub_cons (d := 2) rfl (sub_cons (d := 4) rfl (sub_cons (d := 10) rfl (sub_nil _)))))) (.refl _) ?_
    refine hl_nil ?_
    refine hq_then ?_
    refine hc_seq ?_
    refine hc_seq ?_
    refine hc_region ?_
    refine hl_v rfl rfl rfl (rv_ev rfl) ?_
    refine hl_lss rfl rfl rfl rfl rfl rfl (fun h6 => ?_) (fun h6 => ?_)
    ·
      refine hl_less (sub_cons (d := 0) rfl (sub_cons (d := 1) rfl (sub_cons (d := 2) rfl (sub_cons (d := 4) rfl (sub_cons (d := 10) rfl (sub_cons (d := 16) rfl (sub_nil _))))))) (.refl _) ?_
      refine hl_nil ?_
      refine hq_then ?_
      refine hc_true rfl ?_
      refine hc_seq ?_
      refine hc_region ?_
      refine hl_v rfl rfl rfl (rv_ev rfl) ?_
      refine hl_less (sub_cons (d := 0) rfl (sub_cons (d := 1) rfl (sub_cons (d := 2) rfl (sub_cons (d := 4) rfl (sub_cons (d := 10) rfl (sub_cons (d := 16) rfl (sub_nil _))))))) (.refl _) ?_
      refine hl_nil ?_
      refine hq_then ?_
      refine hc_ret ?_
      refine hq_then_ret ?_
      exact hq_retR (post := []) rfl rfl (List.nil_sublist _) ⟨rfl, _, rfl, by first | omega | (split at * <;> omega), fun h => by first | omega | exact ⟨by first | omega | (split at * <;> omega), hcc (by omega)⟩⟩
    ·
      refine hl_less (sub_cons (d := 0) rfl (sub_cons (d := 1) rfl (sub_cons (d := 2) rfl (sub_cons (d := 4) rfl (sub_cons (d := 10) rfl (sub_cons (d := 16) rfl (sub_nil _))))))) (.refl _) ?_
      refine hl_nil ?_
      refine hq_then ?_
      refine hc_false rfl ?_
      refine hc_skip ?_
      refine hq_then ?_
      refine hc_seq ?_
      refine hc_region ?_
      refine hl_v rfl rfl rfl (rv_ev rfl) ?_
      refine hl_v rfl rfl rfl (rv_ev rfl) ?_
      refine hl_less (sub_cons (d := 0) rfl (sub_cons (d := 1) rfl (sub_cons (d := 2) rfl (sub_cons (d := 4) rfl (sub_cons (d := 10) rfl (sub_cons (d := 16) rfl (sub_nil _))))))) (.refl _) ?_
      refine hl_nil ?_
      refine hq_then ?_
      refine hc_ret ?_
      exact hq_retR (post := []) rfl rfl (List.nil_sublist _) ⟨rfl, _, rfl, by first | omega | (split at * <;> omega), fun h => by first | omega | exact ⟨by first | omega | (split at * <;> omega), hcc (by omega)⟩⟩
end Go.Proofs.Ytnnkbpcfjjijbaa
