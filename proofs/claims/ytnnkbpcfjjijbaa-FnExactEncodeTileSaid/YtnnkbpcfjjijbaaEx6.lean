/- Configurations of tiles: copied. -/
import Derived.Test.YtnnkbpcfjjijbaaEx5
import Derived.Test.YtnnkbpcfjjijbaaEx4
set_option linter.unusedVariables false
set_option linter.unusedSimpArgs false
namespace Go.Proofs.Ytnnkbpcfjjijbaa
open Go.RowKit

theorem copy_set (xs : List Int) (j n : Nat) (hn : xs.length = n) (hj : j < n) : (xs.take j ++ List.replicate (n - j) (0 : Int)).set j (xs.getD j 0) = xs.take (j + 1) ++ List.replicate (n - (j + 1)) 0 := by
  rw [List.set_append_right _ _ (by rw [List.length_take]; omega), List.length_take, show j - min j xs.length = 0 by omega, show n - j = (n - (j + 1)) + 1 by omega, List.replicate_succ, List.set_cons_zero,
    List.take_succ_eq_append_getElem (by omega), List.append_assoc, List.getD_eq_getElem?_getD, List.getElem?_eq_getElem (by omega)]; rfl
def IsLe (e : Le) (v : Value) (post : List HP) : Prop := ∃ u, v = .agg #[u, .int .i64 e.m, .int .i64 e.f, .int .i64 e.i] ∧ post = [rowE 3 1 u e.xs.length (e.xs.map (Value.int .i64))]
def IsLes (es : List Le) (v : Value) (post : List HP) : Prop := ∃ es' : List Le, post = [lesE v es'] ∧ es'.map Le.val = es.map Le.val
theorem les_one {w0 : World} {l : List HP} {i : Nat} {v : Value} {es : List Le} (hi : l[i]? = some (lesE v es)) (w : World) (hm : Mem w0 l w) : v.oneCell' = true := by
  obtain ⟨b1, -⟩ := hm.holds _ (mem_at hi)
  exact (rdsW_own (b1 _ (List.mem_cons_of_mem _ List.mem_cons_self)).2).one
theorem vals_len {es es' : List Le} (h : es'.map Le.val = es.map Le.val) (hb : ∀ e ∈ es, e.xs.length ≤ 1048576) : ∀ e ∈ es', e.xs.length ≤ 2000000 := by
  intro e he
  have : e.val ∈ es.map Le.val := h ▸ List.mem_map.2 ⟨e, he, rfl⟩
  obtain ⟨e2, h2, h3⟩ := List.mem_map.1 this
  have h4 : e2.xs = e.xs := congrArg Prod.fst h3
  have := hb e2 h2
  rw [h4] at this; omega
set_option maxHeartbeats 4000000 in
set_option maxRecDepth 100000 in
theorem toIntS_ret (xs : List Int) (v : Value) (w : World) (hv : RdsW w v 1 xs.length (xs.map (Value.int .i64))) (hlen : xs.length ≤ 2000000) :
    Calls Try.prog 48 #[v] w (Ret w (fun v' post => post = [rowE 3 1 v' (xs).length ((xs).map (Value.int .i64))])) := by
  refine calls_hc (N := 22) (args := [v]) Try.func48 rfl rfl ?_
  refine hc_less _ (sub_cons (d := 0) rfl (sub_nil _)) (.refl _) ?_
  refine hc_seq ?_
  refine hc_region ?_
  refine hl_v rfl rfl rfl (rv_ev rfl) ?_
  refine hl_less (sub_cons (d := 0) rfl (sub_cons (d := 2) rfl (sub_nil _))) (.refl _) ?_
  refine hl_nil ?_
  refine hq_then ?_
  refine hc_seq ?_
  refine hc_region ?_
  refine hl_v rfl rfl rfl (rv_ev rfl) ?_
  refine hl_v rfl rfl rfl (rv_len rfl Try.underlying30 rfl (rd_old hv)) ?_
  refine hl_row rfl rfl rfl (rq_make (z := .int .i64 0) (s := 1) (bytes := 8) (n := (List.replicate xs.length (0 : Int)).length) (cs := ((List.replicate xs.length (0 : Int)).map (Value.int .i64))) rfl Try.underlying30 (by kernel_rfl) (by decide) rfl rfl (by first | (rw [List.length_replicate]; done) | (rw [List.length_replicate]; omega)) (by first | (rw [List.length_replicate]; done) | (rw [List.length_replicate]; omega)) (by rw [List.length_replicate]; omega) (ints_make _)) ?_
  intro g1
  refine hl_v rfl rfl rfl (rv_ev rfl) ?_
  refine hl_less (sub_cons (d := 0) rfl (sub_cons (d := 2) rfl (sub_cons (d := 3) rfl (sub_nil _)))) (.refl _) ?_
  refine hl_nil ?_
  refine hq_then ?_
  refine hc_seq ?_
  refine hc_seq ?_
  refine hc_region ?_
  refine hl_v rfl rfl rfl (rv_ev rfl) ?_
  refine hl_less (sub_cons (d := 0) rfl (sub_cons (d := 2) rfl (sub_cons (d := 3) rfl (sub_cons (d := 4) rfl (sub_nil _))))) (.refl _) ?_
  refine hl_nil ?_
  refine hq_then ?_
  refine hc_block ?_
  refine hc_loop2 (α := Nat) (β := List Int) (fun j zs => [rowE 3 1 (.slice (some ⟨g1, 0, none⟩) ((List.replicate xs.length (0 : Int)).length) ((List.replicate xs.length (0 : Int)).length)) zs.length (zs.map (Value.int .i64))]) (fun j zs => [(0, v), (2, .slice none 0 0), (3, .slice (some ⟨g1, 0, none⟩) ((List.replicate xs.length (0 : Int)).length) ((List.replicate xs.length (0 : Int)).length)), (4, .int .i64 (j : Int))]) (fun j zs => j ≤ xs.length ∧ zs = xs.take j ++ List.replicate (xs.length - j) 0 ∧ zs.length = xs.length) (fun j zs => xs.length - j) 0 _ ⟨by omega, by simp, by simp⟩ (sub_cons (d := 0) rfl (sub_cons (d := 2) rfl (sub_cons (d := 3) rfl (sub_cons (d := 4) rfl (sub_nil _))))) ((.cons_cons _ .slnil)) ?_
  intro j zs hi2
  obtain ⟨hj, hz, hzl⟩ := hi2
  refine hc_seq ?_
  refine hc_seq ?_
  refine hc_region ?_
  refine hl_v rfl rfl rfl (rv_ev rfl) ?_
  refine hl_v rfl rfl rfl (rv_ev rfl) ?_
  refine hl_v rfl rfl rfl (rv_len rfl Try.underlying30 rfl (rd_old hv)) ?_
  refine hl_lss rfl rfl rfl rfl rfl rfl (fun h3 => ?_) (fun h3 => ?_)
  ·
    refine hl_less (sub_cons (d := 0) rfl (sub_cons (d := 2) rfl (sub_cons (d := 3) rfl (sub_cons (d := 4) rfl (sub_cons (d := 11) rfl (sub_nil _)))))) (.refl _) ?_
    refine hl_nil ?_
    refine hq_then ?_
    refine hc_true rfl ?_
    refine hc_skip ?_
    refine hq_then ?_
    refine hc_seq ?_
    refine hc_block ?_
    refine hc_region ?_
    refine hl_v rfl rfl rfl (rv_ev rfl) ?_
    refine hl_v rfl rfl rfl (rv_ev rfl) ?_
    refine hl_v rfl rfl rfl (rv_ev rfl) ?_
    refine hl_v rfl rfl rfl (rv_ev rfl) ?_
    refine hl_v rfl rfl rfl (rv_index (s := 1) rfl Try.underlying30 (by kernel_rfl) rfl rfl (rd_old hv) (by omega) (by first | omega | (simp only [List.length_set]; omega))) ?_
    refine hl_v rfl rfl rfl (rv_loadEl (u := .int .i64 (xs.getD j 0)) rfl (by kernel_rfl) rfl (rd_old hv) (ints_at1 (show _ < xs.length by first | omega | (simp only [List.length_set]; omega)))) ?_
    refine hl_v rfl rfl rfl (rv_index (s := 1) rfl Try.underlying30 (by kernel_rfl) rfl rfl (rd_row 0 rfl) (by omega) (by first | omega | (simp only [List.length_set]; omega))) ?_
    refine hl_storeEl (i := 0) (n' := (zs.set j (xs.getD j 0)).length) (xs' := ((zs.set j (xs.getD j 0)).map (Value.int .i64))) (l' := [rowE 3 1 (.slice (some ⟨g1, 0, none⟩) ((List.replicate xs.length (0 : Int)).length) ((List.replicate xs.length (0 : Int)).length)) ((zs.set j (xs.getD j 0)).length) ((zs.set j (xs.getD j 0)).map (Value.int .i64))]) rfl rfl rfl (by kernel_rfl) rfl rfl rfl rfl (by first | omega | (simp only [List.length_set]; omega)) List.length_set.symm (ints_set _ _ _) rfl ?_
    refine hl_less (sub_cons (d := 0) rfl (sub_cons (d := 2) rfl (sub_cons (d := 3) rfl (sub_cons (d := 4) rfl (sub_cons (d := 11) rfl (sub_nil _)))))) (.refl _) ?_
    refine hl_nil ?_
    refine hq_block_normal ?_
    refine hq_then ?_
    refine hc_region ?_
    refine hl_v rfl rfl rfl (rv_ev rfl) ?_
    refine hl_v rfl rfl rfl (rv_add rfl rfl rfl (by constructor <;> omega)) ?_
    refine hl_v rfl rfl rfl (rv_ev rfl) ?_
    refine hl_less (sub_cons (d := 0) rfl (sub_cons (d := 2) rfl (sub_cons (d := 3) rfl (sub_cons (d := 4) rfl (sub_cons (d := 11) rfl (sub_nil _)))))) (.refl _) ?_
    refine hl_nil ?_
    exact hq_round2 (j + 1) _ ⟨by omega, by rw [hz]; exact copy_set xs j _ rfl (by omega), by rw [List.length_set]; exact hzl⟩ (by omega) (sub_cons (d := 0) rfl (sub_cons (d := 2) rfl (sub_cons (d := 3) rfl (sub_cons (d := 4) rfl (sub_nil _))))) ((.cons_cons _ .slnil))
  ·
    refine hl_less (sub_cons (d := 0) rfl (sub_cons (d := 2) rfl (sub_cons (d := 3) rfl (sub_cons (d := 4) rfl (sub_cons (d := 11) rfl (sub_nil _)))))) (.refl _) ?_
    refine hl_nil ?_
    refine hq_then ?_
    refine hc_false rfl ?_
    refine hc_exit ?_
    refine hq_then_exit ?_
    refine hq_then_exit ?_
    refine hq_block_exit ?_
    refine hq_then ?_
    refine hc_seq ?_
    refine hc_region ?_
    refine hl_v rfl rfl rfl (rv_ev rfl) ?_
    refine hl_v rfl rfl rfl (rv_ev rfl) ?_
    refine hl_less (sub_cons (d := 0) rfl (sub_cons (d := 2) rfl (sub_cons (d := 3) rfl (sub_cons (d := 4) rfl (sub_cons (d := 11) rfl (sub_nil _)))))) (.refl _) ?_
    refine hl_nil ?_
    refine hq_then ?_
    refine hc_ret ?_
    have hzx : zs = xs := by rw [hz, show j = xs.length by omega, List.take_length, Nat.sub_self]; simp
    exact hq_retR (post := [rowE 3 1 (.slice (some ⟨g1, 0, none⟩) ((List.replicate xs.length (0 : Int)).length) ((List.replicate xs.length (0 : Int)).length)) zs.length (zs.map (Value.int .i64))]) rfl rfl ((.cons_cons _ .slnil)) (by rw [hzx])
set_option maxHeartbeats 4000000 in
set_option maxRecDepth 100000 in
theorem toLeConfig_ret (a : Le) (w : World) (hv : RdsW w a.v 1 a.xs.length (a.xs.map (Value.int .i64))) (hlen : a.xs.length ≤ 2000000) :
    Calls Try.prog 130 #[.agg #[a.v, .int .i64 a.m, .int .i64 a.f, .int .i64 a.i]] w (Ret w (IsLe a)) := by
  refine calls_hc (N := 18) (args := [.agg #[a.v, .int .i64 a.m, .int .i64 a.f, .int .i64 a.i]]) Try.func130 rfl rfl ?_
  refine hc_less _ (sub_cons (d := 0) rfl (sub_nil _)) (.refl _) ?_
  refine hc_seq ?_
  refine hc_region ?_
  refine hl_box rfl rfl rfl (rq_box rfl rfl) ?_
  intro b1
  refine hl_box rfl rfl rfl (rq_alloc (z := .agg #[.slice none 0 0, .int .i64 0, .int .i64 0, .int .i64 0]) rfl (by kernel_rfl)) ?_
  intro b2
  refine hl_less (sub_cons (d := 0) rfl (sub_cons (d := 1) rfl (sub_cons (d := 2) rfl (sub_nil _)))) (.refl _) ?_
  refine hl_nil ?_
  refine hq_then ?_
  refine hc_seq ?_
  refine hc_region ?_
  refine hl_box rfl rfl rfl (rq_alloc (z := .agg #[.slice none 0 0, .int .i64 0, .int .i64 0, .int .i64 0]) rfl (by kernel_rfl)) ?_
  intro b3
  refine hl_less (sub_cons (d := 0) rfl (sub_cons (d := 1) rfl (sub_cons (d := 2) rfl (sub_cons (d := 3) rfl (sub_nil _))))) (.refl _) ?_
  refine hl_nil ?_
  refine hq_then ?_
  refine hc_seq ?_
  refine hc_region ?_
  refine hl_v rfl rfl rfl (rv_field (k0 := 0) rfl (by kernel_rfl) rfl) ?_
  refine hl_v rfl rfl rfl (rv_load rfl (by kernel_rfl) rfl (box_cell 2 rfl rfl)) ?_
  refine hl_q rfl rfl rfl (rq_call (by kernel_rfl) rfl (fun w hm => toIntS_ret a.xs _ w ((rd_old hv) w hm) (by omega))) ?_
  intro v4 p5 hR6
  subst hR6
  refine hl_v rfl rfl rfl (rv_field (k0 := 0) rfl (by kernel_rfl) rfl) ?_
  refine hl_one (i := 0) rfl (fun ho7 => ?_)
  refine hl_storeBox (i := 1) (l' := [rowE 3 1 v4 a.xs.length (a.xs.map (Value.int .i64)), boxE b3 #[v4, .int .i64 0, .int .i64 0, .int .i64 0] 87, boxE b2 #[.slice none 0 0, .int .i64 0, .int .i64 0, .int .i64 0] 87, boxE b1 #[a.v, .int .i64 a.m, .int .i64 a.f, .int .i64 a.i] 125]) rfl rfl rfl (by kernel_rfl) rfl rfl ho7 rfl rfl rfl ?_
  refine hl_less (sub_cons (d := 0) rfl (sub_cons (d := 1) rfl (sub_cons (d := 2) rfl (sub_cons (d := 3) rfl (sub_nil _))))) (.refl _) ?_
  refine hl_nil ?_
  refine hq_then ?_
  refine hc_seq ?_
  refine hc_region ?_
  refine hl_v rfl rfl rfl (rv_field (k0 := 1) rfl (by kernel_rfl) rfl) ?_
  refine hl_v rfl rfl rfl (rv_load rfl (by kernel_rfl) rfl (box_cell 3 rfl rfl)) ?_
  refine hl_v rfl rfl rfl (rv_field (k0 := 1) rfl (by kernel_rfl) rfl) ?_
  refine hl_storeBox (i := 1) (l' := [rowE 3 1 v4 a.xs.length (a.xs.map (Value.int .i64)), boxE b3 #[v4, .int .i64 a.m, .int .i64 0, .int .i64 0] 87, boxE b2 #[.slice none 0 0, .int .i64 0, .int .i64 0, .int .i64 0] 87, boxE b1 #[a.v, .int .i64 a.m, .int .i64 a.f, .int .i64 a.i] 125]) rfl rfl rfl (by kernel_rfl) rfl rfl rfl rfl rfl rfl ?_
  refine hl_less (sub_cons (d := 0) rfl (sub_cons (d := 1) rfl (sub_cons (d := 2) rfl (sub_cons (d := 3) rfl (sub_nil _))))) (.refl _) ?_
  refine hl_nil ?_
  refine hq_then ?_
  refine hc_seq ?_
  refine hc_region ?_
  refine hl_v rfl rfl rfl (rv_field (k0 := 2) rfl (by kernel_rfl) rfl) ?_
  refine hl_v rfl rfl rfl (rv_load rfl (by kernel_rfl) rfl (box_cell 3 rfl rfl)) ?_
  refine hl_v rfl rfl rfl (rv_field (k0 := 2) rfl (by kernel_rfl) rfl) ?_
  refine hl_storeBox (i := 1) (l' := [rowE 3 1 v4 a.xs.length (a.xs.map (Value.int .i64)), boxE b3 #[v4, .int .i64 a.m, .int .i64 a.f, .int .i64 0] 87, boxE b2 #[.slice none 0 0, .int .i64 0, .int .i64 0, .int .i64 0] 87, boxE b1 #[a.v, .int .i64 a.m, .int .i64 a.f, .int .i64 a.i] 125]) rfl rfl rfl (by kernel_rfl) rfl rfl rfl rfl rfl rfl ?_
  refine hl_less (sub_cons (d := 0) rfl (sub_cons (d := 1) rfl (sub_cons (d := 2) rfl (sub_cons (d := 3) rfl (sub_nil _))))) (.refl _) ?_
  refine hl_nil ?_
  refine hq_then ?_
  refine hc_seq ?_
  refine hc_region ?_
  refine hl_v rfl rfl rfl (rv_field (k0 := 3) rfl (by kernel_rfl) rfl) ?_
  refine hl_v rfl rfl rfl (rv_load rfl (by kernel_rfl) rfl (box_cell 3 rfl rfl)) ?_
  refine hl_v rfl rfl rfl (rv_field (k0 := 3) rfl (by kernel_rfl) rfl) ?_
  refine hl_storeBox (i := 1) (l' := [rowE 3 1 v4 a.xs.length (a.xs.map (Value.int .i64)), boxE b3 #[v4, .int .i64 a.m, .int .i64 a.f, .int .i64 a.i] 87, boxE b2 #[.slice none 0 0, .int .i64 0, .int .i64 0, .int .i64 0] 87, boxE b1 #[a.v, .int .i64 a.m, .int .i64 a.f, .int .i64 a.i] 125]) rfl rfl rfl (by kernel_rfl) rfl rfl rfl rfl rfl rfl ?_
  refine hl_less (sub_cons (d := 0) rfl (sub_cons (d := 1) rfl (sub_cons (d := 2) rfl (sub_cons (d := 3) rfl (sub_nil _))))) (.refl _) ?_
  refine hl_nil ?_
  refine hq_then ?_
  refine hc_seq ?_
  refine hc_region ?_
  refine hl_v rfl rfl rfl (rv_loadN (cs := [v4, .int .i64 a.m, .int .i64 a.f, .int .i64 a.i]) rfl (by kernel_rfl) (by kernel_rfl) rfl rfl (box_part 1 rfl 0 rfl)) ?_
  refine hl_storeBoxN (i := 2) (off := 0) (us := [v4, .int .i64 a.m, .int .i64 a.f, .int .i64 a.i]) (l' := [rowE 3 1 v4 a.xs.length (a.xs.map (Value.int .i64)), boxE b3 #[v4, .int .i64 a.m, .int .i64 a.f, .int .i64 a.i] 87, boxE b2 #[v4, .int .i64 a.m, .int .i64 a.f, .int .i64 a.i] 87, boxE b1 #[a.v, .int .i64 a.m, .int .i64 a.f, .int .i64 a.i] 125]) rfl rfl rfl (by kernel_rfl) rfl rfl rfl (all_cons ho7 (all_cons rfl (all_cons rfl (all_cons rfl all_nil)))) rfl rfl rfl ?_
  refine hl_less (sub_cons (d := 0) rfl (sub_cons (d := 1) rfl (sub_cons (d := 2) rfl (sub_cons (d := 3) rfl (sub_nil _))))) (.refl _) ?_
  refine hl_nil ?_
  refine hq_then ?_
  refine hc_ret ?_
  exact hq_retC (b := b2) (i := 2) (us := [v4, .int .i64 a.m, .int .i64 a.f, .int .i64 a.i]) (post := [rowE 3 1 v4 a.xs.length (a.xs.map (Value.int .i64))]) rfl rfl (by kernel_rfl) (by kernel_rfl) rfl ((.cons_cons _ (.cons _ (.cons _ (.cons _ .slnil))))) ⟨_, rfl, rfl⟩

theorem getD_set_ne' {α : Type} {es : List α} {i j : Nat} {d e : α} (h : j ≠ i) : (es.set j e).getD i d = es.getD i d := by
  rw [List.getD_eq_getElem?_getD, List.getElem?_set_ne h, ← List.getD_eq_getElem?_getD]
set_option maxHeartbeats 4000000 in
set_option maxRecDepth 100000 in
theorem toLeConfigS_ret (es : List Le) (v : Value) (w : World) (hv : RdsW w v 4 es.length (es.flatMap Le.cells)) (hes : ∀ e ∈ es, RdsW w e.v 1 e.xs.length (e.xs.map (Value.int .i64))) (hel : ∀ e ∈ es, e.xs.length ≤ 1048576) (hlen : es.length ≤ 2000000) :
    Calls Try.prog 93 #[v] w (Ret w (IsLes es)) := by
  refine calls_hc (N := 23) (args := [v]) Try.func93 rfl rfl ?_
  refine hc_less _ (sub_cons (d := 0) rfl (sub_nil _)) (.refl _) ?_
  refine hc_seq ?_
  refine hc_region ?_
  refine hl_v rfl rfl rfl (rv_ev rfl) ?_
  refine hl_less (sub_cons (d := 0) rfl (sub_cons (d := 2) rfl (sub_nil _))) (.refl _) ?_
  refine hl_nil ?_
  refine hq_then ?_
  refine hc_seq ?_
  refine hc_region ?_
  refine hl_v rfl rfl rfl (rv_ev rfl) ?_
  refine hl_v rfl rfl rfl (rv_len rfl Try.underlying48 rfl (rd_old hv)) ?_
  refine hl_row rfl rfl rfl (rq_make (z := .agg #[.slice none 0 0, .int .i64 0, .int .i64 0, .int .i64 0]) (s := 4) (bytes := 48) (n := (List.replicate es.length Le0).length) (cs := ((List.replicate es.length Le0).flatMap Le.cells)) rfl Try.underlying37 (by kernel_rfl) (by decide) rfl rfl (by first | (rw [List.length_replicate]; done) | (rw [List.length_replicate]; omega)) (by first | (rw [List.length_replicate]; done) | (rw [List.length_replicate]; omega)) (by rw [List.length_replicate]; omega) (made_flat Le.cells 4 (fun _ => rfl) Le0 _ rfl es.length)) ?_
  intro g1
  refine hl_v rfl rfl rfl (rv_ev rfl) ?_
  refine hl_less (sub_cons (d := 0) rfl (sub_cons (d := 2) rfl (sub_cons (d := 3) rfl (sub_nil _)))) (.refl _) ?_
  refine hl_nil ?_
  refine hq_then ?_
  refine hc_seq ?_
  refine hc_seq ?_
  refine hc_region ?_
  refine hl_v rfl rfl rfl (rv_ev rfl) ?_
  refine hl_less (sub_cons (d := 0) rfl (sub_cons (d := 2) rfl (sub_cons (d := 3) rfl (sub_cons (d := 4) rfl (sub_nil _))))) (.refl _) ?_
  refine hl_nil ?_
  refine hq_then ?_
  refine hc_block ?_
  refine hc_conv [bigE ((List.replicate es.length Le0).map lePart), rowE 87 4 (.slice (some ⟨g1, 0, none⟩) ((List.replicate es.length Le0).length) ((List.replicate es.length Le0).length)) ((List.replicate es.length Le0).length) ((List.replicate es.length Le0).flatMap Le.cells)] (fun w hm => by have h2 := (hm.bigNil 3 1 es.length).big; rw [show List.replicate es.length (rowE 3 1 (.slice none 0 0) 0 []) = (List.replicate es.length Le0).map lePart by rw [List.map_replicate]; rfl] at h2; exact h2) ?_
  refine hc_loop2 (α := Nat) (β := List Le) (fun j zs => [bigE (zs.map lePart), rowE 87 4 (.slice (some ⟨g1, 0, none⟩) ((List.replicate es.length Le0).length) ((List.replicate es.length Le0).length)) zs.length (zs.flatMap Le.cells)]) (fun j zs => [(0, v), (2, .slice none 0 0), (3, .slice (some ⟨g1, 0, none⟩) ((List.replicate es.length Le0).length) ((List.replicate es.length Le0).length)), (4, .int .i64 (j : Int))]) (fun j zs => j ≤ es.length ∧ zs.length = es.length ∧ ∀ i, i < j → (zs.getD i Le0).val = (es.getD i Le0).val) (fun j zs => es.length - j) 0 _ ⟨by omega, by simp, fun i hi => absurd hi (by omega)⟩ (sub_cons (d := 0) rfl (sub_cons (d := 2) rfl (sub_cons (d := 3) rfl (sub_cons (d := 4) rfl (sub_nil _))))) ((.cons_cons _ (.cons_cons _ .slnil))) ?_
  intro j zs hi2
  obtain ⟨hj, hzl, hz⟩ := hi2
  refine hc_seq ?_
  refine hc_seq ?_
  refine hc_region ?_
  refine hl_v rfl rfl rfl (rv_ev rfl) ?_
  refine hl_v rfl rfl rfl (rv_ev rfl) ?_
  refine hl_v rfl rfl rfl (rv_len rfl Try.underlying48 rfl (rd_old hv)) ?_
  refine hl_lss rfl rfl rfl rfl rfl rfl (fun h3 => ?_) (fun h3 => ?_)
  ·
    refine hl_less (sub_cons (d := 0) rfl (sub_cons (d := 2) rfl (sub_cons (d := 3) rfl (sub_cons (d := 4) rfl (sub_cons (d := 11) rfl (sub_nil _)))))) (.refl _) ?_
    refine hl_nil ?_
    refine hq_then ?_
    refine hc_true rfl ?_
    refine hc_skip ?_
    refine hq_then ?_
    refine hc_seq ?_
    refine hc_block ?_
    refine hc_region ?_
    refine hl_v rfl rfl rfl (rv_ev rfl) ?_
    refine hl_v rfl rfl rfl (rv_ev rfl) ?_
    refine hl_v rfl rfl rfl (rv_ev rfl) ?_
    refine hl_v rfl rfl rfl (rv_ev rfl) ?_
    refine hl_v rfl rfl rfl (rv_index (s := 4) rfl Try.underlying48 (by kernel_rfl) rfl rfl (rd_old hv) (by omega) (by first | omega | (simp only [List.length_set]; omega))) ?_
    refine hl_v rfl rfl rfl (rv_loadElN (us := [(es.getD j Le0).v, .int .i64 ((es.getD j Le0).m), .int .i64 ((es.getD j Le0).f), .int .i64 ((es.getD j Le0).i)]) rfl (by kernel_rfl) (by kernel_rfl) rfl (rd_old hv) (by omega) rfl (flat_atN Le.cells 4 (fun _ => rfl) es Le0 (show j < _ by first | omega | (simp only [List.length_set]; omega)) rfl)) ?_
    refine hl_q rfl rfl rfl (rq_call (by kernel_rfl) rfl (fun w hm => toLeConfig_ret (es.getD j Le0) w ((hes _ (getD_mem' (by omega))).below hm.bel) (by have := hel _ (getD_mem' (es := es) (i := j) (d := Le0) (by omega)); omega))) ?_
    intro v4 p5 hR6
    obtain ⟨uhR6, rfl, rfl⟩ := hR6
    refine hl_v rfl rfl rfl (rv_index (s := 4) rfl Try.underlying37 (by kernel_rfl) rfl rfl (rd_row 2 rfl) (by omega) (by first | omega | (simp only [List.length_set]; omega))) ?_
    refine hl_one (i := 0) rfl (fun ho7 => ?_)
    refine hl_storeElN (i := 2) (us := [uhR6, .int .i64 ((es.getD j Le0).m), .int .i64 ((es.getD j Le0).f), .int .i64 ((es.getD j Le0).i)]) (n' := (zs.set j (Le.mk uhR6 (es.getD j Le0).xs (es.getD j Le0).m (es.getD j Le0).f (es.getD j Le0).i)).length) (xs' := ((zs.set j (Le.mk uhR6 (es.getD j Le0).xs (es.getD j Le0).m (es.getD j Le0).f (es.getD j Le0).i)).flatMap Le.cells)) (l' := [rowE 3 1 uhR6 ((es.getD j Le0).xs.length) ((es.getD j Le0).xs.map (Value.int .i64)), bigE (zs.map lePart), rowE 87 4 (.slice (some ⟨g1, 0, none⟩) ((List.replicate es.length Le0).length) ((List.replicate es.length Le0).length)) ((zs.set j (Le.mk uhR6 (es.getD j Le0).xs (es.getD j Le0).m (es.getD j Le0).f (es.getD j Le0).i)).length) ((zs.set j (Le.mk uhR6 (es.getD j Le0).xs (es.getD j Le0).m (es.getD j Le0).f (es.getD j Le0).i)).flatMap Le.cells)]) rfl rfl rfl (by kernel_rfl) rfl rfl (all_cons ho7 (all_cons rfl (all_cons rfl (all_cons rfl all_nil)))) rfl (by first | omega | (simp only [List.length_set]; omega)) (by simp only [List.length_cons, List.length_nil]; first | omega | (simp only [List.length_set]; omega)) List.length_set.symm (flat_put Le.cells 4 (fun _ => rfl) _ (Le.mk uhR6 (es.getD j Le0).xs (es.getD j Le0).m (es.getD j Le0).f (es.getD j Le0).i) (by first | omega | (simp only [List.length_set]; omega))) rfl ?_
    refine hl_less (sub_cons (d := 0) rfl (sub_cons (d := 2) rfl (sub_cons (d := 3) rfl (sub_cons (d := 4) rfl (sub_cons (d := 11) rfl (sub_nil _)))))) (.refl _) ?_
    refine hl_nil ?_
    refine hq_block_normal ?_
    refine hq_then ?_
    refine hc_region ?_
    refine hl_v rfl rfl rfl (rv_ev rfl) ?_
    refine hl_v rfl rfl rfl (rv_add rfl rfl rfl (by constructor <;> omega)) ?_
    refine hl_v rfl rfl rfl (rv_ev rfl) ?_
    refine hl_less (sub_cons (d := 0) rfl (sub_cons (d := 2) rfl (sub_cons (d := 3) rfl (sub_cons (d := 4) rfl (sub_cons (d := 11) rfl (sub_nil _)))))) (.refl _) ?_
    refine hl_nil ?_
    refine hq_conv [bigE (zs.map lePart), rowE 3 1 uhR6 ((es.getD j Le0).xs.length) ((es.getD j Le0).xs.map (Value.int .i64)), rowE 87 4 (.slice (some ⟨g1, 0, none⟩) ((List.replicate es.length Le0).length) ((List.replicate es.length Le0).length)) ((zs.set j (Le.mk uhR6 (es.getD j Le0).xs (es.getD j Le0).m (es.getD j Le0).f (es.getD j Le0).i)).length) ((zs.set j (Le.mk uhR6 (es.getD j Le0).xs (es.getD j Le0).m (es.getD j Le0).f (es.getD j Le0).i)).flatMap Le.cells)] (conv_pick (src := [rowE 3 1 uhR6 ((es.getD j Le0).xs.length) ((es.getD j Le0).xs.map (Value.int .i64)), bigE (zs.map lePart), rowE 87 4 (.slice (some ⟨g1, 0, none⟩) ((List.replicate es.length Le0).length) ((List.replicate es.length Le0).length)) ((zs.set j (Le.mk uhR6 (es.getD j Le0).xs (es.getD j Le0).m (es.getD j Le0).f (es.getD j Le0).i)).length) ((zs.set j (Le.mk uhR6 (es.getD j Le0).xs (es.getD j Le0).m (es.getD j Le0).f (es.getD j Le0).i)).flatMap Le.cells)]) (dst := [bigE (zs.map lePart), rowE 3 1 uhR6 ((es.getD j Le0).xs.length) ((es.getD j Le0).xs.map (Value.int .i64)), rowE 87 4 (.slice (some ⟨g1, 0, none⟩) ((List.replicate es.length Le0).length) ((List.replicate es.length Le0).length)) ((zs.set j (Le.mk uhR6 (es.getD j Le0).xs (es.getD j Le0).m (es.getD j Le0).f (es.getD j Le0).i)).length) ((zs.set j (Le.mk uhR6 (es.getD j Le0).xs (es.getD j Le0).m (es.getD j Le0).f (es.getD j Le0).i)).flatMap Le.cells)]) (l := []) [1, 0, 2] (by decide) rfl) ?_
    refine hq_conv [bigE ((zs.map lePart).eraseIdx j), rowE 3 1 uhR6 ((es.getD j Le0).xs.length) ((es.getD j Le0).xs.map (Value.int .i64)), rowE 87 4 (.slice (some ⟨g1, 0, none⟩) ((List.replicate es.length Le0).length) ((List.replicate es.length Le0).length)) ((zs.set j (Le.mk uhR6 (es.getD j Le0).xs (es.getD j Le0).m (es.getD j Le0).f (es.getD j Le0).i)).length) ((zs.set j (Le.mk uhR6 (es.getD j Le0).xs (es.getD j Le0).m (es.getD j Le0).f (es.getD j Le0).i)).flatMap Le.cells)] ((conv_focus (j := j) (by rw [List.getElem?_map, getD_at (d := Le0) (by omega)]; rfl)).trans conv_cons) ?_
    refine hq_conv [rowE 3 1 uhR6 ((es.getD j Le0).xs.length) ((es.getD j Le0).xs.map (Value.int .i64)), bigE ((zs.map lePart).eraseIdx j), rowE 87 4 (.slice (some ⟨g1, 0, none⟩) ((List.replicate es.length Le0).length) ((List.replicate es.length Le0).length)) ((zs.set j (Le.mk uhR6 (es.getD j Le0).xs (es.getD j Le0).m (es.getD j Le0).f (es.getD j Le0).i)).length) ((zs.set j (Le.mk uhR6 (es.getD j Le0).xs (es.getD j Le0).m (es.getD j Le0).f (es.getD j Le0).i)).flatMap Le.cells)] (conv_perm (.swap _ _ _)) ?_
    refine hq_conv [bigE ((zs.set j (Le.mk uhR6 (es.getD j Le0).xs (es.getD j Le0).m (es.getD j Le0).f (es.getD j Le0).i)).map lePart), rowE 87 4 (.slice (some ⟨g1, 0, none⟩) ((List.replicate es.length Le0).length) ((List.replicate es.length Le0).length)) ((zs.set j (Le.mk uhR6 (es.getD j Le0).xs (es.getD j Le0).m (es.getD j Le0).f (es.getD j Le0).i)).length) ((zs.set j (Le.mk uhR6 (es.getD j Le0).xs (es.getD j Le0).m (es.getD j Le0).f (es.getD j Le0).i)).flatMap Le.cells)] (fun w hm => by have h2 := conv_unfocus (p' := lePart (Le.mk uhR6 (es.getD j Le0).xs (es.getD j Le0).m (es.getD j Le0).f (es.getD j Le0).i)) (ps := zs.map lePart) (j := j) (by rw [List.length_map]; omega) w hm; rw [← List.map_set] at h2; exact h2) ?_
    exact hq_round2 (j + 1) _ ⟨by omega, by rw [List.length_set]; exact hzl, fun i hi => by by_cases hij : i = j; (subst hij; rw [getD_set_self' (by omega)]; rfl); rw [getD_set_ne' (fun h => hij h.symm)]; exact hz i (by omega)⟩ (by omega) (sub_cons (d := 0) rfl (sub_cons (d := 2) rfl (sub_cons (d := 3) rfl (sub_cons (d := 4) rfl (sub_nil _))))) ((.cons_cons _ (.cons_cons _ .slnil)))
  ·
    refine hl_less (sub_cons (d := 0) rfl (sub_cons (d := 2) rfl (sub_cons (d := 3) rfl (sub_cons (d := 4) rfl (sub_cons (d := 11) rfl (sub_nil _)))))) (.refl _) ?_
    refine hl_nil ?_
    refine hq_then ?_
    refine hc_false rfl ?_
    refine hc_exit ?_
    refine hq_then_exit ?_
    refine hq_then_exit ?_
    refine hq_block_exit ?_
    refine hq_then ?_
    refine hc_seq ?_
    refine hc_region ?_
    refine hl_v rfl rfl rfl (rv_ev rfl) ?_
    refine hl_v rfl rfl rfl (rv_ev rfl) ?_
    refine hl_less (sub_cons (d := 0) rfl (sub_cons (d := 2) rfl (sub_cons (d := 3) rfl (sub_cons (d := 4) rfl (sub_cons (d := 11) rfl (sub_nil _)))))) (.refl _) ?_
    refine hl_nil ?_
    refine hq_then ?_
    refine hc_ret ?_
    refine hq_conv [lesE (.slice (some ⟨g1, 0, none⟩) ((List.replicate es.length Le0).length) ((List.replicate es.length Le0).length)) zs] (conv_big (ps := [bigE (zs.map lePart), rowE 87 4 (.slice (some ⟨g1, 0, none⟩) ((List.replicate es.length Le0).length) ((List.replicate es.length Le0).length)) zs.length (zs.flatMap Le.cells)])) ?_
    exact hq_retR (post := [lesE (.slice (some ⟨g1, 0, none⟩) ((List.replicate es.length Le0).length) ((List.replicate es.length Le0).length)) zs]) rfl rfl (.refl _) ⟨zs, rfl, map_ext_getD (d := Le0) hzl (fun i hi => hz i (by omega))⟩

section
variable {P : Program} {N : Nat} {w0 : World} {l l' : List HP} {env : List (Nat × Value)} {Q : Post} {ops : Array Oper} {rest : List Oper}
theorem hl_les {i : Nat} {v : Value} {es : List Le} (hi : l[i]? = some (lesE v es)) (k : v.oneCell' = true → HL P N ops w0 l env rest Q) : HL P N ops w0 l env rest Q := hl_know (les_one hi) k
end
set_option maxHeartbeats 4000000 in
set_option maxRecDepth 100000 in
theorem toTileConfig_ret (t : Tc) (w : World) (ht : t.RdU w) (hmx : t.mx.length ≤ 1048576) (hnes : t.es.length ≤ 1048576) (hel : ∀ e ∈ t.es, e.xs.length ≤ 1048576) :
    Calls Try.prog 39 #[.agg #[t.mv, t.lv, .int .i64 t.pad, .int .i64 t.ram]] w (Ret w (IsTc t.val)) := by
  refine calls_hc (N := 19) (args := [.agg #[t.mv, t.lv, .int .i64 t.pad, .int .i64 t.ram]]) Try.func39 rfl rfl ?_
  refine hc_less _ (sub_cons (d := 0) rfl (sub_nil _)) (.refl _) ?_
  refine hc_seq ?_
  refine hc_region ?_
  refine hl_box rfl rfl rfl (rq_box rfl rfl) ?_
  intro b1
  refine hl_box rfl rfl rfl (rq_alloc (z := .agg #[.slice none 0 0, .slice none 0 0, .int .i64 0, .int .i64 0]) rfl (by kernel_rfl)) ?_
  intro b2
  refine hl_less (sub_cons (d := 0) rfl (sub_cons (d := 1) rfl (sub_cons (d := 2) rfl (sub_nil _)))) (.refl _) ?_
  refine hl_nil ?_
  refine hq_then ?_
  refine hc_seq ?_
  refine hc_region ?_
  refine hl_box rfl rfl rfl (rq_alloc (z := .agg #[.slice none 0 0, .slice none 0 0, .int .i64 0, .int .i64 0]) rfl (by kernel_rfl)) ?_
  intro b3
  refine hl_less (sub_cons (d := 0) rfl (sub_cons (d := 1) rfl (sub_cons (d := 2) rfl (sub_cons (d := 3) rfl (sub_nil _))))) (.refl _) ?_
  refine hl_nil ?_
  refine hq_then ?_
  refine hc_seq ?_
  refine hc_region ?_
  refine hl_v rfl rfl rfl (rv_field (k0 := 0) rfl (by kernel_rfl) rfl) ?_
  refine hl_v rfl rfl rfl (rv_load rfl (by kernel_rfl) rfl (box_cell 2 rfl rfl)) ?_
  refine hl_q rfl rfl rfl (rq_call (by kernel_rfl) rfl (fun w hm => toIntS_ret t.mx _ w ((rd_old ht.mx) w hm) (by omega))) ?_
  intro v4 p5 hR6
  subst hR6
  refine hl_v rfl rfl rfl (rv_field (k0 := 0) rfl (by kernel_rfl) rfl) ?_
  refine hl_one (i := 0) rfl (fun ho7 => ?_)
  refine hl_storeBox (i := 1) (l' := [rowE 3 1 v4 t.mx.length (t.mx.map (Value.int .i64)), boxE b3 #[v4, .slice none 0 0, .int .i64 0, .int .i64 0] 39, boxE b2 #[.slice none 0 0, .slice none 0 0, .int .i64 0, .int .i64 0] 39, boxE b1 #[t.mv, t.lv, .int .i64 t.pad, .int .i64 t.ram] 50]) rfl rfl rfl (by kernel_rfl) rfl rfl ho7 rfl rfl rfl ?_
  refine hl_less (sub_cons (d := 0) rfl (sub_cons (d := 1) rfl (sub_cons (d := 2) rfl (sub_cons (d := 3) rfl (sub_nil _))))) (.refl _) ?_
  refine hl_nil ?_
  refine hq_then ?_
  refine hc_seq ?_
  refine hc_region ?_
  refine hl_v rfl rfl rfl (rv_field (k0 := 1) rfl (by kernel_rfl) rfl) ?_
  refine hl_v rfl rfl rfl (rv_load rfl (by kernel_rfl) rfl (box_cell 3 rfl rfl)) ?_
  refine hl_q rfl rfl rfl (rq_call (by kernel_rfl) rfl (fun w hm => toLeConfigS_ret t.es _ w (ht.lv.below hm.bel) (fun e he => (ht.es e he).below hm.bel) hel (by omega))) ?_
  intro v8 p9 hR10
  obtain ⟨eshR10, rfl, hle⟩ := hR10
  refine hl_v rfl rfl rfl (rv_field (k0 := 1) rfl (by kernel_rfl) rfl) ?_
  refine hl_les (i := 0) rfl (fun ho11 => ?_)
  refine hl_storeBox (i := 2) (l' := [lesE v8 eshR10, rowE 3 1 v4 t.mx.length (t.mx.map (Value.int .i64)), boxE b3 #[v4, v8, .int .i64 0, .int .i64 0] 39, boxE b2 #[.slice none 0 0, .slice none 0 0, .int .i64 0, .int .i64 0] 39, boxE b1 #[t.mv, t.lv, .int .i64 t.pad, .int .i64 t.ram] 50]) rfl rfl rfl (by kernel_rfl) rfl rfl ho11 rfl rfl rfl ?_
  refine hl_less (sub_cons (d := 0) rfl (sub_cons (d := 1) rfl (sub_cons (d := 2) rfl (sub_cons (d := 3) rfl (sub_nil _))))) (.refl _) ?_
  refine hl_nil ?_
  refine hq_then ?_
  refine hc_seq ?_
  refine hc_region ?_
  refine hl_v rfl rfl rfl (rv_field (k0 := 2) rfl (by kernel_rfl) rfl) ?_
  refine hl_v rfl rfl rfl (rv_load rfl (by kernel_rfl) rfl (box_cell 4 rfl rfl)) ?_
  refine hl_v rfl rfl rfl (rv_field (k0 := 2) rfl (by kernel_rfl) rfl) ?_
  refine hl_storeBox (i := 2) (l' := [lesE v8 eshR10, rowE 3 1 v4 t.mx.length (t.mx.map (Value.int .i64)), boxE b3 #[v4, v8, .int .i64 t.pad, .int .i64 0] 39, boxE b2 #[.slice none 0 0, .slice none 0 0, .int .i64 0, .int .i64 0] 39, boxE b1 #[t.mv, t.lv, .int .i64 t.pad, .int .i64 t.ram] 50]) rfl rfl rfl (by kernel_rfl) rfl rfl rfl rfl rfl rfl ?_
  refine hl_less (sub_cons (d := 0) rfl (sub_cons (d := 1) rfl (sub_cons (d := 2) rfl (sub_cons (d := 3) rfl (sub_nil _))))) (.refl _) ?_
  refine hl_nil ?_
  refine hq_then ?_
  refine hc_seq ?_
  refine hc_region ?_
  refine hl_v rfl rfl rfl (rv_field (k0 := 3) rfl (by kernel_rfl) rfl) ?_
  refine hl_v rfl rfl rfl (rv_load rfl (by kernel_rfl) rfl (box_cell 4 rfl rfl)) ?_
  refine hl_v rfl rfl rfl (rv_field (k0 := 3) rfl (by kernel_rfl) rfl) ?_
  refine hl_storeBox (i := 2) (l' := [lesE v8 eshR10, rowE 3 1 v4 t.mx.length (t.mx.map (Value.int .i64)), boxE b3 #[v4, v8, .int .i64 t.pad, .int .i64 t.ram] 39, boxE b2 #[.slice none 0 0, .slice none 0 0, .int .i64 0, .int .i64 0] 39, boxE b1 #[t.mv, t.lv, .int .i64 t.pad, .int .i64 t.ram] 50]) rfl rfl rfl (by kernel_rfl) rfl rfl rfl rfl rfl rfl ?_
  refine hl_less (sub_cons (d := 0) rfl (sub_cons (d := 1) rfl (sub_cons (d := 2) rfl (sub_cons (d := 3) rfl (sub_nil _))))) (.refl _) ?_
  refine hl_nil ?_
  refine hq_then ?_
  refine hc_seq ?_
  refine hc_region ?_
  refine hl_v rfl rfl rfl (rv_loadN (cs := [v4, v8, .int .i64 t.pad, .int .i64 t.ram]) rfl (by kernel_rfl) (by kernel_rfl) rfl rfl (box_part 2 rfl 0 rfl)) ?_
  refine hl_storeBoxN (i := 3) (off := 0) (us := [v4, v8, .int .i64 t.pad, .int .i64 t.ram]) (l' := [lesE v8 eshR10, rowE 3 1 v4 t.mx.length (t.mx.map (Value.int .i64)), boxE b3 #[v4, v8, .int .i64 t.pad, .int .i64 t.ram] 39, boxE b2 #[v4, v8, .int .i64 t.pad, .int .i64 t.ram] 39, boxE b1 #[t.mv, t.lv, .int .i64 t.pad, .int .i64 t.ram] 50]) rfl rfl rfl (by kernel_rfl) rfl rfl rfl (all_cons ho7 (all_cons ho11 (all_cons rfl (all_cons rfl all_nil)))) rfl rfl rfl ?_
  refine hl_less (sub_cons (d := 0) rfl (sub_cons (d := 1) rfl (sub_cons (d := 2) rfl (sub_cons (d := 3) rfl (sub_nil _))))) (.refl _) ?_
  refine hl_nil ?_
  refine hq_then ?_
  refine hc_ret ?_
  have hll : eshR10.length = t.es.length := by simpa using congrArg List.length hle
  refine hq_conv [rowE 3 1 v4 t.mx.length (t.mx.map (Value.int .i64)), lesE v8 eshR10, boxE b2 #[v4, v8, .int .i64 t.pad, .int .i64 t.ram] 39] (conv_pick (src := [lesE v8 eshR10, rowE 3 1 v4 t.mx.length (t.mx.map (Value.int .i64)), boxE b3 #[v4, v8, .int .i64 t.pad, .int .i64 t.ram] 39, boxE b2 #[v4, v8, .int .i64 t.pad, .int .i64 t.ram] 39, boxE b1 #[t.mv, t.lv, .int .i64 t.pad, .int .i64 t.ram] 50]) (dst := [rowE 3 1 v4 t.mx.length (t.mx.map (Value.int .i64)), lesE v8 eshR10, boxE b2 #[v4, v8, .int .i64 t.pad, .int .i64 t.ram] 39]) (l := []) [1, 0, 3] (by decide) rfl) ?_
  refine hq_conv (tcE (Tc.mk v4 t.mx v8 eshR10 t.pad t.ram) :: [boxE b2 #[v4, v8, .int .i64 t.pad, .int .i64 t.ram] 39]) (conv_big (ps := [rowE 3 1 v4 t.mx.length (t.mx.map (Value.int .i64)), lesE v8 eshR10])) ?_
  exact hq_retC (b := b2) (i := 1) (us := [v4, v8, .int .i64 t.pad, .int .i64 t.ram]) (post := [tcE (Tc.mk v4 t.mx v8 eshR10 t.pad t.ram)]) rfl rfl (by kernel_rfl) (by kernel_rfl) rfl (.cons_cons _ (List.nil_sublist _)) ⟨Tc.mk v4 t.mx v8 eshR10 t.pad t.ram, rfl, rfl, ⟨by assumption, by assumption⟩, by simp only [Tc.val, hle], by show t.mx.length ≤ 2000000; omega, by show eshR10.length ≤ 2000000; omega, vals_len hle hel⟩
end Go.Proofs.Ytnnkbpcfjjijbaa
