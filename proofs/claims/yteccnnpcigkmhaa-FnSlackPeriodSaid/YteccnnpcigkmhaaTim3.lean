/- Slacks: the walks. -/
import Derived.Test.YteccnnpcigkmhaaTim2
import Derived.Test.YteccnnpcigkmhaaClo
set_option linter.unusedVariables false
set_option linter.unusedSimpArgs false
namespace Go.Proofs.Yteccnnpcigkmhaa
open Go.RowKit

def cyc (es : List Exc) (i j : Int) : Int := match es.find? (fun e => e.f == i && e.t == j) with | some e => e.c | none => 1
theorem cyc_take {es : List Exc} {i j : Int} {m : Nat} (h : ∀ q, q < m → ¬ ((es.getD q exc0).f = i ∧ (es.getD q exc0).t = j)) : es.length ≤ m → cyc es i j = 1 := fun hm => by
  have : es.find? (fun e => e.f == i && e.t == j) = none := by
    rw [List.find?_eq_none]
    intro e he hx
    obtain ⟨q, hq, rfl⟩ := List.mem_iff_getElem.1 he
    refine h q (by omega) ?_
    rw [List.getD_eq_getElem?_getD, List.getElem?_eq_getElem hq]
    simpa using hx
  unfold cyc; rw [this]
theorem cyc_at {es : List Exc} {i j : Int} {m : Nat} (hm : m < es.length) (h : ∀ q, q < m → ¬ ((es.getD q exc0).f = i ∧ (es.getD q exc0).t = j)) (h1 : (es.getD m exc0).f = i) (h2 : (es.getD m exc0).t = j) : cyc es i j = (es.getD m exc0).c := by
  have : es.find? (fun e => e.f == i && e.t == j) = some (es.getD m exc0) := by
    rw [List.find?_eq_some_iff_getElem]
    refine ⟨by rw [Bool.and_eq_true, beq_iff_eq, beq_iff_eq]; exact ⟨h1, h2⟩, m, hm, by rw [List.getD_eq_getElem?_getD, List.getElem?_eq_getElem hm]; rfl, fun q hq => ?_⟩
    have := h q hq
    rw [List.getD_eq_getElem?_getD, List.getElem?_eq_getElem (by omega)] at this
    rw [Bool.not_eq_true', Bool.eq_false_iff]
    intro hx
    rw [Bool.and_eq_true, beq_iff_eq, beq_iff_eq] at hx
    exact this hx
  unfold cyc; rw [this]
theorem cyc_rng {es : List Exc} (h : ExsOk es) (i j : Int) : 0 ≤ cyc es i j ∧ cyc es i j ≤ 8 := by
  unfold cyc
  cases hf : es.find? (fun e => e.f == i && e.t == j) with
  | none => decide
  | some e =>
    obtain ⟨q, hq, he⟩ := List.mem_iff_getElem.1 (List.mem_of_find?_eq_some hf)
    have := h q hq
    rw [List.getD_eq_getElem?_getD, List.getElem?_eq_getElem hq] at this
    simp only [Option.getD_some, he] at this
    exact ⟨this.2.2.1, this.2.2.2⟩
/-- the least value over the launches so far -/
def best (gs : List Arc) (ls cs : List Pnt) (es : List Exc) (lg : Bool) (F : Pnt → Pnt → Int → Int → Int) (j : Nat) : Nat → Option Int
  | 0 => none
  | i + 1 =>
    let b := best gs ls cs es lg F j i
    let x := Dl lg gs (ls.getD i pnt0).n ((cs.getD j pnt0).n).toNat
    if x < 0 ∨ cyc es i j = 0 then b else
      let v := F (ls.getD i pnt0) (cs.getD j pnt0) x (cyc es i j)
      match b with | none => some v | some y => if v < y then some v else some y
theorem best_skip {gs : List Arc} {ls cs : List Pnt} {es : List Exc} {lg : Bool} {F : Pnt → Pnt → Int → Int → Int} {j i : Nat} (h : Dl lg gs (ls.getD i pnt0).n ((cs.getD j pnt0).n).toNat < 0 ∨ cyc es i j = 0) : best gs ls cs es lg F j (i + 1) = best gs ls cs es lg F j i := by
  show (if _ then _ else _) = _; rw [if_pos h]
theorem best_new {gs : List Arc} {ls cs : List Pnt} {es : List Exc} {lg : Bool} {F : Pnt → Pnt → Int → Int → Int} {j i : Nat} (h : ¬ Dl lg gs (ls.getD i pnt0).n ((cs.getD j pnt0).n).toNat < 0) (h2 : cyc es i j ≠ 0) : best gs ls cs es lg F j (i + 1) =
    match best gs ls cs es lg F j i with | none => some (F (ls.getD i pnt0) (cs.getD j pnt0) (Dl lg gs (ls.getD i pnt0).n ((cs.getD j pnt0).n).toNat) (cyc es i j)) | some y => if F (ls.getD i pnt0) (cs.getD j pnt0) (Dl lg gs (ls.getD i pnt0).n ((cs.getD j pnt0).n).toNat) (cyc es i j) < y then some (F (ls.getD i pnt0) (cs.getD j pnt0) (Dl lg gs (ls.getD i pnt0).n ((cs.getD j pnt0).n).toNat) (cyc es i j)) else some y := by
  show (if _ then _ else _) = _; rw [if_neg (by rintro (h3 | h3); exact h h3; exact h2 h3)]
/-- what stands in the two rows -/
def Held (o : Int) (s : Bool) (b : Option Int) : Prop := s = b.isSome ∧ o = b.getD 1000000
set_option maxHeartbeats 4000000 in
set_option maxRecDepth 100000 in
theorem PointsOk_yes (n : Int) (gs : List Arc) (v : Value) (ps : List Pnt) (pv : Value) (w : World) (hg : GOk n gs) (hv : RdsW w v 3 gs.length (gs.flatMap arcC)) (hp : PtsOk n ps) (hpl : ps.length ≤ 100) (hpv : RdsW w pv 2 ps.length (ps.flatMap pntC)) :
    Calls Try.prog 36 #[.agg #[.int .i64 n, v], pv] w (Ans w (.bool true)) := by
  obtain ⟨hn0, hn1, hgl, -⟩ := id hg
  refine calls_hc (N := 35) (args := [.agg #[.int .i64 n, v], pv]) Try.func36 rfl rfl ?_
  refine hc_less _ (sub_cons (d := 0) rfl (sub_cons (d := 1) rfl (sub_nil _))) (.refl _) ?_
  refine hc_seq ?_
  refine hc_region ?_
  refine hl_box rfl rfl rfl (rq_box rfl rfl) ?_
  intro b1
  refine hl_v rfl rfl rfl (rv_ev rfl) ?_
  refine hl_less (sub_cons (d := 0) rfl (sub_cons (d := 1) rfl (sub_cons (d := 2) rfl (sub_cons (d := 4) rfl (sub_nil _))))) (.refl _) ?_
  refine hl_nil ?_
  refine hq_then ?_
  refine hc_seq ?_
  refine hc_seq ?_
  refine hc_region ?_
  refine hl_v rfl rfl rfl (rv_loadN (cs := [.int .i64 n, v]) rfl (by kernel_rfl) (by kernel_rfl) rfl rfl (box_part 0 rfl 0 rfl)) ?_
  refine hl_callV rfl rfl rfl (rq_call (by kernel_rfl) rfl (fun w hm => ret_ans (implTimingOk_yes n gs v w hg (hv.below hm.bel)))) ?_
  refine hl_v rfl rfl rfl (rv_ev rfl) ?_
  refine hl_v rfl rfl rfl (rv_ev rfl) ?_
  refine hl_v rfl rfl rfl (rv_ev rfl) ?_
  refine hl_v rfl rfl rfl (rv_len rfl Try.underlying39 rfl (rd_old hpv)) ?_
  refine hl_gtr rfl rfl rfl rfl rfl rfl (fun h2 => absurd h2 (by omega)) (fun h2 => ?_)
  refine hl_v rfl rfl rfl (rv_ev rfl) ?_
  refine hl_less (sub_cons (d := 0) rfl (sub_cons (d := 1) rfl (sub_cons (d := 2) rfl (sub_cons (d := 4) rfl (sub_cons (d := 14) rfl (sub_nil _)))))) (.refl _) ?_
  refine hl_nil ?_
  refine hq_then ?_
  refine hc_false rfl ?_
  refine hc_skip ?_
  refine hq_then ?_
  refine hc_seq ?_
  refine hc_seq ?_
  refine hc_region ?_
  refine hl_v rfl rfl rfl (rv_ev rfl) ?_
  refine hl_v rfl rfl rfl (rv_len rfl Try.underlying39 rfl (rd_old hpv)) ?_
  refine hl_v rfl rfl rfl (rv_ev rfl) ?_
  refine hl_less (sub_cons (d := 0) rfl (sub_cons (d := 1) rfl (sub_cons (d := 2) rfl (sub_cons (d := 4) rfl (sub_cons (d := 14) rfl (sub_cons (d := 15) rfl (sub_cons (d := 16) rfl (sub_cons (d := 17) rfl (sub_nil _))))))))) (.refl _) ?_
  refine hl_nil ?_
  refine hq_then ?_
  refine hc_block ?_
  refine hc_loop1 (α := Nat) (fun j => [boxE b1 #[.int .i64 n, v] 38]) (fun j => [(0, .agg #[.int .i64 n, v]), (1, pv), (2, .pointer (some ⟨b1, 0, none⟩)), (4, .bool false), (14, .bool false), (15, pv), (16, .int .i64 (ps.length : Int)), (17, .int .i64 (j : Int))]) (fun j => j ≤ ps.length) (fun j => ps.length - j) 0 (Nat.zero_le _) (sub_cons (d := 0) rfl (sub_cons (d := 1) rfl (sub_cons (d := 2) rfl (sub_cons (d := 4) rfl (sub_cons (d := 14) rfl (sub_cons (d := 15) rfl (sub_cons (d := 16) rfl (sub_cons (d := 17) rfl (sub_nil _))))))))) ((.cons_cons _ .slnil)) ?_
  intro j hi3
  have hj := hi3
  refine hc_seq ?_
  refine hc_region ?_
  refine hl_lss rfl rfl rfl rfl rfl rfl (fun h4 => ?_) (fun h4 => ?_)
  ·
    refine hl_less (sub_cons (d := 0) rfl (sub_cons (d := 1) rfl (sub_cons (d := 2) rfl (sub_cons (d := 4) rfl (sub_cons (d := 14) rfl (sub_cons (d := 15) rfl (sub_cons (d := 16) rfl (sub_cons (d := 17) rfl (sub_cons (d := 18) rfl (sub_nil _)))))))))) (.refl _) ?_
    refine hl_nil ?_
    refine hq_then ?_
    refine hc_seq ?_
    refine hc_true rfl ?_
    refine hc_skip ?_
    refine hq_then ?_
    refine hc_seq ?_
    refine hc_block ?_
    refine hc_seq ?_
    refine hc_region ?_
    refine hl_v rfl rfl rfl (rv_index (s := 2) rfl Try.underlying39 (by kernel_rfl) rfl rfl (rd_old hpv) (by omega) (by first | omega | (simp only [List.length_set]; omega))) ?_
    refine hl_v rfl rfl rfl (rv_loadElN (us := [.int .i64 ((ps.getD j pnt0).n), .int .i64 ((ps.getD j pnt0).s)]) rfl (by kernel_rfl) (by kernel_rfl) rfl (rd_old hpv) (by omega) rfl (flat_atN pntC 2 (fun _ => rfl) ps pnt0 (show j < _ by first | omega | (simp only [List.length_set]; omega)) rfl)) ?_
    refine hl_box rfl rfl rfl (rq_alloc (z := .agg #[.int .i64 0, .int .i64 0]) rfl (by kernel_rfl)) ?_
    intro b5
    refine hl_storeBoxN (i := 0) (off := 0) (us := [.int .i64 ((ps.getD j pnt0).n), .int .i64 ((ps.getD j pnt0).s)]) (l' := [boxE b5 #[.int .i64 ((ps.getD j pnt0).n), .int .i64 ((ps.getD j pnt0).s)] 47, boxE b1 #[.int .i64 n, v] 38]) rfl rfl rfl (by kernel_rfl) rfl rfl rfl (all_cons rfl (all_cons rfl all_nil)) rfl rfl rfl ?_
    refine hl_less (sub_cons (d := 0) rfl (sub_cons (d := 1) rfl (sub_cons (d := 2) rfl (sub_cons (d := 4) rfl (sub_cons (d := 6) rfl (sub_cons (d := 14) rfl (sub_cons (d := 15) rfl (sub_cons (d := 16) rfl (sub_cons (d := 17) rfl (sub_cons (d := 18) rfl (sub_nil _))))))))))) (.refl _) ?_
    refine hl_nil ?_
    refine hq_then ?_
    refine hc_seq ?_
    refine hc_region ?_
    have hpj := hp j (by omega)
    refine hl_v rfl rfl rfl (rv_field (k0 := 0) rfl (by kernel_rfl) rfl) ?_
    refine hl_v rfl rfl rfl (rv_load rfl (by kernel_rfl) rfl (box_cell 0 rfl rfl)) ?_
    refine hl_v rfl rfl rfl (rv_field (k0 := 0) rfl (by kernel_rfl) rfl) ?_
    refine hl_v rfl rfl rfl (rv_load rfl (by kernel_rfl) rfl (box_cell 1 rfl rfl)) ?_
    refine hl_v rfl rfl rfl (rv_sub rfl rfl rfl (by constructor <;> omega)) ?_
    refine hl_callV rfl rfl rfl (rq_call (by kernel_rfl) rfl (fun w hm => ret_ans (inr_yes2 (by omega) (by omega) w))) ?_
    refine hl_v rfl rfl rfl (rv_ev rfl) ?_
    refine hl_v rfl rfl rfl (rv_ev rfl) ?_
    refine hl_v rfl rfl rfl (rv_field (k0 := 1) rfl (by kernel_rfl) rfl) ?_
    refine hl_v rfl rfl rfl (rv_load rfl (by kernel_rfl) rfl (box_cell 0 rfl rfl)) ?_
    refine hl_callV rfl rfl rfl (rq_call (by kernel_rfl) rfl (fun w hm => ret_ans (inr_yes2 (by omega) (by omega) w))) ?_
    refine hl_v rfl rfl rfl (rv_ev rfl) ?_
    refine hl_v rfl rfl rfl (rv_ev rfl) ?_
    refine hl_less (sub_cons (d := 0) rfl (sub_cons (d := 1) rfl (sub_cons (d := 2) rfl (sub_cons (d := 4) rfl (sub_cons (d := 6) rfl (sub_cons (d := 14) rfl (sub_cons (d := 15) rfl (sub_cons (d := 16) rfl (sub_cons (d := 17) rfl (sub_cons (d := 18) rfl (sub_cons (d := 33) rfl (sub_nil _)))))))))))) (.refl _) ?_
    refine hl_nil ?_
    refine hq_then ?_
    refine hc_false rfl ?_
    refine hc_skip ?_
    refine hq_block_normal ?_
    refine hq_then ?_
    refine hc_region ?_
    refine hl_v rfl rfl rfl (rv_add rfl rfl rfl (by constructor <;> omega)) ?_
    refine hl_v rfl rfl rfl (rv_ev rfl) ?_
    refine hl_less (sub_cons (d := 0) rfl (sub_cons (d := 1) rfl (sub_cons (d := 2) rfl (sub_cons (d := 4) rfl (sub_cons (d := 6) rfl (sub_cons (d := 14) rfl (sub_cons (d := 15) rfl (sub_cons (d := 16) rfl (sub_cons (d := 17) rfl (sub_cons (d := 18) rfl (sub_cons (d := 33) rfl (sub_nil _)))))))))))) (.refl _) ?_
    refine hl_nil ?_
    exact hq_round1 (j + 1) (by omega) (by omega) (sub_cons (d := 0) rfl (sub_cons (d := 1) rfl (sub_cons (d := 2) rfl (sub_cons (d := 4) rfl (sub_cons (d := 14) rfl (sub_cons (d := 15) rfl (sub_cons (d := 16) rfl (sub_cons (d := 17) rfl (sub_nil _))))))))) ((.cons _ (.cons_cons _ .slnil)))
  ·
    refine hl_less (sub_cons (d := 0) rfl (sub_cons (d := 1) rfl (sub_cons (d := 2) rfl (sub_cons (d := 4) rfl (sub_cons (d := 14) rfl (sub_cons (d := 15) rfl (sub_cons (d := 16) rfl (sub_cons (d := 17) rfl (sub_cons (d := 18) rfl (sub_nil _)))))))))) (.refl _) ?_
    refine hl_nil ?_
    refine hq_then ?_
    refine hc_seq ?_
    refine hc_false rfl ?_
    refine hc_exit ?_
    refine hq_then_exit ?_
    refine hq_then_exit ?_
    refine hq_block_exit ?_
    refine hq_then ?_
    refine hc_seq ?_
    refine hc_region ?_
    refine hl_v rfl rfl rfl (rv_ev rfl) ?_
    refine hl_less (sub_cons (d := 0) rfl (sub_cons (d := 1) rfl (sub_cons (d := 2) rfl (sub_cons (d := 4) rfl (sub_cons (d := 14) rfl (sub_cons (d := 15) rfl (sub_cons (d := 16) rfl (sub_cons (d := 17) rfl (sub_cons (d := 18) rfl (sub_nil _)))))))))) (.refl _) ?_
    refine hl_nil ?_
    refine hq_then ?_
    refine hc_ret ?_
    exact hq_ans rfl rfl rfl
set_option maxHeartbeats 4000000 in
set_option maxRecDepth 100000 in
theorem exceptionsOk_yes (es : List Exc) (v : Value) (w : World) (he : ExsOk es) (hel : es.length ≤ 50) (hv : RdsW w v 3 es.length (es.flatMap excC)) :
    Calls Try.prog 37 #[v] w (Ans w (.bool true)) := by
  refine calls_hc (N := 29) (args := [v]) Try.func37 rfl rfl ?_
  refine hc_less _ (sub_cons (d := 0) rfl (sub_nil _)) (.refl _) ?_
  refine hc_seq ?_
  refine hc_region ?_
  refine hl_v rfl rfl rfl (rv_ev rfl) ?_
  refine hl_less (sub_cons (d := 0) rfl (sub_cons (d := 2) rfl (sub_nil _))) (.refl _) ?_
  refine hl_nil ?_
  refine hq_then ?_
  refine hc_seq ?_
  refine hc_seq ?_
  refine hc_region ?_
  refine hl_v rfl rfl rfl (rv_ev rfl) ?_
  refine hl_v rfl rfl rfl (rv_len rfl Try.underlying40 rfl (rd_old hv)) ?_
  refine hl_gtr rfl rfl rfl rfl rfl rfl (fun h1 => absurd h1 (by omega)) (fun h1 => ?_)
  refine hl_less (sub_cons (d := 0) rfl (sub_cons (d := 2) rfl (sub_cons (d := 7) rfl (sub_nil _)))) (.refl _) ?_
  refine hl_nil ?_
  refine hq_then ?_
  refine hc_false rfl ?_
  refine hc_skip ?_
  refine hq_then ?_
  refine hc_seq ?_
  refine hc_seq ?_
  refine hc_region ?_
  refine hl_v rfl rfl rfl (rv_ev rfl) ?_
  refine hl_v rfl rfl rfl (rv_len rfl Try.underlying40 rfl (rd_old hv)) ?_
  refine hl_v rfl rfl rfl (rv_ev rfl) ?_
  refine hl_less (sub_cons (d := 0) rfl (sub_cons (d := 2) rfl (sub_cons (d := 7) rfl (sub_cons (d := 8) rfl (sub_cons (d := 9) rfl (sub_cons (d := 10) rfl (sub_nil _))))))) (.refl _) ?_
  refine hl_nil ?_
  refine hq_then ?_
  refine hc_block ?_
  refine hc_loop1 (α := Nat) (fun j => []) (fun j => [(0, v), (2, .bool false), (7, .bool false), (8, v), (9, .int .i64 (es.length : Int)), (10, .int .i64 (j : Int))]) (fun j => j ≤ es.length) (fun j => es.length - j) 0 (Nat.zero_le _) (sub_cons (d := 0) rfl (sub_cons (d := 2) rfl (sub_cons (d := 7) rfl (sub_cons (d := 8) rfl (sub_cons (d := 9) rfl (sub_cons (d := 10) rfl (sub_nil _))))))) (.slnil) ?_
  intro j hi2
  have hj := hi2
  refine hc_seq ?_
  refine hc_region ?_
  refine hl_lss rfl rfl rfl rfl rfl rfl (fun h3 => ?_) (fun h3 => ?_)
  ·
    refine hl_less (sub_cons (d := 0) rfl (sub_cons (d := 2) rfl (sub_cons (d := 7) rfl (sub_cons (d := 8) rfl (sub_cons (d := 9) rfl (sub_cons (d := 10) rfl (sub_cons (d := 11) rfl (sub_nil _)))))))) (.refl _) ?_
    refine hl_nil ?_
    refine hq_then ?_
    refine hc_seq ?_
    refine hc_true rfl ?_
    refine hc_skip ?_
    refine hq_then ?_
    refine hc_seq ?_
    refine hc_block ?_
    refine hc_seq ?_
    refine hc_region ?_
    refine hl_v rfl rfl rfl (rv_index (s := 3) rfl Try.underlying40 (by kernel_rfl) rfl rfl (rd_old hv) (by omega) (by first | omega | (simp only [List.length_set]; omega))) ?_
    refine hl_v rfl rfl rfl (rv_loadElN (us := [.int .i64 ((es.getD j exc0).f), .int .i64 ((es.getD j exc0).t), .int .i64 ((es.getD j exc0).c)]) rfl (by kernel_rfl) (by kernel_rfl) rfl (rd_old hv) (by omega) rfl (flat_atN excC 3 (fun _ => rfl) es exc0 (show j < _ by first | omega | (simp only [List.length_set]; omega)) rfl)) ?_
    refine hl_box rfl rfl rfl (rq_alloc (z := .agg #[.int .i64 0, .int .i64 0, .int .i64 0]) rfl (by kernel_rfl)) ?_
    intro b4
    refine hl_storeBoxN (i := 0) (off := 0) (us := [.int .i64 ((es.getD j exc0).f), .int .i64 ((es.getD j exc0).t), .int .i64 ((es.getD j exc0).c)]) (l' := [boxE b4 #[.int .i64 ((es.getD j exc0).f), .int .i64 ((es.getD j exc0).t), .int .i64 ((es.getD j exc0).c)] 72]) rfl rfl rfl (by kernel_rfl) rfl rfl rfl (all_cons rfl (all_cons rfl (all_cons rfl all_nil))) rfl rfl rfl ?_
    refine hl_less (sub_cons (d := 0) rfl (sub_cons (d := 2) rfl (sub_cons (d := 4) rfl (sub_cons (d := 7) rfl (sub_cons (d := 8) rfl (sub_cons (d := 9) rfl (sub_cons (d := 10) rfl (sub_cons (d := 11) rfl (sub_nil _))))))))) (.refl _) ?_
    refine hl_nil ?_
    refine hq_then ?_
    refine hc_seq ?_
    refine hc_region ?_
    have hej := he j (by omega)
    refine hl_v rfl rfl rfl (rv_field (k0 := 0) rfl (by kernel_rfl) rfl) ?_
    refine hl_v rfl rfl rfl (rv_load rfl (by kernel_rfl) rfl (box_cell 0 rfl rfl)) ?_
    refine hl_lss rfl rfl rfl rfl rfl rfl (fun h5 => absurd h5 (by omega)) (fun h5 => ?_)
    refine hl_v rfl rfl rfl (rv_ev rfl) ?_
    refine hl_v rfl rfl rfl (rv_field (k0 := 1) rfl (by kernel_rfl) rfl) ?_
    refine hl_v rfl rfl rfl (rv_load rfl (by kernel_rfl) rfl (box_cell 0 rfl rfl)) ?_
    refine hl_lss rfl rfl rfl rfl rfl rfl (fun h6 => absurd h6 (by omega)) (fun h6 => ?_)
    refine hl_v rfl rfl rfl (rv_ev rfl) ?_
    refine hl_v rfl rfl rfl (rv_ev rfl) ?_
    refine hl_v rfl rfl rfl (rv_field (k0 := 2) rfl (by kernel_rfl) rfl) ?_
    refine hl_v rfl rfl rfl (rv_load rfl (by kernel_rfl) rfl (box_cell 0 rfl rfl)) ?_
    refine hl_callV rfl rfl rfl (rq_call (by kernel_rfl) rfl (fun w hm => ret_ans (inr_yes2 (by omega) (by omega) w))) ?_
    refine hl_v rfl rfl rfl (rv_ev rfl) ?_
    refine hl_v rfl rfl rfl (rv_ev rfl) ?_
    refine hl_less (sub_cons (d := 0) rfl (sub_cons (d := 2) rfl (sub_cons (d := 4) rfl (sub_cons (d := 7) rfl (sub_cons (d := 8) rfl (sub_cons (d := 9) rfl (sub_cons (d := 10) rfl (sub_cons (d := 11) rfl (sub_cons (d := 27) rfl (sub_nil _)))))))))) (.refl _) ?_
    refine hl_nil ?_
    refine hq_then ?_
    refine hc_false rfl ?_
    refine hc_skip ?_
    refine hq_block_normal ?_
    refine hq_then ?_
    refine hc_region ?_
    refine hl_v rfl rfl rfl (rv_add rfl rfl rfl (by constructor <;> omega)) ?_
    refine hl_v rfl rfl rfl (rv_ev rfl) ?_
    refine hl_less (sub_cons (d := 0) rfl (sub_cons (d := 2) rfl (sub_cons (d := 4) rfl (sub_cons (d := 7) rfl (sub_cons (d := 8) rfl (sub_cons (d := 9) rfl (sub_cons (d := 10) rfl (sub_cons (d := 11) rfl (sub_cons (d := 27) rfl (sub_nil _)))))))))) (.refl _) ?_
    refine hl_nil ?_
    exact hq_round1 (j + 1) (by omega) (by omega) (sub_cons (d := 0) rfl (sub_cons (d := 2) rfl (sub_cons (d := 7) rfl (sub_cons (d := 8) rfl (sub_cons (d := 9) rfl (sub_cons (d := 10) rfl (sub_nil _))))))) ((.cons _ .slnil))
  ·
    refine hl_less (sub_cons (d := 0) rfl (sub_cons (d := 2) rfl (sub_cons (d := 7) rfl (sub_cons (d := 8) rfl (sub_cons (d := 9) rfl (sub_cons (d := 10) rfl (sub_cons (d := 11) rfl (sub_nil _)))))))) (.refl _) ?_
    refine hl_nil ?_
    refine hq_then ?_
    refine hc_seq ?_
    refine hc_false rfl ?_
    refine hc_exit ?_
    refine hq_then_exit ?_
    refine hq_then_exit ?_
    refine hq_block_exit ?_
    refine hq_then ?_
    refine hc_seq ?_
    refine hc_region ?_
    refine hl_v rfl rfl rfl (rv_ev rfl) ?_
    refine hl_less (sub_cons (d := 0) rfl (sub_cons (d := 2) rfl (sub_cons (d := 7) rfl (sub_cons (d := 8) rfl (sub_cons (d := 9) rfl (sub_cons (d := 10) rfl (sub_cons (d := 11) rfl (sub_nil _)))))))) (.refl _) ?_
    refine hl_nil ?_
    refine hq_then ?_
    refine hc_ret ?_
    exact hq_ans rfl rfl rfl
set_option maxHeartbeats 4000000 in
set_option maxRecDepth 100000 in
theorem cyclesOf_ans (es : List Exc) (v : Value) (i j : Int) (w : World) (hel : es.length ≤ 50) (hv : RdsW w v 3 es.length (es.flatMap excC)) :
    Calls Try.prog 60 #[v, .int .i64 i, .int .i64 j] w (Ans w (.int .i64 (cyc es i j))) := by
  refine calls_hc (N := 28) (args := [v, .int .i64 i, .int .i64 j]) Try.func60 rfl rfl ?_
  refine hc_less _ (sub_cons (d := 0) rfl (sub_cons (d := 1) rfl (sub_cons (d := 2) rfl (sub_nil _)))) (.refl _) ?_
  refine hc_seq ?_
  refine hc_region ?_
  refine hl_v rfl rfl rfl (rv_ev rfl) ?_
  refine hl_less (sub_cons (d := 0) rfl (sub_cons (d := 1) rfl (sub_cons (d := 2) rfl (sub_cons (d := 6) rfl (sub_nil _))))) (.refl _) ?_
  refine hl_nil ?_
  refine hq_then ?_
  refine hc_seq ?_
  refine hc_seq ?_
  refine hc_region ?_
  refine hl_v rfl rfl rfl (rv_ev rfl) ?_
  refine hl_v rfl rfl rfl (rv_len rfl Try.underlying40 rfl (rd_old hv)) ?_
  refine hl_v rfl rfl rfl (rv_ev rfl) ?_
  refine hl_less (sub_cons (d := 0) rfl (sub_cons (d := 1) rfl (sub_cons (d := 2) rfl (sub_cons (d := 6) rfl (sub_cons (d := 9) rfl (sub_cons (d := 10) rfl (sub_cons (d := 11) rfl (sub_nil _)))))))) (.refl _) ?_
  refine hl_nil ?_
  refine hq_then ?_
  refine hc_block ?_
  refine hc_loop1 (α := Nat) (fun m => []) (fun m => [(0, v), (1, .int .i64 i), (2, .int .i64 j), (6, .int .i64 0), (9, v), (10, .int .i64 (es.length : Int)), (11, .int .i64 (m : Int))]) (fun m => m ≤ es.length ∧ (∀ q, q < m → ¬ ((es.getD q exc0).f = i ∧ (es.getD q exc0).t = j))) (fun m => es.length - m) 0 ⟨by omega, fun q hq => absurd hq (by omega)⟩ (sub_cons (d := 0) rfl (sub_cons (d := 1) rfl (sub_cons (d := 2) rfl (sub_cons (d := 6) rfl (sub_cons (d := 9) rfl (sub_cons (d := 10) rfl (sub_cons (d := 11) rfl (sub_nil _)))))))) (.slnil) ?_
  intro m hi1
  obtain ⟨hm, hno⟩ := hi1
  refine hc_seq ?_
  refine hc_region ?_
  refine hl_lss rfl rfl rfl rfl rfl rfl (fun h2 => ?_) (fun h2 => ?_)
  ·
    refine hl_less (sub_cons (d := 0) rfl (sub_cons (d := 1) rfl (sub_cons (d := 2) rfl (sub_cons (d := 6) rfl (sub_cons (d := 9) rfl (sub_cons (d := 10) rfl (sub_cons (d := 11) rfl (sub_cons (d := 12) rfl (sub_nil _))))))))) (.refl _) ?_
    refine hl_nil ?_
    refine hq_then ?_
    refine hc_seq ?_
    refine hc_true rfl ?_
    refine hc_skip ?_
    refine hq_then ?_
    refine hc_seq ?_
    refine hc_block ?_
    refine hc_seq ?_
    refine hc_region ?_
    refine hl_v rfl rfl rfl (rv_index (s := 3) rfl Try.underlying40 (by kernel_rfl) rfl rfl (rd_old hv) (by omega) (by first | omega | (simp only [List.length_set]; omega))) ?_
    refine hl_v rfl rfl rfl (rv_loadElN (us := [.int .i64 ((es.getD m exc0).f), .int .i64 ((es.getD m exc0).t), .int .i64 ((es.getD m exc0).c)]) rfl (by kernel_rfl) (by kernel_rfl) rfl (rd_old hv) (by omega) rfl (flat_atN excC 3 (fun _ => rfl) es exc0 (show m < _ by first | omega | (simp only [List.length_set]; omega)) rfl)) ?_
    refine hl_box rfl rfl rfl (rq_alloc (z := .agg #[.int .i64 0, .int .i64 0, .int .i64 0]) rfl (by kernel_rfl)) ?_
    intro b3
    refine hl_storeBoxN (i := 0) (off := 0) (us := [.int .i64 ((es.getD m exc0).f), .int .i64 ((es.getD m exc0).t), .int .i64 ((es.getD m exc0).c)]) (l' := [boxE b3 #[.int .i64 ((es.getD m exc0).f), .int .i64 ((es.getD m exc0).t), .int .i64 ((es.getD m exc0).c)] 72]) rfl rfl rfl (by kernel_rfl) rfl rfl rfl (all_cons rfl (all_cons rfl (all_cons rfl all_nil))) rfl rfl rfl ?_
    refine hl_less (sub_cons (d := 0) rfl (sub_cons (d := 1) rfl (sub_cons (d := 2) rfl (sub_cons (d := 6) rfl (sub_cons (d := 8) rfl (sub_cons (d := 9) rfl (sub_cons (d := 10) rfl (sub_cons (d := 11) rfl (sub_cons (d := 12) rfl (sub_nil _)))))))))) (.refl _) ?_
    refine hl_nil ?_
    refine hq_then ?_
    refine hc_seq ?_
    refine hc_region ?_
    refine hl_v rfl rfl rfl (rv_field (k0 := 0) rfl (by kernel_rfl) rfl) ?_
    refine hl_v rfl rfl rfl (rv_load rfl (by kernel_rfl) rfl (box_cell 0 rfl rfl)) ?_
    refine hl_v rfl rfl rfl (rv_ev rfl) ?_
    refine hl_eql rfl rfl rfl rfl rfl rfl (fun h4 => ?_) (fun h4 => ?_)
    ·
      refine hl_v rfl rfl rfl (rv_ev rfl) ?_
      refine hl_v rfl rfl rfl (rv_field (k0 := 1) rfl (by kernel_rfl) rfl) ?_
      refine hl_v rfl rfl rfl (rv_load rfl (by kernel_rfl) rfl (box_cell 0 rfl rfl)) ?_
      refine hl_v rfl rfl rfl (rv_ev rfl) ?_
      refine hl_eql rfl rfl rfl rfl rfl rfl (fun h5 => ?_) (fun h5 => ?_)
      ·
        refine hl_v rfl rfl rfl (rv_ev rfl) ?_
        refine hl_less (sub_cons (d := 0) rfl (sub_cons (d := 1) rfl (sub_cons (d := 2) rfl (sub_cons (d := 6) rfl (sub_cons (d := 8) rfl (sub_cons (d := 9) rfl (sub_cons (d := 10) rfl (sub_cons (d := 11) rfl (sub_cons (d := 12) rfl (sub_cons (d := 24) rfl (sub_nil _))))))))))) (.refl _) ?_
        refine hl_nil ?_
        refine hq_then ?_
        refine hc_true rfl ?_
        refine hc_seq ?_
        refine hc_region ?_
        refine hl_v rfl rfl rfl (rv_field (k0 := 2) rfl (by kernel_rfl) rfl) ?_
        refine hl_v rfl rfl rfl (rv_load rfl (by kernel_rfl) rfl (box_cell 0 rfl rfl)) ?_
        refine hl_v rfl rfl rfl (rv_ev rfl) ?_
        refine hl_less (sub_cons (d := 0) rfl (sub_cons (d := 1) rfl (sub_cons (d := 2) rfl (sub_cons (d := 6) rfl (sub_cons (d := 8) rfl (sub_cons (d := 9) rfl (sub_cons (d := 10) rfl (sub_cons (d := 11) rfl (sub_cons (d := 12) rfl (sub_cons (d := 24) rfl (sub_nil _))))))))))) (.refl _) ?_
        refine hl_nil ?_
        refine hq_then ?_
        refine hc_ret ?_
        refine hq_block_ret ?_
        refine hq_then_ret ?_
        refine hq_then_ret ?_
        refine hq_block_ret ?_
        refine hq_then_ret ?_
        exact hq_ans rfl rfl (by rw [cyc_at (by omega) hno (by assumption) (by assumption)] <;> rfl)
      ·
        refine hl_v rfl rfl rfl (rv_ev rfl) ?_
        refine hl_less (sub_cons (d := 0) rfl (sub_cons (d := 1) rfl (sub_cons (d := 2) rfl (sub_cons (d := 6) rfl (sub_cons (d := 8) rfl (sub_cons (d := 9) rfl (sub_cons (d := 10) rfl (sub_cons (d := 11) rfl (sub_cons (d := 12) rfl (sub_cons (d := 24) rfl (sub_nil _))))))))))) (.refl _) ?_
        refine hl_nil ?_
        refine hq_then ?_
        refine hc_false rfl ?_
        refine hc_skip ?_
        refine hq_block_normal ?_
        refine hq_then ?_
        refine hc_region ?_
        refine hl_v rfl rfl rfl (rv_add rfl rfl rfl (by constructor <;> omega)) ?_
        refine hl_v rfl rfl rfl (rv_ev rfl) ?_
        refine hl_less (sub_cons (d := 0) rfl (sub_cons (d := 1) rfl (sub_cons (d := 2) rfl (sub_cons (d := 6) rfl (sub_cons (d := 8) rfl (sub_cons (d := 9) rfl (sub_cons (d := 10) rfl (sub_cons (d := 11) rfl (sub_cons (d := 12) rfl (sub_cons (d := 24) rfl (sub_nil _))))))))))) (.refl _) ?_
        refine hl_nil ?_
        exact hq_round1 (m + 1) ⟨by omega, fun q hq hx => by by_cases hqm : q = m; (subst hqm; first | exact absurd hx.1 (by assumption) | exact absurd hx.2 (by assumption)); exact hno q (by omega) hx⟩ (by omega) (sub_cons (d := 0) rfl (sub_cons (d := 1) rfl (sub_cons (d := 2) rfl (sub_cons (d := 6) rfl (sub_cons (d := 9) rfl (sub_cons (d := 10) rfl (sub_cons (d := 11) rfl (sub_nil _)))))))) ((.cons _ .slnil))
    ·
      refine hl_v rfl rfl rfl (rv_ev rfl) ?_
      refine hl_skip rfl rfl rfl ?_
      refine hl_skip rfl rfl rfl ?_
      refine hl_skip rfl rfl rfl ?_
      refine hl_skip rfl rfl rfl ?_
      refine hl_v rfl rfl rfl (rv_ev rfl) ?_
      refine hl_less (sub_cons (d := 0) rfl (sub_cons (d := 1) rfl (sub_cons (d := 2) rfl (sub_cons (d := 6) rfl (sub_cons (d := 8) rfl (sub_cons (d := 9) rfl (sub_cons (d := 10) rfl (sub_cons (d := 11) rfl (sub_cons (d := 12) rfl (sub_cons (d := 24) rfl (sub_nil _))))))))))) (.refl _) ?_
      refine hl_nil ?_
      refine hq_then ?_
      refine hc_false rfl ?_
      refine hc_skip ?_
      refine hq_block_normal ?_
      refine hq_then ?_
      refine hc_region ?_
      refine hl_v rfl rfl rfl (rv_add rfl rfl rfl (by constructor <;> omega)) ?_
      refine hl_v rfl rfl rfl (rv_ev rfl) ?_
      refine hl_less (sub_cons (d := 0) rfl (sub_cons (d := 1) rfl (sub_cons (d := 2) rfl (sub_cons (d := 6) rfl (sub_cons (d := 8) rfl (sub_cons (d := 9) rfl (sub_cons (d := 10) rfl (sub_cons (d := 11) rfl (sub_cons (d := 12) rfl (sub_cons (d := 24) rfl (sub_nil _))))))))))) (.refl _) ?_
      refine hl_nil ?_
      exact hq_round1 (m + 1) ⟨by omega, fun q hq hx => by by_cases hqm : q = m; (subst hqm; first | exact absurd hx.1 (by assumption) | exact absurd hx.2 (by assumption)); exact hno q (by omega) hx⟩ (by omega) (sub_cons (d := 0) rfl (sub_cons (d := 1) rfl (sub_cons (d := 2) rfl (sub_cons (d := 6) rfl (sub_cons (d := 9) rfl (sub_cons (d := 10) rfl (sub_cons (d := 11) rfl (sub_nil _)))))))) ((.cons _ .slnil))
  ·
    refine hl_less (sub_cons (d := 0) rfl (sub_cons (d := 1) rfl (sub_cons (d := 2) rfl (sub_cons (d := 6) rfl (sub_cons (d := 9) rfl (sub_cons (d := 10) rfl (sub_cons (d := 11) rfl (sub_cons (d := 12) rfl (sub_nil _))))))))) (.refl _) ?_
    refine hl_nil ?_
    refine hq_then ?_
    refine hc_seq ?_
    refine hc_false rfl ?_
    refine hc_exit ?_
    refine hq_then_exit ?_
    refine hq_then_exit ?_
    refine hq_block_exit ?_
    refine hq_then ?_
    refine hc_seq ?_
    refine hc_region ?_
    refine hl_v rfl rfl rfl (rv_ev rfl) ?_
    refine hl_less (sub_cons (d := 0) rfl (sub_cons (d := 1) rfl (sub_cons (d := 2) rfl (sub_cons (d := 6) rfl (sub_cons (d := 9) rfl (sub_cons (d := 10) rfl (sub_cons (d := 11) rfl (sub_cons (d := 12) rfl (sub_nil _))))))))) (.refl _) ?_
    refine hl_nil ?_
    refine hq_then ?_
    refine hc_ret ?_
    exact hq_ans rfl rfl (by rw [cyc_take hno (by omega)] <;> rfl)
end Go.Proofs.Yteccnnpcigkmhaa
