/- Drawn timing graphs: the walks. -/
import Derived.Test.YteccnnpcigkmhaaTim1
set_option linter.unusedVariables false
set_option linter.unusedSimpArgs false
namespace Go.Proofs.Yteccnnpcigkmhaa
open Go.RowKit

structure Pnt where
  n : Int
  s : Int
abbrev pnt0 : Pnt := ⟨0, 0⟩
def pntC (p : Pnt) : List Value := [.int .i64 p.n, .int .i64 p.s]
structure Exc where
  f : Int
  t : Int
  c : Int
abbrev exc0 : Exc := ⟨0, 0, 0⟩
def excC (e : Exc) : List Value := [.int .i64 e.f, .int .i64 e.t, .int .i64 e.c]
def PtsOk (n : Int) (ps : List Pnt) : Prop := ∀ i, i < ps.length → (0 ≤ (ps.getD i pnt0).n ∧ (ps.getD i pnt0).n < n) ∧ 0 ≤ (ps.getD i pnt0).s ∧ (ps.getD i pnt0).s ≤ 50
def ExsOk (es : List Exc) : Prop := ∀ i, i < es.length → 0 ≤ (es.getD i exc0).f ∧ 0 ≤ (es.getD i exc0).t ∧ 0 ≤ (es.getD i exc0).c ∧ (es.getD i exc0).c ≤ 8
theorem getD_snoc {α : Type} {l : List α} {a d : α} {i : Nat} (h : i < (l ++ [a]).length) : (l ++ [a]).getD i d = a ∧ i = l.length ∨ i < l.length ∧ (l ++ [a]).getD i d = l.getD i d := by
  rw [List.length_append, List.length_singleton] at h
  by_cases hi : i < l.length
  · right; exact ⟨hi, by rw [List.getD_eq_getElem?_getD, List.getElem?_append_left hi, ← List.getD_eq_getElem?_getD]⟩
  · left; exact ⟨by rw [List.getD_eq_getElem?_getD, List.getElem?_append_right (by omega), show i - l.length = 0 by omega]; rfl, by omega⟩
theorem pts_app {n : Int} {ps : List Pnt} {p : Pnt} (h : PtsOk n ps) (hp : (0 ≤ p.n ∧ p.n < n) ∧ 0 ≤ p.s ∧ p.s ≤ 50) : PtsOk n (ps ++ [p]) := fun i hi => by
  rcases getD_snoc (d := pnt0) hi with ⟨e, -⟩ | ⟨h2, e⟩ <;> rw [e]
  · exact hp
  · exact h i h2
theorem exs_app {es : List Exc} {e : Exc} (h : ExsOk es) (he : 0 ≤ e.f ∧ 0 ≤ e.t ∧ 0 ≤ e.c ∧ e.c ≤ 8) : ExsOk (es ++ [e]) := fun i hi => by
  rcases getD_snoc (d := exc0) hi with ⟨e, -⟩ | ⟨h2, e⟩ <;> rw [e]
  · exact he
  · exact h i h2
theorem gok_nil {n : Int} (h : 1 ≤ n ∧ n ≤ 500) : GOk n [] := ⟨h.1, h.2, by simp, by simp⟩
theorem gok_app {n : Int} {gs : List Arc} {a : Arc} (h : GOk n gs) (hl : gs.length < 2000) (ha : ArcOk n a) : GOk n (gs ++ [a]) := ⟨h.n0, h.n1, by rw [List.length_append, List.length_singleton]; omega, fun x hx => by
  rcases List.mem_append.1 hx with hx | hx
  · exact h.ok x hx
  · rw [List.mem_singleton.1 hx]; exact ha⟩
set_option maxHeartbeats 4000000 in
set_option maxRecDepth 100000 in
theorem l36Graph_mut (g : Nat) (a : Option Addr) (len cap : Nat) (z : List Int) (w0 : World) (l : List HP) (w : World) (hm0 : Mem w0 (curE g a len cap :: l) w) (hb : BRow .u8 w0 a len cap z) :
    Calls Try.prog 35 #[.pointer (some ⟨g, 0, none⟩)] w (fun e_ w_ => ∃ v_ p_, e_ = .returned v_ ∧ (fun u_ p_ => ∃ (n : Int) (u : Value) (gs : List Arc), u_ = .agg #[.int .i64 n, u] ∧ p_ = bigE [curE g a len cap, rowE 82 3 u gs.length (gs.flatMap arcC)] ∧ GOk n gs ∧ (2 ≤ n ∧ n ≤ 9) ∧ gs.length ≤ 15) v_ p_ ∧ Mem w0 (p_ :: l) w_) := by
  refine calls_hcM (N := 35) (args := [.pointer (some ⟨g, 0, none⟩)]) Try.func35 rfl rfl hm0 ?_
  refine hc_less _ (sub_cons (d := 0) rfl (sub_nil _)) (.refl _) ?_
  refine hc_seq ?_
  refine hc_region ?_
  refine hl_box rfl rfl rfl (rq_alloc (z := .agg #[.int .i64 0, .slice none 0 0]) rfl (by kernel_rfl)) ?_
  intro b1
  refine hl_less (sub_cons (d := 0) rfl (sub_cons (d := 2) rfl (sub_nil _))) (.refl _) ?_
  refine hl_nil ?_
  refine hq_then ?_
  refine hc_seq ?_
  refine hc_region ?_
  refine hl_v rfl rfl rfl (rv_ev rfl) ?_
  refine hl_callM (R := (fun u_ p_ => (∃ x_ : Int, u_ = .int .i64 x_ ∧ 0 ≤ x_ ∧ x_ < 8) ∧ p_ = curE g a len cap)) 1 rfl rfl (by kernel_rfl) rfl rfl (fun l' w hm => belowN_mut g a len cap z 8 _ _ _ hm hb (by constructor <;> omega)) ?_
  intro v2 p3 hR4
  obtain ⟨⟨xhR4, rfl, xhR40, xhR41⟩, rfl⟩ := hR4
  refine hl_eqL (l' := (boxE b1 #[.int .i64 0, .slice none 0 0] 38 :: curE g a len cap :: l)) rfl ?_
  refine hl_v rfl rfl rfl (rv_add rfl rfl rfl (by constructor <;> omega)) ?_
  refine hl_v rfl rfl rfl (rv_build (cs := #[.int .i64 (2 + xhR4), .slice none 0 0]) rfl rfl (by kernel_rfl)) ?_
  refine hl_box rfl rfl rfl (rq_alloc (z := .agg #[.int .i64 0, .slice none 0 0]) rfl (by kernel_rfl)) ?_
  intro b5
  refine hl_storeBoxN (i := 0) (off := 0) (us := [.int .i64 (2 + xhR4), .slice none 0 0]) (l' := (boxE b5 #[.int .i64 (2 + xhR4), .slice none 0 0] 38 :: boxE b1 #[.int .i64 0, .slice none 0 0] 38 :: curE g a len cap :: l)) rfl rfl rfl (by kernel_rfl) rfl rfl rfl (all_cons rfl (all_cons rfl all_nil)) rfl rfl rfl ?_
  refine hl_less (sub_cons (d := 0) rfl (sub_cons (d := 2) rfl (sub_cons (d := 3) rfl (sub_nil _)))) (.refl _) ?_
  refine hl_nil ?_
  refine hq_then ?_
  refine hc_seq ?_
  refine hc_seq ?_
  refine hc_region ?_
  refine hl_v rfl rfl rfl (rv_ev rfl) ?_
  refine hl_callM (R := (fun u_ p_ => (∃ x_ : Int, u_ = .int .i64 x_ ∧ 0 ≤ x_ ∧ x_ < 16) ∧ p_ = curE g a len cap)) 2 rfl rfl (by kernel_rfl) rfl rfl (fun l' w hm => belowN_mut g a len cap z 16 _ _ _ hm hb (by constructor <;> omega)) ?_
  intro v6 p7 hR8
  obtain ⟨⟨xhR8, rfl, xhR80, xhR81⟩, rfl⟩ := hR8
  refine hl_eqL (l' := (boxE b5 #[.int .i64 (2 + xhR4), .slice none 0 0] 38 :: boxE b1 #[.int .i64 0, .slice none 0 0] 38 :: curE g a len cap :: l)) rfl ?_
  refine hl_v rfl rfl rfl (rv_ev rfl) ?_
  refine hl_less (sub_cons (d := 0) rfl (sub_cons (d := 2) rfl (sub_cons (d := 3) rfl (sub_cons (d := 4) rfl (sub_nil _))))) (.refl _) ?_
  refine hl_nil ?_
  refine hq_then ?_
  refine hc_block ?_
  refine hc_conv (rowE 82 3 (.slice none 0 0) (([] : List Arc).length) (([] : List Arc).flatMap arcC) :: boxE b5 #[.int .i64 (2 + xhR4), .slice none 0 0] 38 :: boxE b1 #[.int .i64 0, .slice none 0 0] 38 :: curE g a len cap :: l) (fun w hm => hm.nilRow 82 3) ?_
  refine hc_loop3 (α := Int) (β := Value) (γ := List Arc) (fun k u gs => (rowE 82 3 u gs.length (gs.flatMap arcC) :: boxE b5 #[.int .i64 (2 + xhR4), u] 38 :: boxE b1 #[.int .i64 0, .slice none 0 0] 38 :: curE g a len cap :: l)) (fun k u gs => [(0, .pointer (some ⟨g, 0, none⟩)), (2, .pointer (some ⟨b1, 0, none⟩)), (3, .pointer (some ⟨b5, 0, none⟩)), (4, .int .i64 k)]) (fun k u gs => 0 ≤ k ∧ k ≤ 15 ∧ GOk (2 + xhR4) gs ∧ (gs.length : Int) + k ≤ 15) (fun k u gs => k.toNat) _ _ [] ⟨by omega, by omega, gok_nil (by omega), by simp; omega⟩ (sub_cons (d := 0) rfl (sub_cons (d := 2) rfl (sub_cons (d := 3) rfl (sub_cons (d := 4) rfl (sub_nil _))))) ((.cons_cons _ (.cons_cons _ (.cons_cons _ (.cons_cons _ (.refl _)))))) ?_
  intro k u gs hi9
  obtain ⟨hk0, hk1, hg, hgl⟩ := hi9
  refine hc_seq ?_
  refine hc_seq ?_
  refine hc_region ?_
  refine hl_v rfl rfl rfl (rv_ev rfl) ?_
  refine hl_gtr rfl rfl rfl rfl rfl rfl (fun h10 => ?_) (fun h10 => ?_)
  ·
    refine hl_less (sub_cons (d := 0) rfl (sub_cons (d := 2) rfl (sub_cons (d := 3) rfl (sub_cons (d := 4) rfl (sub_cons (d := 13) rfl (sub_nil _)))))) (.refl _) ?_
    refine hl_nil ?_
    refine hq_then ?_
    refine hc_true rfl ?_
    refine hc_skip ?_
    refine hq_then ?_
    refine hc_seq ?_
    refine hc_block ?_
    refine hc_seq ?_
    refine hc_region ?_
    refine hl_v rfl rfl rfl (rv_ev rfl) ?_
    refine hl_v rfl rfl rfl (rv_field (k0 := 0) rfl (by kernel_rfl) rfl) ?_
    refine hl_v rfl rfl rfl (rv_load rfl (by kernel_rfl) rfl (box_cell 1 rfl rfl)) ?_
    refine hl_v rfl rfl rfl (rv_sub rfl rfl rfl (by constructor <;> omega)) ?_
    refine hl_callM (R := (fun u_ p_ => (∃ x_ : Int, u_ = .int .i64 x_ ∧ 0 ≤ x_ ∧ x_ < (2 + xhR4) - 1) ∧ p_ = curE g a len cap)) 3 rfl rfl (by kernel_rfl) rfl rfl (fun l' w hm => belowN_mut g a len cap z ((2 + xhR4) - 1) _ _ _ hm hb (by constructor <;> omega)) ?_
    intro v11 p12 hR13
    obtain ⟨⟨xhR13, rfl, xhR130, xhR131⟩, rfl⟩ := hR13
    refine hl_eqL (l' := (rowE 82 3 u gs.length (gs.flatMap arcC) :: boxE b5 #[.int .i64 (2 + xhR4), u] 38 :: boxE b1 #[.int .i64 0, .slice none 0 0] 38 :: curE g a len cap :: l)) rfl ?_
    refine hl_v rfl rfl rfl (rv_add rfl rfl rfl (by constructor <;> omega)) ?_
    refine hl_v rfl rfl rfl (rv_ev rfl) ?_
    refine hl_less (sub_cons (d := 0) rfl (sub_cons (d := 2) rfl (sub_cons (d := 3) rfl (sub_cons (d := 4) rfl (sub_cons (d := 5) rfl (sub_cons (d := 13) rfl (sub_nil _))))))) (.refl _) ?_
    refine hl_nil ?_
    refine hq_then ?_
    refine hc_conv (curE g a len cap :: rowE 82 3 u gs.length (gs.flatMap arcC) :: boxE b5 #[.int .i64 (2 + xhR4), u] 38 :: boxE b1 #[.int .i64 0, .slice none 0 0] 38 :: l) (conv_pick (src := [rowE 82 3 u gs.length (gs.flatMap arcC), boxE b5 #[.int .i64 (2 + xhR4), u] 38, boxE b1 #[.int .i64 0, .slice none 0 0] 38, curE g a len cap]) (dst := [curE g a len cap, rowE 82 3 u gs.length (gs.flatMap arcC), boxE b5 #[.int .i64 (2 + xhR4), u] 38, boxE b1 #[.int .i64 0, .slice none 0 0] 38]) (l := l) [3, 0, 1, 2] (by decide) rfl) ?_
    refine hc_draw2 (l := (rowE 82 3 u gs.length (gs.flatMap arcC) :: boxE b5 #[.int .i64 (2 + xhR4), u] 38 :: boxE b1 #[.int .i64 0, .slice none 0 0] 38 :: l)) (by kernel_rfl) 10 [0, 1, 2, 3, 4, 5, 6, 7, 8, 9] (List.take 10 _) (List.drop 10 _) [[], [0], [], [], [2, 3], [], [], [4, 6], [4, 5, 7], [4, 7, 8]] [22, 23, 24, 25, 26, 27, 28, 29, 30, 31] (fun i vs_ v_ p_ => match i with | 0 => v_ = .pointer (some ⟨b5, 0 + 1, none⟩) ∧ p_ = [] | 1 => v_ = u ∧ p_ = [] | 2 => v_ = .pointer (some ⟨g, 0, none⟩) ∧ p_ = [] | 3 => v_ = .int .i64 (1 + xhR13) ∧ p_ = [] | 4 => (∃ pm_, p_ = [pm_] ∧ (fun u_ p_ => (∃ x_ : Int, u_ = .int .i64 x_ ∧ 0 ≤ x_ ∧ x_ < 1 + xhR13) ∧ p_ = curE g a len cap) v_ pm_) | 5 => v_ = .int .i64 (1 + xhR13) ∧ p_ = [] | 6 => v_ = .pointer (some ⟨g, 0, none⟩) ∧ p_ = [] | 7 => (∃ pm_, p_ = [pm_] ∧ (fun u_ p_ => (∃ x_ : Int, u_ = .int .i64 x_ ∧ 0 ≤ x_ ∧ x_ < 12) ∧ p_ = curE g a len cap) v_ pm_) | 8 => v_ = .agg #[.int .i64 (intOf (List.getD vs_ 0 undef)), .int .i64 (1 + xhR13), .int .i64 (intOf (List.getD vs_ 2 undef))] ∧ p_ = [] | 9 => IsRow 82 3 1 ([(intOf (List.getD vs_ 0 undef)), 1 + xhR13, (intOf (List.getD vs_ 1 undef))].map (Value.int .i64)) v_ p_ | _ => True) [[], [0], [], [], [2, 3], [], [], [6], [5, 7], [7, 8]] [none, none, none, none, some 13, none, none, some 4, none, none] [curE g a len cap] [0, 1, 2, 3, 5, 6, 7, 8, 9] 13 (List.take_append_drop 10 _).symm (by kernel_rfl) (by kernel_rfl) (by kernel_rfl) rfl rfl ?_ ?_
    ·
      refine ⟨?_, ?_, ?_, ?_, ?_, ?_, ?_, ?_, ?_, ?_, trivial⟩
      ·
        intro vf pf hmu hR
        refine Or.inl ⟨rfl, ?_⟩
        show RunQ _ _ _ (([] : List Nat).flatMap pf ++ _) (envOf _ vf [] ++ _) _ _
        refine rq_less (l' := (rowE 82 3 u gs.length (gs.flatMap arcC) :: boxE b5 #[.int .i64 (2 + xhR4), u] 38 :: boxE b1 #[.int .i64 0, .slice none 0 0] 38 :: l)) (sub_cons (d := 3) rfl (sub_nil _)) (List.sublist_append_right _ _) ?_
        exact rq_v (rv_field (k0 := 1) rfl (by kernel_rfl) rfl)
      ·
        intro vf pf hmu hR
        have e0 : (vf 0) = .pointer (some ⟨b5, 0 + 1, none⟩) ∧ (pf 0) = [] := hR 0 (by decide)
        refine Or.inl ⟨rfl, ?_⟩
        show RunQ _ _ _ (([0] : List Nat).flatMap pf ++ _) (envOf _ vf [0] ++ _) _ _
        refine rq_less (l' := (rowE 82 3 u gs.length (gs.flatMap arcC) :: boxE b5 #[.int .i64 (2 + xhR4), u] 38 :: boxE b1 #[.int .i64 0, .slice none 0 0] 38 :: l)) (sub_cons (d := 22) (congrArg some e0.1) (sub_nil _)) (List.sublist_append_right _ _) ?_
        exact rq_v (rv_load rfl (by kernel_rfl) rfl (box_cell 1 rfl rfl))
      ·
        intro vf pf hmu hR
        refine Or.inl ⟨rfl, ?_⟩
        show RunQ _ _ _ (([] : List Nat).flatMap pf ++ _) (envOf _ vf [] ++ _) _ _
        refine rq_less (l' := (rowE 82 3 u gs.length (gs.flatMap arcC) :: boxE b5 #[.int .i64 (2 + xhR4), u] 38 :: boxE b1 #[.int .i64 0, .slice none 0 0] 38 :: l)) (sub_cons (d := 0) rfl (sub_nil _)) (List.sublist_append_right _ _) ?_
        exact rq_v (rv_ev rfl)
      ·
        intro vf pf hmu hR
        refine Or.inl ⟨rfl, ?_⟩
        show RunQ _ _ _ (([] : List Nat).flatMap pf ++ _) (envOf _ vf [] ++ _) _ _
        refine rq_less (l' := (rowE 82 3 u gs.length (gs.flatMap arcC) :: boxE b5 #[.int .i64 (2 + xhR4), u] 38 :: boxE b1 #[.int .i64 0, .slice none 0 0] 38 :: l)) (sub_cons (d := 5) rfl (sub_nil _)) (List.sublist_append_right _ _) ?_
        exact rq_v (rv_ev rfl)
      ·
        intro vf pf hmu hR
        have e2 : (vf 2) = .pointer (some ⟨g, 0, none⟩) ∧ (pf 2) = [] := hR 2 (by decide)
        have e3 : (vf 3) = .int .i64 (1 + xhR13) ∧ (pf 3) = [] := hR 3 (by decide)
        refine Or.inl ⟨rfl, ?_⟩
        show RunM _ _ _ (pf 13) (([2, 3] : List Nat).flatMap pf ++ _) (envOf _ vf [2, 3] ++ _) _ _
        rw [hmu]
        refine rm_less (X' := (rowE 82 3 u gs.length (gs.flatMap arcC) :: boxE b5 #[.int .i64 (2 + xhR4), u] 38 :: boxE b1 #[.int .i64 0, .slice none 0 0] 38 :: l)) (sub_cons (d := 24) (congrArg some e2.1) (sub_cons (d := 25) (congrArg some e3.1) (sub_nil _))) (by first | (simp only [e2.2, e3.2, List.flatMap_cons, List.flatMap_nil, List.append_nil, List.nil_append, List.cons_append]; exact List.Sublist.refl _) | simp [e2.2, e3.2]) ?_
        exact rq_callM (R := (fun u_ p_ => (∃ x_ : Int, u_ = .int .i64 x_ ∧ 0 ≤ x_ ∧ x_ < 1 + xhR13) ∧ p_ = curE g a len cap)) (by kernel_rfl) rfl (fun L w hX hm => belowN_mut g a len cap z (1 + xhR13) _ _ _ hm hb (by constructor <;> omega))
      ·
        intro vf pf hmu hR
        refine Or.inl ⟨rfl, ?_⟩
        show RunQ _ _ _ (([] : List Nat).flatMap pf ++ _) (envOf _ vf [] ++ _) _ _
        refine rq_less (l' := (rowE 82 3 u gs.length (gs.flatMap arcC) :: boxE b5 #[.int .i64 (2 + xhR4), u] 38 :: boxE b1 #[.int .i64 0, .slice none 0 0] 38 :: l)) (sub_cons (d := 5) rfl (sub_nil _)) (List.sublist_append_right _ _) ?_
        exact rq_v (rv_ev rfl)
      ·
        intro vf pf hmu hR
        refine Or.inl ⟨rfl, ?_⟩
        show RunQ _ _ _ (([] : List Nat).flatMap pf ++ _) (envOf _ vf [] ++ _) _ _
        refine rq_less (l' := (rowE 82 3 u gs.length (gs.flatMap arcC) :: boxE b5 #[.int .i64 (2 + xhR4), u] 38 :: boxE b1 #[.int .i64 0, .slice none 0 0] 38 :: l)) (sub_cons (d := 0) rfl (sub_nil _)) (List.sublist_append_right _ _) ?_
        exact rq_v (rv_ev rfl)
      ·
        intro vf pf hmu hR
        have e4 : (∃ pm_, (pf 4) = [pm_] ∧ (fun u_ p_ => (∃ x_ : Int, u_ = .int .i64 x_ ∧ 0 ≤ x_ ∧ x_ < 1 + xhR13) ∧ p_ = curE g a len cap) (vf 4) pm_) := hR 4 (by decide)
        obtain ⟨p15, p4, hR16⟩ := e4
        obtain ⟨v14, v4⟩ : ∃ x, vf 4 = x := ⟨_, rfl⟩
        rw [v4] at hR16
        obtain ⟨⟨xhR16, rfl, xhR160, xhR161⟩, rfl⟩ := hR16
        have e6 : (vf 6) = .pointer (some ⟨g, 0, none⟩) ∧ (pf 6) = [] := hR 6 (by decide)
        refine Or.inl ⟨rfl, ?_⟩
        show RunM _ _ _ (pf 4) (([6] : List Nat).flatMap pf ++ _) (envOf _ vf [4, 6] ++ _) _ _
        rw [p4]
        refine rm_less (X' := (rowE 82 3 u gs.length (gs.flatMap arcC) :: boxE b5 #[.int .i64 (2 + xhR4), u] 38 :: boxE b1 #[.int .i64 0, .slice none 0 0] 38 :: l)) (sub_cons (d := 28) (congrArg some e6.1) (sub_nil _)) (by first | (simp only [e6.2, List.flatMap_cons, List.flatMap_nil, List.append_nil, List.nil_append, List.cons_append]; exact List.Sublist.refl _) | simp [e6.2]) ?_
        exact rq_callM (R := (fun u_ p_ => (∃ x_ : Int, u_ = .int .i64 x_ ∧ 0 ≤ x_ ∧ x_ < 12) ∧ p_ = curE g a len cap)) (by kernel_rfl) rfl (fun L w hX hm => belowN_mut g a len cap z 12 _ _ _ hm hb (by constructor <;> omega))
      ·
        intro vf pf hmu hR
        have e4 : (∃ pm_, (pf 4) = [pm_] ∧ (fun u_ p_ => (∃ x_ : Int, u_ = .int .i64 x_ ∧ 0 ≤ x_ ∧ x_ < 1 + xhR13) ∧ p_ = curE g a len cap) (vf 4) pm_) := hR 4 (by decide)
        obtain ⟨p15, p4, hR16⟩ := e4
        obtain ⟨v14, v4⟩ : ∃ x, vf 4 = x := ⟨_, rfl⟩
        rw [v4] at hR16
        obtain ⟨⟨xhR16, rfl, xhR160, xhR161⟩, rfl⟩ := hR16
        have e5 : (vf 5) = .int .i64 (1 + xhR13) ∧ (pf 5) = [] := hR 5 (by decide)
        have e7 : (∃ pm_, (pf 7) = [pm_] ∧ (fun u_ p_ => (∃ x_ : Int, u_ = .int .i64 x_ ∧ 0 ≤ x_ ∧ x_ < 12) ∧ p_ = curE g a len cap) (vf 7) pm_) := hR 7 (by decide)
        obtain ⟨p18, p7, hR19⟩ := e7
        obtain ⟨v17, v7⟩ : ∃ x, vf 7 = x := ⟨_, rfl⟩
        rw [v7] at hR19
        obtain ⟨⟨xhR19, rfl, xhR190, xhR191⟩, rfl⟩ := hR19
        refine Or.inl ⟨rfl, ?_⟩
        show RunQ _ _ _ (([5, 7] : List Nat).flatMap pf ++ _) (envOf _ vf [4, 5, 7] ++ _) _ _
        refine rq_less (l' := (curE g a len cap :: rowE 82 3 u gs.length (gs.flatMap arcC) :: boxE b5 #[.int .i64 (2 + xhR4), u] 38 :: boxE b1 #[.int .i64 0, .slice none 0 0] 38 :: l)) (sub_cons (d := 26) (congrArg some v4) (sub_cons (d := 27) (congrArg some e5.1) (sub_cons (d := 29) (congrArg some v7) (sub_nil _)))) (by first | (simp only [p7, v7, e5.2, List.flatMap_cons, List.flatMap_nil, List.append_nil, List.nil_append, List.cons_append]; exact List.Sublist.refl _) | simp [p7, v7, e5.2]) ?_
        exact rq_mono (rq_v (rv_build (cs := #[.int .i64 xhR16, .int .i64 (1 + xhR13), .int .i64 xhR19]) rfl rfl (by kernel_rfl))) (fun _ _ h => ⟨h.1.trans (by show _ = (.agg #[.int .i64 (intOf (vf 4)), .int .i64 (1 + xhR13), .int .i64 (intOf (vf 7))] : Value); first | (rw [v4, v7]; done) | (rw [v4, v7]; rfl)), h.2⟩)
      ·
        intro vf pf hmu hR
        have e4 : (∃ pm_, (pf 4) = [pm_] ∧ (fun u_ p_ => (∃ x_ : Int, u_ = .int .i64 x_ ∧ 0 ≤ x_ ∧ x_ < 1 + xhR13) ∧ p_ = curE g a len cap) (vf 4) pm_) := hR 4 (by decide)
        obtain ⟨p15, p4, hR16⟩ := e4
        obtain ⟨v14, v4⟩ : ∃ x, vf 4 = x := ⟨_, rfl⟩
        rw [v4] at hR16
        obtain ⟨⟨xhR16, rfl, xhR160, xhR161⟩, rfl⟩ := hR16
        have e7 : (∃ pm_, (pf 7) = [pm_] ∧ (fun u_ p_ => (∃ x_ : Int, u_ = .int .i64 x_ ∧ 0 ≤ x_ ∧ x_ < 12) ∧ p_ = curE g a len cap) (vf 7) pm_) := hR 7 (by decide)
        obtain ⟨p18, p7, hR19⟩ := e7
        obtain ⟨v17, v7⟩ : ∃ x, vf 7 = x := ⟨_, rfl⟩
        rw [v7] at hR19
        obtain ⟨⟨xhR19, rfl, xhR190, xhR191⟩, rfl⟩ := hR19
        have e8 : (vf 8) = .agg #[.int .i64 (intOf (vf 4)), .int .i64 (1 + xhR13), .int .i64 (intOf (vf 7))] ∧ (pf 8) = [] := hR 8 (by decide)
        rw [v4, v7] at e8
        refine Or.inl ⟨rfl, ?_⟩
        show RunQ _ _ _ (([7, 8] : List Nat).flatMap pf ++ _) (envOf _ vf [4, 7, 8] ++ _) _ _
        refine rq_less (l' := (curE g a len cap :: rowE 82 3 u gs.length (gs.flatMap arcC) :: boxE b5 #[.int .i64 (2 + xhR4), u] 38 :: boxE b1 #[.int .i64 0, .slice none 0 0] 38 :: l)) (sub_cons (d := 30) (congrArg some e8.1) (sub_nil _)) (by first | (simp only [p7, v7, e8.2, List.flatMap_cons, List.flatMap_nil, List.append_nil, List.nil_append, List.cons_append]; exact List.Sublist.refl _) | simp [p7, v7, e8.2]) ?_
        exact rq_mono (rq_buildSlice (z := .agg #[.int .i64 0, .int .i64 0, .int .i64 0]) (s := 3) (cs := ([xhR16, 1 + xhR13, xhR19].map (Value.int .i64))) rfl Try.underlying36 (by kernel_rfl) (by decide) rfl (by kernel_rfl) rfl) (fun v_ p_ h => by show IsRow 82 3 1 ([(intOf (vf 4)), 1 + xhR13, (intOf (vf 7))].map (Value.int .i64)) v_ p_; rw [v4, v7]; exact h)
    ·
      intro vf pf hmu hR
      have e1 : (vf 1) = u ∧ (pf 1) = [] := hR 1 (by decide)
      have e4 : (∃ pm_, (pf 4) = [pm_] ∧ (fun u_ p_ => (∃ x_ : Int, u_ = .int .i64 x_ ∧ 0 ≤ x_ ∧ x_ < 1 + xhR13) ∧ p_ = curE g a len cap) (vf 4) pm_) := hR 4 (by decide)
      obtain ⟨p15, p4, hR16⟩ := e4
      obtain ⟨v14, v4⟩ : ∃ x, vf 4 = x := ⟨_, rfl⟩
      rw [v4] at hR16
      obtain ⟨⟨xhR16, rfl, xhR160, xhR161⟩, rfl⟩ := hR16
      have e7 : (∃ pm_, (pf 7) = [pm_] ∧ (fun u_ p_ => (∃ x_ : Int, u_ = .int .i64 x_ ∧ 0 ≤ x_ ∧ x_ < 12) ∧ p_ = curE g a len cap) (vf 7) pm_) := hR 7 (by decide)
      obtain ⟨p18, p7, hR19⟩ := e7
      obtain ⟨v17, v7⟩ : ∃ x, vf 7 = x := ⟨_, rfl⟩
      rw [v7] at hR19
      obtain ⟨⟨xhR19, rfl, xhR190, xhR191⟩, rfl⟩ := hR19
      have e9 : IsRow 82 3 1 ([(intOf (vf 4)), 1 + xhR13, (intOf (vf 7))].map (Value.int .i64)) (vf 9) (pf 9) := hR 9 (by decide)
      rw [v4, v7] at e9
      obtain ⟨g20, v9, p9⟩ := e9
      have q0 : (vf 0) = .pointer (some ⟨b5, 0 + 1, none⟩) ∧ (pf 0) = [] := hR 0 (by decide)
      have q1 : (vf 1) = u ∧ (pf 1) = [] := hR 1 (by decide)
      have q2 : (vf 2) = .pointer (some ⟨g, 0, none⟩) ∧ (pf 2) = [] := hR 2 (by decide)
      have q3 : (vf 3) = .int .i64 (1 + xhR13) ∧ (pf 3) = [] := hR 3 (by decide)
      have q5 : (vf 5) = .int .i64 (1 + xhR13) ∧ (pf 5) = [] := hR 5 (by decide)
      have q6 : (vf 6) = .pointer (some ⟨g, 0, none⟩) ∧ (pf 6) = [] := hR 6 (by decide)
      have q8 : (vf 8) = .agg #[.int .i64 (intOf (vf 4)), .int .i64 (1 + xhR13), .int .i64 (intOf (vf 7))] ∧ (pf 8) = [] := hR 8 (by decide)
      refine hl_less (l' := (curE g a len cap :: rowE 82 3 (.slice (some ⟨g20, 0, none⟩) 1 1) 1 ([xhR16, 1 + xhR13, xhR19].map (Value.int .i64)) :: rowE 82 3 u gs.length (gs.flatMap arcC) :: boxE b5 #[.int .i64 (2 + xhR4), u] 38 :: boxE b1 #[.int .i64 0, .slice none 0 0] 38 :: l)) (sub_cons (d := 0) rfl (sub_cons (d := 2) rfl (sub_cons (d := 3) rfl (sub_cons (d := 4) rfl (sub_cons (d := 5) rfl (sub_cons (d := 13) rfl (sub_cons (d := 23) (congrArg some e1.1) (sub_cons (d := 31) (congrArg some v9) (sub_nil _))))))))) (by first | (simp only [p7, v7, p9, v9, q0.2, q1.2, q2.2, q3.2, q5.2, q6.2, q8.2, List.flatMap_cons, List.flatMap_nil, List.append_nil, List.nil_append, List.cons_append]; exact List.Sublist.refl _) | simp [p7, v7, p9, v9, q0.2, q1.2, q2.2, q3.2, q5.2, q6.2, q8.2]) ?_
      simp only [List.drop_succ_cons, List.drop_zero]
      refine hl_append (i := 2) (z := .agg #[.int .i64 0, .int .i64 0, .int .i64 0]) (bytes := 24) (n' := (gs ++ [Arc.mk xhR16 (1 + xhR13) xhR19]).length) (xs' := ((gs ++ [Arc.mk xhR16 (1 + xhR13) xhR19]).flatMap arcC)) (L := fun v21 => (curE g a len cap :: rowE 82 3 (.slice (some ⟨g20, 0, none⟩) 1 1) 1 ([xhR16, 1 + xhR13, xhR19].map (Value.int .i64)) :: rowE 82 3 v21 ((gs ++ [Arc.mk xhR16 (1 + xhR13) xhR19]).length) ((gs ++ [Arc.mk xhR16 (1 + xhR13) xhR19]).flatMap arcC) :: boxE b5 #[.int .i64 (2 + xhR4), u] 38 :: boxE b1 #[.int .i64 0, .slice none 0 0] 38 :: l)) rfl rfl rfl rfl Try.underlying36 (by kernel_rfl) (by kernel_rfl) rfl rfl rfl (rd_row 1 rfl) (ints_one _) (by first | omega | (simp only [List.length_append, List.length_cons, List.length_nil]; omega)) (len_app gs [Arc.mk xhR16 (1 + xhR13) xhR19]) (flat_app1 arcC gs (Arc.mk xhR16 (1 + xhR13) xhR19) _ rfl) (fun _ => rfl) ?_
      intro v21
      refine hl_v rfl rfl rfl (rv_field (k0 := 1) rfl (by kernel_rfl) rfl) ?_
      refine hl_one (i := 2) rfl (fun ho22 => ?_)
      refine hl_storeBox (i := 3) (l' := (curE g a len cap :: rowE 82 3 (.slice (some ⟨g20, 0, none⟩) 1 1) 1 ([xhR16, 1 + xhR13, xhR19].map (Value.int .i64)) :: rowE 82 3 v21 ((gs ++ [Arc.mk xhR16 (1 + xhR13) xhR19]).length) ((gs ++ [Arc.mk xhR16 (1 + xhR13) xhR19]).flatMap arcC) :: boxE b5 #[.int .i64 (2 + xhR4), v21] 38 :: boxE b1 #[.int .i64 0, .slice none 0 0] 38 :: l)) rfl rfl rfl (by kernel_rfl) rfl rfl ho22 rfl rfl rfl ?_
      refine hl_less (sub_cons (d := 0) rfl (sub_cons (d := 2) rfl (sub_cons (d := 3) rfl (sub_cons (d := 4) rfl (sub_cons (d := 5) rfl (sub_cons (d := 13) rfl (sub_nil _))))))) (.refl _) ?_
      refine hl_nil ?_
      refine hq_block_normal ?_
      refine hq_then ?_
      refine hc_region ?_
      refine hl_v rfl rfl rfl (rv_ev rfl) ?_
      refine hl_v rfl rfl rfl (rv_sub rfl rfl rfl (by constructor <;> omega)) ?_
      refine hl_v rfl rfl rfl (rv_ev rfl) ?_
      refine hl_less (sub_cons (d := 0) rfl (sub_cons (d := 2) rfl (sub_cons (d := 3) rfl (sub_cons (d := 4) rfl (sub_cons (d := 5) rfl (sub_cons (d := 13) rfl (sub_nil _))))))) (.refl _) ?_
      refine hl_nil ?_
      refine hq_conv (rowE 82 3 v21 ((gs ++ [Arc.mk xhR16 (1 + xhR13) xhR19]).length) ((gs ++ [Arc.mk xhR16 (1 + xhR13) xhR19]).flatMap arcC) :: boxE b5 #[.int .i64 (2 + xhR4), v21] 38 :: boxE b1 #[.int .i64 0, .slice none 0 0] 38 :: curE g a len cap :: l) (conv_pick (src := [curE g a len cap, rowE 82 3 (.slice (some ⟨g20, 0, none⟩) 1 1) 1 ([xhR16, 1 + xhR13, xhR19].map (Value.int .i64)), rowE 82 3 v21 ((gs ++ [Arc.mk xhR16 (1 + xhR13) xhR19]).length) ((gs ++ [Arc.mk xhR16 (1 + xhR13) xhR19]).flatMap arcC), boxE b5 #[.int .i64 (2 + xhR4), v21] 38, boxE b1 #[.int .i64 0, .slice none 0 0] 38]) (dst := [rowE 82 3 v21 ((gs ++ [Arc.mk xhR16 (1 + xhR13) xhR19]).length) ((gs ++ [Arc.mk xhR16 (1 + xhR13) xhR19]).flatMap arcC), boxE b5 #[.int .i64 (2 + xhR4), v21] 38, boxE b1 #[.int .i64 0, .slice none 0 0] 38, curE g a len cap]) (l := l) [2, 3, 4, 0] (by decide) rfl) ?_
      exact hq_round3 (k - 1) v21 (gs ++ [Arc.mk xhR16 (1 + xhR13) xhR19]) ⟨by omega, by omega, gok_app hg (by omega) ⟨⟨by dsimp only; omega, by dsimp only; omega⟩, by dsimp only; omega, by dsimp only; omega, by dsimp only; omega⟩, by simp only [List.length_append, List.length_singleton]; omega⟩ (by omega) (sub_cons (d := 0) rfl (sub_cons (d := 2) rfl (sub_cons (d := 3) rfl (sub_cons (d := 4) rfl (sub_nil _))))) ((.cons_cons _ (.cons_cons _ (.cons_cons _ (.cons_cons _ (.refl _))))))
  ·
    refine hl_less (sub_cons (d := 0) rfl (sub_cons (d := 2) rfl (sub_cons (d := 3) rfl (sub_cons (d := 4) rfl (sub_cons (d := 13) rfl (sub_nil _)))))) (.refl _) ?_
    refine hl_nil ?_
    refine hq_then ?_
    refine hc_false rfl ?_
    refine hc_exit ?_
    refine hq_then_exit ?_
    refine hq_then_exit ?_
    refine hq_block_exit ?_
    refine hq_then ?_
    refine hc_seq ?_
    refine hc_region ?_
    refine hl_v rfl rfl rfl (rv_loadN (cs := [.int .i64 (2 + xhR4), u]) rfl (by kernel_rfl) (by kernel_rfl) rfl rfl (box_part 1 rfl 0 rfl)) ?_
    refine hl_one (i := 0) rfl (fun ho23 => ?_)
    refine hl_storeBoxN (i := 2) (off := 0) (us := [.int .i64 (2 + xhR4), u]) (l' := (rowE 82 3 u gs.length (gs.flatMap arcC) :: boxE b5 #[.int .i64 (2 + xhR4), u] 38 :: boxE b1 #[.int .i64 (2 + xhR4), u] 38 :: curE g a len cap :: l)) rfl rfl rfl (by kernel_rfl) rfl rfl rfl (all_cons rfl (all_cons ho23 all_nil)) rfl rfl rfl ?_
    refine hl_less (sub_cons (d := 0) rfl (sub_cons (d := 2) rfl (sub_cons (d := 3) rfl (sub_cons (d := 4) rfl (sub_cons (d := 13) rfl (sub_nil _)))))) (.refl _) ?_
    refine hl_nil ?_
    refine hq_then ?_
    refine hc_ret ?_
    refine hq_conv (curE g a len cap :: rowE 82 3 u gs.length (gs.flatMap arcC) :: boxE b5 #[.int .i64 (2 + xhR4), u] 38 :: boxE b1 #[.int .i64 (2 + xhR4), u] 38 :: l) (conv_pick (src := [rowE 82 3 u gs.length (gs.flatMap arcC), boxE b5 #[.int .i64 (2 + xhR4), u] 38, boxE b1 #[.int .i64 (2 + xhR4), u] 38, curE g a len cap]) (dst := [curE g a len cap, rowE 82 3 u gs.length (gs.flatMap arcC), boxE b5 #[.int .i64 (2 + xhR4), u] 38, boxE b1 #[.int .i64 (2 + xhR4), u] 38]) (l := l) [3, 0, 1, 2] (by decide) rfl) ?_
    refine hq_conv (bigE [curE g a len cap, rowE 82 3 u gs.length (gs.flatMap arcC)] :: boxE b5 #[.int .i64 (2 + xhR4), u] 38 :: boxE b1 #[.int .i64 (2 + xhR4), u] 38 :: l) (conv_big (ps := [curE g a len cap, rowE 82 3 u gs.length (gs.flatMap arcC)])) ?_
    exact hq_ret (rs := [.cell 2 38]) (vs := [.agg #[.int .i64 (2 + xhR4), u]]) rfl ⟨⟨b1, 0, [.int .i64 (2 + xhR4), u], rfl, rfl, by kernel_rfl, by kernel_rfl, box_part 2 rfl 0 rfl⟩, trivial⟩ rfl (fun w hm => ⟨_, bigE [curE g a len cap, rowE 82 3 u gs.length (gs.flatMap arcC)], rfl, ⟨2 + xhR4, u, gs, rfl, rfl, hg, by omega, by omega⟩, hm.sub ((.cons_cons _ (.cons _ (.cons _ (.refl _)))))⟩)
set_option maxHeartbeats 4000000 in
set_option maxRecDepth 100000 in
theorem DrawGraph_ret (a : Option Addr) (len cap : Nat) (z : List Int) (w : World) (hb : BRow .u8 w a len cap z) (hlen : len ≤ 1048576) :
    Calls Try.prog 14 #[.slice a len cap] w (Ret w (fun v' post => ∃ (n : Int) (gs : List Arc) (u ua ub ue : Value) (pa pb : List Pnt) (pe : List Exc), v' = .tuple #[.agg #[.int .i64 n, u], ua, ub, ue] ∧ post = [rowE 82 3 u gs.length (gs.flatMap arcC), rowE 47 2 ua pa.length (pa.flatMap pntC), rowE 47 2 ub pb.length (pb.flatMap pntC), rowE 72 3 ue pe.length (pe.flatMap excC)] ∧ GOk n gs ∧ (2 ≤ n ∧ n ≤ 9) ∧ (1 ≤ pa.length ∧ pa.length ≤ 3 ∧ pb.length = pa.length ∧ pe.length = pa.length) ∧ PtsOk n pa ∧ PtsOk n pb ∧ ExsOk pe)) := by
  refine calls_hc (N := 60) (args := [.slice a len cap]) Try.func14 rfl rfl ?_
  refine hc_less _ (sub_cons (d := 0) rfl (sub_nil _)) (.refl _) ?_
  refine hc_seq ?_
  refine hc_region ?_
  refine hl_box rfl rfl rfl (rq_alloc (z := .agg #[.int .i64 0, .slice none 0 0]) rfl (by kernel_rfl)) ?_
  intro b1
  refine hl_v rfl rfl rfl (rv_ev rfl) ?_
  refine hl_v rfl rfl rfl (rv_ev rfl) ?_
  refine hl_v rfl rfl rfl (rv_ev rfl) ?_
  refine hl_less (sub_cons (d := 0) rfl (sub_cons (d := 2) rfl (sub_cons (d := 3) rfl (sub_cons (d := 4) rfl (sub_cons (d := 5) rfl (sub_nil _)))))) (.refl _) ?_
  refine hl_nil ?_
  refine hq_then ?_
  refine hc_seq ?_
  refine hc_region ?_
  refine hl_v rfl rfl rfl (rv_ev rfl) ?_
  refine hl_q rfl rfl rfl (rq_call (by kernel_rfl) rfl (fun w hm => new_ret (hb.below hm.bel) hlen)) ?_
  intro v2 p3 hR4
  obtain ⟨ghR4, rfl, rfl⟩ := hR4
  refine hl_v rfl rfl rfl (rv_ev rfl) ?_
  refine hl_less (sub_cons (d := 0) rfl (sub_cons (d := 2) rfl (sub_cons (d := 3) rfl (sub_cons (d := 4) rfl (sub_cons (d := 5) rfl (sub_cons (d := 6) rfl (sub_nil _))))))) (.refl _) ?_
  refine hl_nil ?_
  refine hq_then ?_
  refine hc_seq ?_
  refine hc_region ?_
  refine hl_v rfl rfl rfl (rv_ev rfl) ?_
  refine hl_callM (R := (fun u_ p_ => ∃ (n : Int) (u : Value) (gs : List Arc), u_ = .agg #[.int .i64 n, u] ∧ p_ = bigE [curE ghR4 a len cap, rowE 82 3 u gs.length (gs.flatMap arcC)] ∧ GOk n gs ∧ (2 ≤ n ∧ n ≤ 9) ∧ gs.length ≤ 15)) 0 rfl rfl (by kernel_rfl) rfl rfl (fun l' w hm => l36Graph_mut ghR4 a len cap z _ _ _ hm hb) ?_
  intro v5 p6 hR7
  obtain ⟨n, u, gs, rfl, rfl, hg, ⟨hn2, hn9⟩, hgl⟩ := hR7
  refine hl_eqL (l' := [bigE [curE ghR4 a len cap, rowE 82 3 u gs.length (gs.flatMap arcC)], boxE b1 #[.int .i64 0, .slice none 0 0] 38]) rfl ?_
  refine hl_box rfl rfl rfl (rq_alloc (z := .agg #[.int .i64 0, .slice none 0 0]) rfl (by kernel_rfl)) ?_
  intro b8
  refine hl_conv [bigE [curE ghR4 a len cap, rowE 82 3 u gs.length (gs.flatMap arcC)], boxE b8 #[.int .i64 0, .slice none 0 0] 38, boxE b1 #[.int .i64 0, .slice none 0 0] 38] (conv_pick (src := [boxE b8 #[.int .i64 0, .slice none 0 0] 38, bigE [curE ghR4 a len cap, rowE 82 3 u gs.length (gs.flatMap arcC)], boxE b1 #[.int .i64 0, .slice none 0 0] 38]) (dst := [bigE [curE ghR4 a len cap, rowE 82 3 u gs.length (gs.flatMap arcC)], boxE b8 #[.int .i64 0, .slice none 0 0] 38, boxE b1 #[.int .i64 0, .slice none 0 0] 38]) (l := []) [1, 0, 2] (by decide) rfl) ?_
  refine hl_conv [curE ghR4 a len cap, rowE 82 3 u gs.length (gs.flatMap arcC), boxE b8 #[.int .i64 0, .slice none 0 0] 38, boxE b1 #[.int .i64 0, .slice none 0 0] 38] conv_unbig ?_
  refine hl_one (i := 1) rfl (fun ho9 => ?_)
  refine hl_storeBoxN (i := 2) (off := 0) (us := [.int .i64 n, u]) (l' := [curE ghR4 a len cap, rowE 82 3 u gs.length (gs.flatMap arcC), boxE b8 #[.int .i64 n, u] 38, boxE b1 #[.int .i64 0, .slice none 0 0] 38]) rfl rfl rfl (by kernel_rfl) rfl rfl rfl (all_cons rfl (all_cons ho9 all_nil)) rfl rfl rfl ?_
  refine hl_less (sub_cons (d := 0) rfl (sub_cons (d := 2) rfl (sub_cons (d := 3) rfl (sub_cons (d := 4) rfl (sub_cons (d := 5) rfl (sub_cons (d := 6) rfl (sub_cons (d := 7) rfl (sub_nil _)))))))) (.refl _) ?_
  refine hl_nil ?_
  refine hq_then ?_
  refine hc_seq ?_
  refine hc_region ?_
  refine hl_row rfl rfl rfl (rq_slice0 (s := 2) rfl Try.underlying39 (by kernel_rfl)) ?_
  intro g10
  refine hl_v rfl rfl rfl (rv_ev rfl) ?_
  refine hl_less (sub_cons (d := 0) rfl (sub_cons (d := 2) rfl (sub_cons (d := 3) rfl (sub_cons (d := 4) rfl (sub_cons (d := 5) rfl (sub_cons (d := 6) rfl (sub_cons (d := 7) rfl (sub_cons (d := 8) rfl (sub_nil _))))))))) (.refl _) ?_
  refine hl_nil ?_
  refine hq_then ?_
  refine hc_seq ?_
  refine hc_region ?_
  refine hl_row rfl rfl rfl (rq_slice0 (s := 2) rfl Try.underlying39 (by kernel_rfl)) ?_
  intro g11
  refine hl_v rfl rfl rfl (rv_ev rfl) ?_
  refine hl_less (sub_cons (d := 0) rfl (sub_cons (d := 2) rfl (sub_cons (d := 3) rfl (sub_cons (d := 4) rfl (sub_cons (d := 5) rfl (sub_cons (d := 6) rfl (sub_cons (d := 7) rfl (sub_cons (d := 8) rfl (sub_cons (d := 9) rfl (sub_nil _)))))))))) (.refl _) ?_
  refine hl_nil ?_
  refine hq_then ?_
  refine hc_seq ?_
  refine hc_region ?_
  refine hl_row rfl rfl rfl (rq_slice0 (s := 3) rfl Try.underlying40 (by kernel_rfl)) ?_
  intro g12
  refine hl_v rfl rfl rfl (rv_ev rfl) ?_
  refine hl_less (sub_cons (d := 0) rfl (sub_cons (d := 2) rfl (sub_cons (d := 3) rfl (sub_cons (d := 4) rfl (sub_cons (d := 5) rfl (sub_cons (d := 6) rfl (sub_cons (d := 7) rfl (sub_cons (d := 8) rfl (sub_cons (d := 9) rfl (sub_cons (d := 10) rfl (sub_nil _))))))))))) (.refl _) ?_
  refine hl_nil ?_
  refine hq_then ?_
  refine hc_seq ?_
  refine hc_seq ?_
  refine hc_region ?_
  refine hl_v rfl rfl rfl (rv_ev rfl) ?_
  refine hl_callM (R := (fun u_ p_ => (∃ x_ : Int, u_ = .int .i64 x_ ∧ 0 ≤ x_ ∧ x_ < 3) ∧ p_ = curE ghR4 a len cap)) 3 rfl rfl (by kernel_rfl) rfl rfl (fun l' w hm => belowN_mut ghR4 a len cap z 3 _ _ _ hm hb (by constructor <;> omega)) ?_
  intro v13 p14 hR15
  obtain ⟨⟨xhR15, rfl, xhR150, xhR151⟩, rfl⟩ := hR15
  refine hl_eqL (l' := [rowE 72 3 (.slice (some ⟨g12, 0, none⟩) 0 0) 0 ([]), rowE 47 2 (.slice (some ⟨g11, 0, none⟩) 0 0) 0 ([]), rowE 47 2 (.slice (some ⟨g10, 0, none⟩) 0 0) 0 ([]), curE ghR4 a len cap, rowE 82 3 u gs.length (gs.flatMap arcC), boxE b8 #[.int .i64 n, u] 38, boxE b1 #[.int .i64 0, .slice none 0 0] 38]) rfl ?_
  refine hl_v rfl rfl rfl (rv_add rfl rfl rfl (by constructor <;> omega)) ?_
  refine hl_v rfl rfl rfl (rv_ev rfl) ?_
  refine hl_less (sub_cons (d := 0) rfl (sub_cons (d := 2) rfl (sub_cons (d := 3) rfl (sub_cons (d := 4) rfl (sub_cons (d := 5) rfl (sub_cons (d := 6) rfl (sub_cons (d := 7) rfl (sub_cons (d := 8) rfl (sub_cons (d := 9) rfl (sub_cons (d := 10) rfl (sub_cons (d := 11) rfl (sub_nil _)))))))))))) (.refl _) ?_
  refine hl_nil ?_
  refine hq_then ?_
  refine hc_block ?_
  refine hc_loop4 (α := Int) (β := Value × Value × Value) (γ := List Pnt × List Pnt) (δ := List Exc) (fun k U P E => [rowE 72 3 U.2.2 E.length (E.flatMap excC), rowE 47 2 U.2.1 P.2.length (P.2.flatMap pntC), rowE 47 2 U.1 P.1.length (P.1.flatMap pntC), curE ghR4 a len cap, rowE 82 3 u gs.length (gs.flatMap arcC), boxE b8 #[.int .i64 n, u] 38, boxE b1 #[.int .i64 0, .slice none 0 0] 38]) (fun k U P E => [(0, .slice a len cap), (2, .pointer (some ⟨b1, 0, none⟩)), (3, .slice none 0 0), (4, .slice none 0 0), (5, .slice none 0 0), (6, .pointer (some ⟨ghR4, 0, none⟩)), (7, .pointer (some ⟨b8, 0, none⟩)), (8, U.1), (9, U.2.1), (10, U.2.2), (11, .int .i64 k)]) (fun k U P E => (0 ≤ k ∧ k ≤ 3) ∧ ((P.1.length : Int) + k = 1 + xhR15 ∧ P.2.length = P.1.length ∧ E.length = P.1.length) ∧ PtsOk n P.1 ∧ PtsOk n P.2 ∧ ExsOk E) (fun k U P E => k.toNat) _ (_, _, _) ([], []) [] ⟨by omega, ⟨by simp, rfl, rfl⟩, fun i hi => absurd hi (by simp), fun i hi => absurd hi (by simp), fun i hi => absurd hi (by simp)⟩ (sub_cons (d := 0) rfl (sub_cons (d := 2) rfl (sub_cons (d := 3) rfl (sub_cons (d := 4) rfl (sub_cons (d := 5) rfl (sub_cons (d := 6) rfl (sub_cons (d := 7) rfl (sub_cons (d := 8) rfl (sub_cons (d := 9) rfl (sub_cons (d := 10) rfl (sub_cons (d := 11) rfl (sub_nil _)))))))))))) ((.cons_cons _ (.cons_cons _ (.cons_cons _ (.cons_cons _ (.cons_cons _ (.cons_cons _ (.cons_cons _ .slnil)))))))) ?_
  intro k U P E hi16
  obtain ⟨⟨hk0, hk1⟩, ⟨hl1, hl2, hl3⟩, hpa, hpb, hex⟩ := hi16
  refine hc_seq ?_
  refine hc_seq ?_
  refine hc_region ?_
  refine hl_v rfl rfl rfl (rv_ev rfl) ?_
  refine hl_gtr rfl rfl rfl rfl rfl rfl (fun h17 => ?_) (fun h17 => ?_)
  ·
    refine hl_less (sub_cons (d := 0) rfl (sub_cons (d := 2) rfl (sub_cons (d := 3) rfl (sub_cons (d := 4) rfl (sub_cons (d := 5) rfl (sub_cons (d := 6) rfl (sub_cons (d := 7) rfl (sub_cons (d := 8) rfl (sub_cons (d := 9) rfl (sub_cons (d := 10) rfl (sub_cons (d := 11) rfl (sub_cons (d := 23) rfl (sub_nil _))))))))))))) (.refl _) ?_
    refine hl_nil ?_
    refine hq_then ?_
    refine hc_true rfl ?_
    refine hc_skip ?_
    refine hq_then ?_
    refine hc_seq ?_
    refine hc_block ?_
    refine hc_seq ?_
    refine hc_region ?_
    refine hl_v rfl rfl rfl (rv_ev rfl) ?_
    refine hl_v rfl rfl rfl (rv_ev rfl) ?_
    refine hl_v rfl rfl rfl (rv_field (k0 := 0) rfl (by kernel_rfl) rfl) ?_
    refine hl_v rfl rfl rfl (rv_load rfl (by kernel_rfl) rfl (box_cell 5 rfl rfl)) ?_
    refine hl_callM (R := (fun u_ p_ => (∃ x_ : Int, u_ = .int .i64 x_ ∧ 0 ≤ x_ ∧ x_ < n) ∧ p_ = curE ghR4 a len cap)) 3 rfl rfl (by kernel_rfl) rfl rfl (fun l' w hm => belowN_mut ghR4 a len cap z n _ _ _ hm hb (by constructor <;> omega)) ?_
    intro v18 p19 hR20
    obtain ⟨⟨xhR20, rfl, xhR200, xhR201⟩, rfl⟩ := hR20
    refine hl_eqL (l' := [rowE 72 3 U.2.2 E.length (E.flatMap excC), rowE 47 2 U.2.1 P.2.length (P.2.flatMap pntC), rowE 47 2 U.1 P.1.length (P.1.flatMap pntC), curE ghR4 a len cap, rowE 82 3 u gs.length (gs.flatMap arcC), boxE b8 #[.int .i64 n, u] 38, boxE b1 #[.int .i64 0, .slice none 0 0] 38]) rfl ?_
    refine hl_v rfl rfl rfl (rv_ev rfl) ?_
    refine hl_callM (R := (fun u_ p_ => (∃ x_ : Int, u_ = .int .i64 x_ ∧ 0 ≤ x_ ∧ x_ < 9) ∧ p_ = curE ghR4 a len cap)) 3 rfl rfl (by kernel_rfl) rfl rfl (fun l' w hm => belowN_mut ghR4 a len cap z 9 _ _ _ hm hb (by constructor <;> omega)) ?_
    intro v21 p22 hR23
    obtain ⟨⟨xhR23, rfl, xhR230, xhR231⟩, rfl⟩ := hR23
    refine hl_eqL (l' := [rowE 72 3 U.2.2 E.length (E.flatMap excC), rowE 47 2 U.2.1 P.2.length (P.2.flatMap pntC), rowE 47 2 U.1 P.1.length (P.1.flatMap pntC), curE ghR4 a len cap, rowE 82 3 u gs.length (gs.flatMap arcC), boxE b8 #[.int .i64 n, u] 38, boxE b1 #[.int .i64 0, .slice none 0 0] 38]) rfl ?_
    refine hl_v rfl rfl rfl (rv_build (cs := #[.int .i64 xhR20, .int .i64 xhR23]) rfl rfl (by kernel_rfl)) ?_
    refine hl_row rfl rfl rfl (rq_buildSlice (z := .agg #[.int .i64 0, .int .i64 0]) (s := 2) (cs := ([xhR20, xhR23].map (Value.int .i64))) rfl Try.underlying39 (by kernel_rfl) (by decide) rfl (by kernel_rfl) rfl) ?_
    intro g24
    refine hl_append (i := 3) (z := .agg #[.int .i64 0, .int .i64 0]) (bytes := 16) (n' := (P.1 ++ [Pnt.mk xhR20 xhR23]).length) (xs' := ((P.1 ++ [Pnt.mk xhR20 xhR23]).flatMap pntC)) (L := fun v25 => [rowE 47 2 (.slice (some ⟨g24, 0, none⟩) 1 1) 1 ([xhR20, xhR23].map (Value.int .i64)), rowE 72 3 U.2.2 E.length (E.flatMap excC), rowE 47 2 U.2.1 P.2.length (P.2.flatMap pntC), rowE 47 2 v25 ((P.1 ++ [Pnt.mk xhR20 xhR23]).length) ((P.1 ++ [Pnt.mk xhR20 xhR23]).flatMap pntC), curE ghR4 a len cap, rowE 82 3 u gs.length (gs.flatMap arcC), boxE b8 #[.int .i64 n, u] 38, boxE b1 #[.int .i64 0, .slice none 0 0] 38]) rfl rfl rfl rfl Try.underlying39 (by kernel_rfl) (by kernel_rfl) rfl rfl rfl (rd_row 0 rfl) (ints_one _) (by first | omega | (simp only [List.length_append, List.length_cons, List.length_nil]; omega)) (len_app P.1 [Pnt.mk xhR20 xhR23]) (flat_app1 pntC P.1 (Pnt.mk xhR20 xhR23) _ rfl) (fun _ => rfl) ?_
    intro v25
    refine hl_v rfl rfl rfl (rv_ev rfl) ?_
    refine hl_less (sub_cons (d := 0) rfl (sub_cons (d := 2) rfl (sub_cons (d := 3) rfl (sub_cons (d := 4) rfl (sub_cons (d := 5) rfl (sub_cons (d := 6) rfl (sub_cons (d := 7) rfl (sub_cons (d := 8) rfl (sub_cons (d := 9) rfl (sub_cons (d := 10) rfl (sub_cons (d := 11) rfl (sub_cons (d := 23) rfl (sub_nil _))))))))))))) (.refl _) ?_
    refine hl_nil ?_
    refine hq_then ?_
    refine hc_seq ?_
    refine hc_region ?_
    refine hl_v rfl rfl rfl (rv_ev rfl) ?_
    refine hl_v rfl rfl rfl (rv_ev rfl) ?_
    refine hl_v rfl rfl rfl (rv_field (k0 := 0) rfl (by kernel_rfl) rfl) ?_
    refine hl_v rfl rfl rfl (rv_load rfl (by kernel_rfl) rfl (box_cell 6 rfl rfl)) ?_
    refine hl_callM (R := (fun u_ p_ => (∃ x_ : Int, u_ = .int .i64 x_ ∧ 0 ≤ x_ ∧ x_ < n) ∧ p_ = curE ghR4 a len cap)) 4 rfl rfl (by kernel_rfl) rfl rfl (fun l' w hm => belowN_mut ghR4 a len cap z n _ _ _ hm hb (by constructor <;> omega)) ?_
    intro v26 p27 hR28
    obtain ⟨⟨xhR28, rfl, xhR280, xhR281⟩, rfl⟩ := hR28
    refine hl_eqL (l' := [rowE 47 2 (.slice (some ⟨g24, 0, none⟩) 1 1) 1 ([xhR20, xhR23].map (Value.int .i64)), rowE 72 3 U.2.2 E.length (E.flatMap excC), rowE 47 2 U.2.1 P.2.length (P.2.flatMap pntC), rowE 47 2 v25 ((P.1 ++ [Pnt.mk xhR20 xhR23]).length) ((P.1 ++ [Pnt.mk xhR20 xhR23]).flatMap pntC), curE ghR4 a len cap, rowE 82 3 u gs.length (gs.flatMap arcC), boxE b8 #[.int .i64 n, u] 38, boxE b1 #[.int .i64 0, .slice none 0 0] 38]) rfl ?_
    refine hl_v rfl rfl rfl (rv_ev rfl) ?_
    refine hl_callM (R := (fun u_ p_ => (∃ x_ : Int, u_ = .int .i64 x_ ∧ 0 ≤ x_ ∧ x_ < 9) ∧ p_ = curE ghR4 a len cap)) 4 rfl rfl (by kernel_rfl) rfl rfl (fun l' w hm => belowN_mut ghR4 a len cap z 9 _ _ _ hm hb (by constructor <;> omega)) ?_
    intro v29 p30 hR31
    obtain ⟨⟨xhR31, rfl, xhR310, xhR311⟩, rfl⟩ := hR31
    refine hl_eqL (l' := [rowE 47 2 (.slice (some ⟨g24, 0, none⟩) 1 1) 1 ([xhR20, xhR23].map (Value.int .i64)), rowE 72 3 U.2.2 E.length (E.flatMap excC), rowE 47 2 U.2.1 P.2.length (P.2.flatMap pntC), rowE 47 2 v25 ((P.1 ++ [Pnt.mk xhR20 xhR23]).length) ((P.1 ++ [Pnt.mk xhR20 xhR23]).flatMap pntC), curE ghR4 a len cap, rowE 82 3 u gs.length (gs.flatMap arcC), boxE b8 #[.int .i64 n, u] 38, boxE b1 #[.int .i64 0, .slice none 0 0] 38]) rfl ?_
    refine hl_v rfl rfl rfl (rv_build (cs := #[.int .i64 xhR28, .int .i64 xhR31]) rfl rfl (by kernel_rfl)) ?_
    refine hl_row rfl rfl rfl (rq_buildSlice (z := .agg #[.int .i64 0, .int .i64 0]) (s := 2) (cs := ([xhR28, xhR31].map (Value.int .i64))) rfl Try.underlying39 (by kernel_rfl) (by decide) rfl (by kernel_rfl) rfl) ?_
    intro g32
    refine hl_append (i := 3) (z := .agg #[.int .i64 0, .int .i64 0]) (bytes := 16) (n' := (P.2 ++ [Pnt.mk xhR28 xhR31]).length) (xs' := ((P.2 ++ [Pnt.mk xhR28 xhR31]).flatMap pntC)) (L := fun v33 => [rowE 47 2 (.slice (some ⟨g32, 0, none⟩) 1 1) 1 ([xhR28, xhR31].map (Value.int .i64)), rowE 47 2 (.slice (some ⟨g24, 0, none⟩) 1 1) 1 ([xhR20, xhR23].map (Value.int .i64)), rowE 72 3 U.2.2 E.length (E.flatMap excC), rowE 47 2 v33 ((P.2 ++ [Pnt.mk xhR28 xhR31]).length) ((P.2 ++ [Pnt.mk xhR28 xhR31]).flatMap pntC), rowE 47 2 v25 ((P.1 ++ [Pnt.mk xhR20 xhR23]).length) ((P.1 ++ [Pnt.mk xhR20 xhR23]).flatMap pntC), curE ghR4 a len cap, rowE 82 3 u gs.length (gs.flatMap arcC), boxE b8 #[.int .i64 n, u] 38, boxE b1 #[.int .i64 0, .slice none 0 0] 38]) rfl rfl rfl rfl Try.underlying39 (by kernel_rfl) (by kernel_rfl) rfl rfl rfl (rd_row 0 rfl) (ints_one _) (by first | omega | (simp only [List.length_append, List.length_cons, List.length_nil]; omega)) (len_app P.2 [Pnt.mk xhR28 xhR31]) (flat_app1 pntC P.2 (Pnt.mk xhR28 xhR31) _ rfl) (fun _ => rfl) ?_
    intro v33
    refine hl_v rfl rfl rfl (rv_ev rfl) ?_
    refine hl_less (sub_cons (d := 0) rfl (sub_cons (d := 2) rfl (sub_cons (d := 3) rfl (sub_cons (d := 4) rfl (sub_cons (d := 5) rfl (sub_cons (d := 6) rfl (sub_cons (d := 7) rfl (sub_cons (d := 8) rfl (sub_cons (d := 9) rfl (sub_cons (d := 10) rfl (sub_cons (d := 11) rfl (sub_cons (d := 23) rfl (sub_nil _))))))))))))) (.refl _) ?_
    refine hl_nil ?_
    refine hq_then ?_
    refine hc_region ?_
    refine hl_v rfl rfl rfl (rv_ev rfl) ?_
    refine hl_v rfl rfl rfl (rv_ev rfl) ?_
    refine hl_callM (R := (fun u_ p_ => (∃ x_ : Int, u_ = .int .i64 x_ ∧ 0 ≤ x_ ∧ x_ < 4) ∧ p_ = curE ghR4 a len cap)) 5 rfl rfl (by kernel_rfl) rfl rfl (fun l' w hm => belowN_mut ghR4 a len cap z 4 _ _ _ hm hb (by constructor <;> omega)) ?_
    intro v34 p35 hR36
    obtain ⟨⟨xhR36, rfl, xhR360, xhR361⟩, rfl⟩ := hR36
    refine hl_eqL (l' := [rowE 47 2 (.slice (some ⟨g32, 0, none⟩) 1 1) 1 ([xhR28, xhR31].map (Value.int .i64)), rowE 47 2 (.slice (some ⟨g24, 0, none⟩) 1 1) 1 ([xhR20, xhR23].map (Value.int .i64)), rowE 72 3 U.2.2 E.length (E.flatMap excC), rowE 47 2 v33 ((P.2 ++ [Pnt.mk xhR28 xhR31]).length) ((P.2 ++ [Pnt.mk xhR28 xhR31]).flatMap pntC), rowE 47 2 v25 ((P.1 ++ [Pnt.mk xhR20 xhR23]).length) ((P.1 ++ [Pnt.mk xhR20 xhR23]).flatMap pntC), curE ghR4 a len cap, rowE 82 3 u gs.length (gs.flatMap arcC), boxE b8 #[.int .i64 n, u] 38, boxE b1 #[.int .i64 0, .slice none 0 0] 38]) rfl ?_
    refine hl_v rfl rfl rfl (rv_ev rfl) ?_
    refine hl_callM (R := (fun u_ p_ => (∃ x_ : Int, u_ = .int .i64 x_ ∧ 0 ≤ x_ ∧ x_ < 4) ∧ p_ = curE ghR4 a len cap)) 5 rfl rfl (by kernel_rfl) rfl rfl (fun l' w hm => belowN_mut ghR4 a len cap z 4 _ _ _ hm hb (by constructor <;> omega)) ?_
    intro v37 p38 hR39
    obtain ⟨⟨xhR39, rfl, xhR390, xhR391⟩, rfl⟩ := hR39
    refine hl_eqL (l' := [rowE 47 2 (.slice (some ⟨g32, 0, none⟩) 1 1) 1 ([xhR28, xhR31].map (Value.int .i64)), rowE 47 2 (.slice (some ⟨g24, 0, none⟩) 1 1) 1 ([xhR20, xhR23].map (Value.int .i64)), rowE 72 3 U.2.2 E.length (E.flatMap excC), rowE 47 2 v33 ((P.2 ++ [Pnt.mk xhR28 xhR31]).length) ((P.2 ++ [Pnt.mk xhR28 xhR31]).flatMap pntC), rowE 47 2 v25 ((P.1 ++ [Pnt.mk xhR20 xhR23]).length) ((P.1 ++ [Pnt.mk xhR20 xhR23]).flatMap pntC), curE ghR4 a len cap, rowE 82 3 u gs.length (gs.flatMap arcC), boxE b8 #[.int .i64 n, u] 38, boxE b1 #[.int .i64 0, .slice none 0 0] 38]) rfl ?_
    refine hl_v rfl rfl rfl (rv_ev rfl) ?_
    refine hl_callM (R := (fun u_ p_ => (∃ x_ : Int, u_ = .int .i64 x_ ∧ 0 ≤ x_ ∧ x_ < 4) ∧ p_ = curE ghR4 a len cap)) 5 rfl rfl (by kernel_rfl) rfl rfl (fun l' w hm => belowN_mut ghR4 a len cap z 4 _ _ _ hm hb (by constructor <;> omega)) ?_
    intro v40 p41 hR42
    obtain ⟨⟨xhR42, rfl, xhR420, xhR421⟩, rfl⟩ := hR42
    refine hl_eqL (l' := [rowE 47 2 (.slice (some ⟨g32, 0, none⟩) 1 1) 1 ([xhR28, xhR31].map (Value.int .i64)), rowE 47 2 (.slice (some ⟨g24, 0, none⟩) 1 1) 1 ([xhR20, xhR23].map (Value.int .i64)), rowE 72 3 U.2.2 E.length (E.flatMap excC), rowE 47 2 v33 ((P.2 ++ [Pnt.mk xhR28 xhR31]).length) ((P.2 ++ [Pnt.mk xhR28 xhR31]).flatMap pntC), rowE 47 2 v25 ((P.1 ++ [Pnt.mk xhR20 xhR23]).length) ((P.1 ++ [Pnt.mk xhR20 xhR23]).flatMap pntC), curE ghR4 a len cap, rowE 82 3 u gs.length (gs.flatMap arcC), boxE b8 #[.int .i64 n, u] 38, boxE b1 #[.int .i64 0, .slice none 0 0] 38]) rfl ?_
    refine hl_v rfl rfl rfl (rv_build (cs := #[.int .i64 xhR36, .int .i64 xhR39, .int .i64 xhR42]) rfl rfl (by kernel_rfl)) ?_
    refine hl_row rfl rfl rfl (rq_buildSlice (z := .agg #[.int .i64 0, .int .i64 0, .int .i64 0]) (s := 3) (cs := ([xhR36, xhR39, xhR42].map (Value.int .i64))) rfl Try.underlying40 (by kernel_rfl) (by decide) rfl (by kernel_rfl) rfl) ?_
    intro g43
    refine hl_append (i := 3) (z := .agg #[.int .i64 0, .int .i64 0, .int .i64 0]) (bytes := 24) (n' := (E ++ [Exc.mk xhR36 xhR39 xhR42]).length) (xs' := ((E ++ [Exc.mk xhR36 xhR39 xhR42]).flatMap excC)) (L := fun v44 => [rowE 72 3 (.slice (some ⟨g43, 0, none⟩) 1 1) 1 ([xhR36, xhR39, xhR42].map (Value.int .i64)), rowE 47 2 (.slice (some ⟨g32, 0, none⟩) 1 1) 1 ([xhR28, xhR31].map (Value.int .i64)), rowE 47 2 (.slice (some ⟨g24, 0, none⟩) 1 1) 1 ([xhR20, xhR23].map (Value.int .i64)), rowE 72 3 v44 ((E ++ [Exc.mk xhR36 xhR39 xhR42]).length) ((E ++ [Exc.mk xhR36 xhR39 xhR42]).flatMap excC), rowE 47 2 v33 ((P.2 ++ [Pnt.mk xhR28 xhR31]).length) ((P.2 ++ [Pnt.mk xhR28 xhR31]).flatMap pntC), rowE 47 2 v25 ((P.1 ++ [Pnt.mk xhR20 xhR23]).length) ((P.1 ++ [Pnt.mk xhR20 xhR23]).flatMap pntC), curE ghR4 a len cap, rowE 82 3 u gs.length (gs.flatMap arcC), boxE b8 #[.int .i64 n, u] 38, boxE b1 #[.int .i64 0, .slice none 0 0] 38]) rfl rfl rfl rfl Try.underlying40 (by kernel_rfl) (by kernel_rfl) rfl rfl rfl (rd_row 0 rfl) (ints_one _) (by first | omega | (simp only [List.length_append, List.length_cons, List.length_nil]; omega)) (len_app E [Exc.mk xhR36 xhR39 xhR42]) (flat_app1 excC E (Exc.mk xhR36 xhR39 xhR42) _ rfl) (fun _ => rfl) ?_
    intro v44
    refine hl_v rfl rfl rfl (rv_ev rfl) ?_
    refine hl_less (sub_cons (d := 0) rfl (sub_cons (d := 2) rfl (sub_cons (d := 3) rfl (sub_cons (d := 4) rfl (sub_cons (d := 5) rfl (sub_cons (d := 6) rfl (sub_cons (d := 7) rfl (sub_cons (d := 8) rfl (sub_cons (d := 9) rfl (sub_cons (d := 10) rfl (sub_cons (d := 11) rfl (sub_cons (d := 23) rfl (sub_nil _))))))))))))) (.refl _) ?_
    refine hl_nil ?_
    refine hq_block_normal ?_
    refine hq_then ?_
    refine hc_region ?_
    refine hl_v rfl rfl rfl (rv_ev rfl) ?_
    refine hl_v rfl rfl rfl (rv_sub rfl rfl rfl (by constructor <;> omega)) ?_
    refine hl_v rfl rfl rfl (rv_ev rfl) ?_
    refine hl_less (sub_cons (d := 0) rfl (sub_cons (d := 2) rfl (sub_cons (d := 3) rfl (sub_cons (d := 4) rfl (sub_cons (d := 5) rfl (sub_cons (d := 6) rfl (sub_cons (d := 7) rfl (sub_cons (d := 8) rfl (sub_cons (d := 9) rfl (sub_cons (d := 10) rfl (sub_cons (d := 11) rfl (sub_cons (d := 23) rfl (sub_nil _))))))))))))) (.refl _) ?_
    refine hl_nil ?_
    exact hq_round4 (k - 1) (v25, v33, v44) (P.1 ++ [Pnt.mk xhR20 xhR23], P.2 ++ [Pnt.mk xhR28 xhR31]) (E ++ [Exc.mk xhR36 xhR39 xhR42]) ⟨by omega, ⟨by simp only [List.length_append, List.length_singleton]; omega, by simp only [List.length_append, List.length_singleton]; omega, by simp only [List.length_append, List.length_singleton]; omega⟩, pts_app hpa (by dsimp only; omega), pts_app hpb (by dsimp only; omega), exs_app hex (by dsimp only; omega)⟩ (by omega) (sub_cons (d := 0) rfl (sub_cons (d := 2) rfl (sub_cons (d := 3) rfl (sub_cons (d := 4) rfl (sub_cons (d := 5) rfl (sub_cons (d := 6) rfl (sub_cons (d := 7) rfl (sub_cons (d := 8) rfl (sub_cons (d := 9) rfl (sub_cons (d := 10) rfl (sub_cons (d := 11) rfl (sub_nil _)))))))))))) ((.cons _ (.cons _ (.cons _ (.cons_cons _ (.cons_cons _ (.cons_cons _ (.cons_cons _ (.cons_cons _ (.cons_cons _ (.cons_cons _ .slnil)))))))))))
  ·
    refine hl_less (sub_cons (d := 0) rfl (sub_cons (d := 2) rfl (sub_cons (d := 3) rfl (sub_cons (d := 4) rfl (sub_cons (d := 5) rfl (sub_cons (d := 6) rfl (sub_cons (d := 7) rfl (sub_cons (d := 8) rfl (sub_cons (d := 9) rfl (sub_cons (d := 10) rfl (sub_cons (d := 11) rfl (sub_cons (d := 23) rfl (sub_nil _))))))))))))) (.refl _) ?_
    refine hl_nil ?_
    refine hq_then ?_
    refine hc_false rfl ?_
    refine hc_exit ?_
    refine hq_then_exit ?_
    refine hq_then_exit ?_
    refine hq_block_exit ?_
    refine hq_then ?_
    refine hc_seq ?_
    refine hc_region ?_
    refine hl_v rfl rfl rfl (rv_loadN (cs := [.int .i64 n, u]) rfl (by kernel_rfl) (by kernel_rfl) rfl rfl (box_part 5 rfl 0 rfl)) ?_
    refine hl_v rfl rfl rfl (rv_ev rfl) ?_
    refine hl_v rfl rfl rfl (rv_ev rfl) ?_
    refine hl_v rfl rfl rfl (rv_ev rfl) ?_
    refine hl_storeBoxN (i := 6) (off := 0) (us := [.int .i64 n, u]) (l' := [rowE 72 3 U.2.2 E.length (E.flatMap excC), rowE 47 2 U.2.1 P.2.length (P.2.flatMap pntC), rowE 47 2 U.1 P.1.length (P.1.flatMap pntC), curE ghR4 a len cap, rowE 82 3 u gs.length (gs.flatMap arcC), boxE b8 #[.int .i64 n, u] 38, boxE b1 #[.int .i64 n, u] 38]) rfl rfl rfl (by kernel_rfl) rfl rfl rfl (all_cons rfl (all_cons ho9 all_nil)) rfl rfl rfl ?_
    refine hl_v rfl rfl rfl (rv_ev rfl) ?_
    refine hl_v rfl rfl rfl (rv_ev rfl) ?_
    refine hl_v rfl rfl rfl (rv_ev rfl) ?_
    refine hl_less (sub_cons (d := 0) rfl (sub_cons (d := 2) rfl (sub_cons (d := 3) rfl (sub_cons (d := 4) rfl (sub_cons (d := 5) rfl (sub_cons (d := 6) rfl (sub_cons (d := 7) rfl (sub_cons (d := 8) rfl (sub_cons (d := 9) rfl (sub_cons (d := 10) rfl (sub_cons (d := 11) rfl (sub_cons (d := 23) rfl (sub_nil _))))))))))))) (.refl _) ?_
    refine hl_nil ?_
    refine hq_then ?_
    refine hc_ret ?_
    refine hq_conv [rowE 82 3 u gs.length (gs.flatMap arcC), rowE 47 2 U.1 P.1.length (P.1.flatMap pntC), rowE 47 2 U.2.1 P.2.length (P.2.flatMap pntC), rowE 72 3 U.2.2 E.length (E.flatMap excC), curE ghR4 a len cap, boxE b8 #[.int .i64 n, u] 38, boxE b1 #[.int .i64 n, u] 38] (conv_pick (src := [rowE 72 3 U.2.2 E.length (E.flatMap excC), rowE 47 2 U.2.1 P.2.length (P.2.flatMap pntC), rowE 47 2 U.1 P.1.length (P.1.flatMap pntC), curE ghR4 a len cap, rowE 82 3 u gs.length (gs.flatMap arcC), boxE b8 #[.int .i64 n, u] 38, boxE b1 #[.int .i64 n, u] 38]) (dst := [rowE 82 3 u gs.length (gs.flatMap arcC), rowE 47 2 U.1 P.1.length (P.1.flatMap pntC), rowE 47 2 U.2.1 P.2.length (P.2.flatMap pntC), rowE 72 3 U.2.2 E.length (E.flatMap excC), curE ghR4 a len cap, boxE b8 #[.int .i64 n, u] 38, boxE b1 #[.int .i64 n, u] 38]) (l := []) [4, 2, 1, 0, 3, 5, 6] (by decide) rfl) ?_
    exact hq_retM (rs := [.cell 2 38, .tmp 3, .tmp 4, .tmp 5]) (vs := [.agg #[.int .i64 n, u], U.1, U.2.1, U.2.2]) (post := [rowE 82 3 u gs.length (gs.flatMap arcC), rowE 47 2 U.1 P.1.length (P.1.flatMap pntC), rowE 47 2 U.2.1 P.2.length (P.2.flatMap pntC), rowE 72 3 U.2.2 E.length (E.flatMap excC)]) rfl ⟨⟨b1, 0, [.int .i64 n, u], rfl, rfl, by kernel_rfl, by kernel_rfl, box_part 6 rfl 0 rfl⟩, rfl, rfl, rfl, trivial⟩ rfl ((.cons_cons _ (.cons_cons _ (.cons_cons _ (.cons_cons _ (.cons _ (.cons _ (.cons _ .slnil)))))))) ⟨n, gs, u, U.1, U.2.1, U.2.2, P.1, P.2, E, rfl, rfl, hg, ⟨hn2, hn9⟩, ⟨by omega, by omega, by omega, by omega⟩, hpa, hpb, hex⟩
end Go.Proofs.Yteccnnpcigkmhaa
