/- EmptyTile, and the law FnExactEmptyTile. -/
import Derived.Test.YtnnkbpcfjjijbaaEx3
import Derived.Test.YtnnkbpcfjjijbaaMux
set_option linter.unusedVariables false
set_option linter.unusedSimpArgs false
namespace Go.Proofs.Ytnnkbpcfjjijbaa
open Go.RowKit

abbrev lz : Le := ⟨.slice none 0 0, [0, 0, 0, 0], 0, 0, 0⟩
def emptyT (d : Dev) : List Int × List (List Int × Int × Int × Int) × Int × Int := if devB d = true then (List.replicate (5 + 4 * d.T).toNat 0, [([0, 0, 0, 0], 0, 0, 0), ([0, 0, 0, 0], 0, 0, 0)], 0, 0) else ([], [], 0, 0)
/-- a configuration that a call hands back -/
def IsTc (val : List Int × List (List Int × Int × Int × Int) × Int × Int) (v : Value) (post : List HP) : Prop := ∃ t : Tc, v = t.agg ∧ post = [tcE t] ∧ (t.mv.oneCell' = true ∧ t.lv.oneCell' = true) ∧ t.val = val ∧ t.mx.length ≤ 2000000 ∧ t.es.length ≤ 2000000 ∧ ∀ e ∈ t.es, e.xs.length ≤ 2000000
theorem Mem.tc {w0 w : World} {l : List HP} (t : Tc) (h : Mem w0 (t.es.map lePart ++ (rowE 87 4 t.lv t.es.length (t.es.flatMap Le.cells) :: rowE 3 1 t.mv t.mx.length (t.mx.map (Value.int .i64)) :: l)) w) : Mem w0 (tcE t :: l) w := by
  have h1 : Mem w0 ([bigE (t.es.map lePart), rowE 87 4 t.lv t.es.length (t.es.flatMap Le.cells)] ++ (rowE 3 1 t.mv t.mx.length (t.mx.map (Value.int .i64)) :: l)) w := h.big
  have h2 := h1.big.perm (.swap _ _ _)
  exact Mem.big (ps := [rowE 3 1 t.mv t.mx.length (t.mx.map (Value.int .i64)), lesE t.lv t.es]) h2
theorem Mem.tcNil {w0 w : World} {l : List HP} (h : Mem w0 l w) : Mem w0 (tcE ⟨.slice none 0 0, [], .slice none 0 0, [], 0, 0⟩ :: l) w :=
  Mem.tc ⟨.slice none 0 0, [], .slice none 0 0, [], 0, 0⟩ ((h.nilRow 3 1).nilRow 87 4)
theorem markT_bounds {k : Int} {t : Tc} (h1 : t.mx.length ≤ 2000000) (h2 : t.es.length ≤ 2000000) (h3 : ∀ e ∈ t.es, e.xs.length ≤ 2000000) : (markT k t).mx.length ≤ 2000000 ∧ (markT k t).es.length ≤ 2000000 ∧ ∀ e ∈ (markT k t).es, e.xs.length ≤ 2000000 :=
  ⟨by simpa [markT, seqL_len] using h1, by simpa [markT, markEs_len] using h2, markEs_mem _ _ h3⟩
theorem sumT_rng {t : Tc} (h1 : t.mx.length ≤ 2000000) (h3 : ∀ e ∈ t.es, e.xs.length ≤ 2000000) : 1 ≤ sumT 1 t := by
  have := sumK_le t.es (1 + t.mx.length) h3
  unfold sumT; omega
set_option maxHeartbeats 4000000 in
set_option maxRecDepth 100000 in
theorem implEmptyTile_ret (d : Dev) (w : World)  :
    Calls Try.prog 27 #[.agg #[.int .i64 d.W, .int .i64 d.H, .int .i64 d.T, .int .i64 d.R]] w (Ret w (IsTc (emptyT d))) := by
  refine calls_hc (N := 16) (args := [.agg #[.int .i64 d.W, .int .i64 d.H, .int .i64 d.T, .int .i64 d.R]]) Try.func27 rfl rfl ?_
  refine hc_less _ (sub_cons (d := 0) rfl (sub_nil _)) (.refl _) ?_
  refine hc_seq ?_
  refine hc_region ?_
  refine hl_box rfl rfl rfl (rq_box rfl rfl) ?_
  intro b1
  refine hl_box rfl rfl rfl (rq_alloc (z := .agg #[.slice none 0 0, .slice none 0 0, .int .i64 0, .int .i64 0]) rfl (by kernel_rfl)) ?_
  intro b2
  refine hl_less (sub_cons (d := 0) rfl (sub_cons (d := 1) rfl (sub_cons (d := 2) rfl (sub_nil _)))) (.refl _) ?_
  refine hl_nil ?_
  refine hq_then ?_
  refine hc_seq ?_
  refine hc_seq ?_
  refine hc_region ?_
  refine hl_v rfl rfl rfl (rv_loadN (cs := [.int .i64 d.W, .int .i64 d.H, .int .i64 d.T, .int .i64 d.R]) rfl (by kernel_rfl) (by kernel_rfl) rfl rfl (box_part 1 rfl 0 rfl)) ?_
  refine hl_callV rfl rfl rfl (rq_call (by kernel_rfl) rfl (fun w hm => ret_ans (implDeviceOk_any d w))) ?_
  refine hl_bool (fun h3 => ?_) (fun h3 => ?_)
  ·
    obtain ⟨-, -, ⟨l1, l2⟩, -⟩ := (devB_iff d).1 h3
    refine hl_v rfl rfl rfl (rv_ev rfl) ?_
    refine hl_less (sub_cons (d := 0) rfl (sub_cons (d := 1) rfl (sub_cons (d := 2) rfl (sub_cons (d := 5) rfl (sub_nil _))))) (.refl _) ?_
    refine hl_nil ?_
    refine hq_then ?_
    refine hc_false rfl ?_
    refine hc_skip ?_
    refine hq_then ?_
    refine hc_seq ?_
    refine hc_draw (by kernel_rfl) 9 [0, 1, 2, 3, 4, 5, 6, 7, 8] (List.take 9 _) (List.drop 9 _) [[], [0], [1], [], [3], [], [5], [3, 4, 5, 6], [2, 3, 5, 7]] [7, 8, 9, 10, 11, 12, 13, 14, 15] (fun i vs_ v_ p_ => match i with | 0 => v_ = .agg #[.int .i64 d.W, .int .i64 d.H, .int .i64 d.T, .int .i64 d.R] ∧ p_ = [] | 1 => v_ = .int .i64 (5 + 4 * d.T) ∧ p_ = [] | 2 => IsRow 3 1 ((List.replicate (5 + 4 * d.T).toNat (0 : Int)).length) ((List.replicate (5 + 4 * d.T).toNat (0 : Int)).map (Value.int .i64)) v_ p_ | 3 => IsRow 3 1 ((List.replicate 4 (0 : Int)).length) ((List.replicate 4 (0 : Int)).map (Value.int .i64)) v_ p_ | 4 => v_ = .agg #[(List.getD vs_ 0 undef), .int .i64 0, .int .i64 0, .int .i64 0] ∧ p_ = [] | 5 => IsRow 3 1 ((List.replicate 4 (0 : Int)).length) ((List.replicate 4 (0 : Int)).map (Value.int .i64)) v_ p_ | 6 => v_ = .agg #[(List.getD vs_ 0 undef), .int .i64 0, .int .i64 0, .int .i64 0] ∧ p_ = [] | 7 => IsRow 87 4 2 ([(List.getD vs_ 0 undef), .int .i64 0, .int .i64 0, .int .i64 0, (List.getD vs_ 2 undef), .int .i64 0, .int .i64 0, .int .i64 0]) v_ p_ | 8 => v_ = .agg #[(List.getD vs_ 0 undef), (List.getD vs_ 3 undef), .int .i64 0, .int .i64 0] ∧ p_ = [] | _ => True) (List.take_append_drop 9 _).symm (by kernel_rfl) (by kernel_rfl) rfl rfl ?_ ?_
    ·
      refine ⟨?_, ?_, ?_, ?_, ?_, ?_, ?_, ?_, ?_, trivial⟩
      ·
        intro vf pf hR
        refine Or.inl ⟨rfl, ?_⟩
        refine rq_less (l' := [boxE b2 #[.slice none 0 0, .slice none 0 0, .int .i64 0, .int .i64 0] 39, boxE b1 #[.int .i64 d.W, .int .i64 d.H, .int .i64 d.T, .int .i64 d.R] 25]) (sub_cons (d := 1) rfl (sub_nil _)) (List.sublist_append_right _ _) ?_
        exact rq_v (rv_loadN (cs := [.int .i64 d.W, .int .i64 d.H, .int .i64 d.T, .int .i64 d.R]) rfl (by kernel_rfl) (by kernel_rfl) rfl rfl (box_part 1 rfl 0 rfl))
      ·
        intro vf pf hR
        have e0 : (vf 0) = .agg #[.int .i64 d.W, .int .i64 d.H, .int .i64 d.T, .int .i64 d.R] ∧ (pf 0) = [] := hR 0 (by decide)
        refine Or.inl ⟨rfl, ?_⟩
        refine rq_less (l' := [boxE b2 #[.slice none 0 0, .slice none 0 0, .int .i64 0, .int .i64 0] 39, boxE b1 #[.int .i64 d.W, .int .i64 d.H, .int .i64 d.T, .int .i64 d.R] 25]) (sub_cons (d := 7) (congrArg some e0.1) (sub_nil _)) (List.sublist_append_right _ _) ?_
        exact (rq_call (by kernel_rfl) rfl (fun w hm => ret_ans (implMux_any d (by assumption) w)))
      ·
        intro vf pf hR
        have e1 : (vf 1) = .int .i64 (5 + 4 * d.T) ∧ (pf 1) = [] := hR 1 (by decide)
        refine Or.inl ⟨rfl, ?_⟩
        refine rq_less (l' := [boxE b2 #[.slice none 0 0, .slice none 0 0, .int .i64 0, .int .i64 0] 39, boxE b1 #[.int .i64 d.W, .int .i64 d.H, .int .i64 d.T, .int .i64 d.R] 25]) (sub_cons (d := 8) (congrArg some e1.1) (sub_nil _)) (List.sublist_append_right _ _) ?_
        exact rq_make (z := .int .i64 0) (s := 1) (bytes := 8) (n := (List.replicate (5 + 4 * d.T).toNat (0 : Int)).length) (cs := ((List.replicate (5 + 4 * d.T).toNat (0 : Int)).map (Value.int .i64))) rfl Try.underlying30 (by kernel_rfl) (by decide) rfl rfl (by rw [List.length_replicate]; omega) (by rw [List.length_replicate]; omega) (by rw [List.length_replicate]; omega) (ints_make _)
      ·
        intro vf pf hR
        refine Or.inl ⟨rfl, ?_⟩
        refine rq_less (l' := [boxE b2 #[.slice none 0 0, .slice none 0 0, .int .i64 0, .int .i64 0] 39, boxE b1 #[.int .i64 d.W, .int .i64 d.H, .int .i64 d.T, .int .i64 d.R] 25]) (sub_nil _) (List.sublist_append_right _ _) ?_
        exact rq_make (z := .int .i64 0) (s := 1) (bytes := 8) (n := (List.replicate 4 (0 : Int)).length) (cs := ((List.replicate 4 (0 : Int)).map (Value.int .i64))) rfl Try.underlying30 (by kernel_rfl) (by decide) rfl rfl (by rw [List.length_replicate]; omega) (by rw [List.length_replicate]; omega) (by rw [List.length_replicate]; omega) (ints_make _)
      ·
        intro vf pf hR
        have e3 : IsRow 3 1 ((List.replicate 4 (0 : Int)).length) ((List.replicate 4 (0 : Int)).map (Value.int .i64)) (vf 3) (pf 3) := hR 3 (by decide)
        obtain ⟨g5, v3, p3⟩ := e3
        refine Or.inl ⟨rfl, ?_⟩
        refine rq_less (l' := [rowE 3 1 (.slice (some ⟨g5, 0, none⟩) ((List.replicate 4 (0 : Int)).length) ((List.replicate 4 (0 : Int)).length)) ((List.replicate 4 (0 : Int)).length) ((List.replicate 4 (0 : Int)).map (Value.int .i64)), boxE b2 #[.slice none 0 0, .slice none 0 0, .int .i64 0, .int .i64 0] 39, boxE b1 #[.int .i64 d.W, .int .i64 d.H, .int .i64 d.T, .int .i64 d.R] 25]) (sub_cons (d := 10) (congrArg some v3) (sub_nil _)) (by first | (simp only [p3, v3, List.flatMap_cons, List.flatMap_nil, List.append_nil, List.nil_append, List.cons_append]; exact List.Sublist.refl _) | simp [p3, v3]) ?_
        exact rq_mono (rq_v (rv_build (cs := #[.slice (some ⟨g5, 0, none⟩) ((List.replicate 4 (0 : Int)).length) ((List.replicate 4 (0 : Int)).length), .int .i64 0, .int .i64 0, .int .i64 0]) rfl rfl (by kernel_rfl))) (fun _ _ h => ⟨h.1.trans (by show _ = (.agg #[(vf 3), .int .i64 0, .int .i64 0, .int .i64 0] : Value); rw [v3]), h.2⟩)
      ·
        intro vf pf hR
        refine Or.inl ⟨rfl, ?_⟩
        refine rq_less (l' := [boxE b2 #[.slice none 0 0, .slice none 0 0, .int .i64 0, .int .i64 0] 39, boxE b1 #[.int .i64 d.W, .int .i64 d.H, .int .i64 d.T, .int .i64 d.R] 25]) (sub_nil _) (List.sublist_append_right _ _) ?_
        exact rq_make (z := .int .i64 0) (s := 1) (bytes := 8) (n := (List.replicate 4 (0 : Int)).length) (cs := ((List.replicate 4 (0 : Int)).map (Value.int .i64))) rfl Try.underlying30 (by kernel_rfl) (by decide) rfl rfl (by rw [List.length_replicate]; omega) (by rw [List.length_replicate]; omega) (by rw [List.length_replicate]; omega) (ints_make _)
      ·
        intro vf pf hR
        have e5 : IsRow 3 1 ((List.replicate 4 (0 : Int)).length) ((List.replicate 4 (0 : Int)).map (Value.int .i64)) (vf 5) (pf 5) := hR 5 (by decide)
        obtain ⟨g6, v5, p5⟩ := e5
        refine Or.inl ⟨rfl, ?_⟩
        refine rq_less (l' := [rowE 3 1 (.slice (some ⟨g6, 0, none⟩) ((List.replicate 4 (0 : Int)).length) ((List.replicate 4 (0 : Int)).length)) ((List.replicate 4 (0 : Int)).length) ((List.replicate 4 (0 : Int)).map (Value.int .i64)), boxE b2 #[.slice none 0 0, .slice none 0 0, .int .i64 0, .int .i64 0] 39, boxE b1 #[.int .i64 d.W, .int .i64 d.H, .int .i64 d.T, .int .i64 d.R] 25]) (sub_cons (d := 12) (congrArg some v5) (sub_nil _)) (by first | (simp only [p5, v5, List.flatMap_cons, List.flatMap_nil, List.append_nil, List.nil_append, List.cons_append]; exact List.Sublist.refl _) | simp [p5, v5]) ?_
        exact rq_mono (rq_v (rv_build (cs := #[.slice (some ⟨g6, 0, none⟩) ((List.replicate 4 (0 : Int)).length) ((List.replicate 4 (0 : Int)).length), .int .i64 0, .int .i64 0, .int .i64 0]) rfl rfl (by kernel_rfl))) (fun _ _ h => ⟨h.1.trans (by show _ = (.agg #[(vf 5), .int .i64 0, .int .i64 0, .int .i64 0] : Value); rw [v5]), h.2⟩)
      ·
        intro vf pf hR
        have e3 : IsRow 3 1 ((List.replicate 4 (0 : Int)).length) ((List.replicate 4 (0 : Int)).map (Value.int .i64)) (vf 3) (pf 3) := hR 3 (by decide)
        obtain ⟨g5, v3, p3⟩ := e3
        have e4 : (vf 4) = .agg #[(vf 3), .int .i64 0, .int .i64 0, .int .i64 0] ∧ (pf 4) = [] := hR 4 (by decide)
        rw [v3] at e4
        have e5 : IsRow 3 1 ((List.replicate 4 (0 : Int)).length) ((List.replicate 4 (0 : Int)).map (Value.int .i64)) (vf 5) (pf 5) := hR 5 (by decide)
        obtain ⟨g6, v5, p5⟩ := e5
        have e6 : (vf 6) = .agg #[(vf 5), .int .i64 0, .int .i64 0, .int .i64 0] ∧ (pf 6) = [] := hR 6 (by decide)
        rw [v5] at e6
        refine Or.inl ⟨rfl, ?_⟩
        refine rq_less (l' := [rowE 3 1 (.slice (some ⟨g5, 0, none⟩) ((List.replicate 4 (0 : Int)).length) ((List.replicate 4 (0 : Int)).length)) ((List.replicate 4 (0 : Int)).length) ((List.replicate 4 (0 : Int)).map (Value.int .i64)), rowE 3 1 (.slice (some ⟨g6, 0, none⟩) ((List.replicate 4 (0 : Int)).length) ((List.replicate 4 (0 : Int)).length)) ((List.replicate 4 (0 : Int)).length) ((List.replicate 4 (0 : Int)).map (Value.int .i64)), boxE b2 #[.slice none 0 0, .slice none 0 0, .int .i64 0, .int .i64 0] 39, boxE b1 #[.int .i64 d.W, .int .i64 d.H, .int .i64 d.T, .int .i64 d.R] 25]) (sub_cons (d := 11) (congrArg some e4.1) (sub_cons (d := 13) (congrArg some e6.1) (sub_nil _))) (by first | (simp only [p3, v3, p5, v5, e4.2, e6.2, List.flatMap_cons, List.flatMap_nil, List.append_nil, List.nil_append, List.cons_append]; exact List.Sublist.refl _) | simp [p3, v3, p5, v5, e4.2, e6.2]) ?_
        exact rq_mono (rq_buildSlice (z := .agg #[.slice none 0 0, .int .i64 0, .int .i64 0, .int .i64 0]) (s := 4) (cs := [.slice (some ⟨g5, 0, none⟩) ((List.replicate 4 (0 : Int)).length) ((List.replicate 4 (0 : Int)).length), .int .i64 0, .int .i64 0, .int .i64 0, .slice (some ⟨g6, 0, none⟩) ((List.replicate 4 (0 : Int)).length) ((List.replicate 4 (0 : Int)).length), .int .i64 0, .int .i64 0, .int .i64 0]) rfl Try.underlying37 (by kernel_rfl) (by decide) rfl (by kernel_rfl) rfl) (fun v_ p_ h => by show IsRow 87 4 2 ([(vf 3), .int .i64 0, .int .i64 0, .int .i64 0, (vf 5), .int .i64 0, .int .i64 0, .int .i64 0]) v_ p_; rw [v3, v5]; exact h)
      ·
        intro vf pf hR
        have e2 : IsRow 3 1 ((List.replicate (5 + 4 * d.T).toNat (0 : Int)).length) ((List.replicate (5 + 4 * d.T).toNat (0 : Int)).map (Value.int .i64)) (vf 2) (pf 2) := hR 2 (by decide)
        obtain ⟨g4, v2, p2⟩ := e2
        have e3 : IsRow 3 1 ((List.replicate 4 (0 : Int)).length) ((List.replicate 4 (0 : Int)).map (Value.int .i64)) (vf 3) (pf 3) := hR 3 (by decide)
        obtain ⟨g5, v3, p3⟩ := e3
        have e5 : IsRow 3 1 ((List.replicate 4 (0 : Int)).length) ((List.replicate 4 (0 : Int)).map (Value.int .i64)) (vf 5) (pf 5) := hR 5 (by decide)
        obtain ⟨g6, v5, p5⟩ := e5
        have e7 : IsRow 87 4 2 ([(vf 3), .int .i64 0, .int .i64 0, .int .i64 0, (vf 5), .int .i64 0, .int .i64 0, .int .i64 0]) (vf 7) (pf 7) := hR 7 (by decide)
        rw [v3, v5] at e7
        obtain ⟨g7, v7, p7⟩ := e7
        refine Or.inl ⟨rfl, ?_⟩
        refine rq_less (l' := [rowE 3 1 (.slice (some ⟨g4, 0, none⟩) ((List.replicate (5 + 4 * d.T).toNat (0 : Int)).length) ((List.replicate (5 + 4 * d.T).toNat (0 : Int)).length)) ((List.replicate (5 + 4 * d.T).toNat (0 : Int)).length) ((List.replicate (5 + 4 * d.T).toNat (0 : Int)).map (Value.int .i64)), rowE 3 1 (.slice (some ⟨g5, 0, none⟩) ((List.replicate 4 (0 : Int)).length) ((List.replicate 4 (0 : Int)).length)) ((List.replicate 4 (0 : Int)).length) ((List.replicate 4 (0 : Int)).map (Value.int .i64)), rowE 3 1 (.slice (some ⟨g6, 0, none⟩) ((List.replicate 4 (0 : Int)).length) ((List.replicate 4 (0 : Int)).length)) ((List.replicate 4 (0 : Int)).length) ((List.replicate 4 (0 : Int)).map (Value.int .i64)), rowE 87 4 (.slice (some ⟨g7, 0, none⟩) 2 2) 2 ([.slice (some ⟨g5, 0, none⟩) ((List.replicate 4 (0 : Int)).length) ((List.replicate 4 (0 : Int)).length), .int .i64 0, .int .i64 0, .int .i64 0, .slice (some ⟨g6, 0, none⟩) ((List.replicate 4 (0 : Int)).length) ((List.replicate 4 (0 : Int)).length), .int .i64 0, .int .i64 0, .int .i64 0]), boxE b2 #[.slice none 0 0, .slice none 0 0, .int .i64 0, .int .i64 0] 39, boxE b1 #[.int .i64 d.W, .int .i64 d.H, .int .i64 d.T, .int .i64 d.R] 25]) (sub_cons (d := 9) (congrArg some v2) (sub_cons (d := 14) (congrArg some v7) (sub_nil _))) (by first | (simp only [p2, v2, p3, v3, p5, v5, p7, v7, List.flatMap_cons, List.flatMap_nil, List.append_nil, List.nil_append, List.cons_append]; exact List.Sublist.refl _) | simp [p2, v2, p3, v3, p5, v5, p7, v7]) ?_
        exact rq_mono (rq_v (rv_build (cs := #[.slice (some ⟨g4, 0, none⟩) ((List.replicate (5 + 4 * d.T).toNat (0 : Int)).length) ((List.replicate (5 + 4 * d.T).toNat (0 : Int)).length), .slice (some ⟨g7, 0, none⟩) 2 2, .int .i64 0, .int .i64 0]) rfl rfl (by kernel_rfl))) (fun _ _ h => ⟨h.1.trans (by show _ = (.agg #[(vf 2), (vf 7), .int .i64 0, .int .i64 0] : Value); rw [v2, v7]), h.2⟩)
    ·
      intro vf pf hR
      have e2 : IsRow 3 1 ((List.replicate (5 + 4 * d.T).toNat (0 : Int)).length) ((List.replicate (5 + 4 * d.T).toNat (0 : Int)).map (Value.int .i64)) (vf 2) (pf 2) := hR 2 (by decide)
      obtain ⟨g4, v2, p2⟩ := e2
      have e3 : IsRow 3 1 ((List.replicate 4 (0 : Int)).length) ((List.replicate 4 (0 : Int)).map (Value.int .i64)) (vf 3) (pf 3) := hR 3 (by decide)
      obtain ⟨g5, v3, p3⟩ := e3
      have e5 : IsRow 3 1 ((List.replicate 4 (0 : Int)).length) ((List.replicate 4 (0 : Int)).map (Value.int .i64)) (vf 5) (pf 5) := hR 5 (by decide)
      obtain ⟨g6, v5, p5⟩ := e5
      have e7 : IsRow 87 4 2 ([(vf 3), .int .i64 0, .int .i64 0, .int .i64 0, (vf 5), .int .i64 0, .int .i64 0, .int .i64 0]) (vf 7) (pf 7) := hR 7 (by decide)
      rw [v3, v5] at e7
      obtain ⟨g7, v7, p7⟩ := e7
      have e8 : (vf 8) = .agg #[(vf 2), (vf 7), .int .i64 0, .int .i64 0] ∧ (pf 8) = [] := hR 8 (by decide)
      rw [v2, v7] at e8
      have q0 : (vf 0) = .agg #[.int .i64 d.W, .int .i64 d.H, .int .i64 d.T, .int .i64 d.R] ∧ (pf 0) = [] := hR 0 (by decide)
      have q1 : (vf 1) = .int .i64 (5 + 4 * d.T) ∧ (pf 1) = [] := hR 1 (by decide)
      have q4 : (vf 4) = .agg #[(vf 3), .int .i64 0, .int .i64 0, .int .i64 0] ∧ (pf 4) = [] := hR 4 (by decide)
      have q6 : (vf 6) = .agg #[(vf 5), .int .i64 0, .int .i64 0, .int .i64 0] ∧ (pf 6) = [] := hR 6 (by decide)
      have q8 : (vf 8) = .agg #[(vf 2), (vf 7), .int .i64 0, .int .i64 0] ∧ (pf 8) = [] := hR 8 (by decide)
      refine hl_less (l' := [rowE 3 1 (.slice (some ⟨g4, 0, none⟩) ((List.replicate (5 + 4 * d.T).toNat (0 : Int)).length) ((List.replicate (5 + 4 * d.T).toNat (0 : Int)).length)) ((List.replicate (5 + 4 * d.T).toNat (0 : Int)).length) ((List.replicate (5 + 4 * d.T).toNat (0 : Int)).map (Value.int .i64)), rowE 3 1 (.slice (some ⟨g5, 0, none⟩) ((List.replicate 4 (0 : Int)).length) ((List.replicate 4 (0 : Int)).length)) ((List.replicate 4 (0 : Int)).length) ((List.replicate 4 (0 : Int)).map (Value.int .i64)), rowE 3 1 (.slice (some ⟨g6, 0, none⟩) ((List.replicate 4 (0 : Int)).length) ((List.replicate 4 (0 : Int)).length)) ((List.replicate 4 (0 : Int)).length) ((List.replicate 4 (0 : Int)).map (Value.int .i64)), rowE 87 4 (.slice (some ⟨g7, 0, none⟩) 2 2) 2 ([.slice (some ⟨g5, 0, none⟩) ((List.replicate 4 (0 : Int)).length) ((List.replicate 4 (0 : Int)).length), .int .i64 0, .int .i64 0, .int .i64 0, .slice (some ⟨g6, 0, none⟩) ((List.replicate 4 (0 : Int)).length) ((List.replicate 4 (0 : Int)).length), .int .i64 0, .int .i64 0, .int .i64 0]), boxE b2 #[.slice none 0 0, .slice none 0 0, .int .i64 0, .int .i64 0] 39, boxE b1 #[.int .i64 d.W, .int .i64 d.H, .int .i64 d.T, .int .i64 d.R] 25]) (sub_cons (d := 0) rfl (sub_cons (d := 1) rfl (sub_cons (d := 2) rfl (sub_cons (d := 5) rfl (sub_cons (d := 15) (congrArg some e8.1) (sub_nil _)))))) (by first | (simp only [p2, v2, p3, v3, p5, v5, p7, v7, q0.2, q1.2, q4.2, q6.2, q8.2, List.flatMap_cons, List.flatMap_nil, List.append_nil, List.nil_append, List.cons_append]; exact List.Sublist.refl _) | simp [p2, v2, p3, v3, p5, v5, p7, v7, q0.2, q1.2, q4.2, q6.2, q8.2]) ?_
      simp only [List.drop_succ_cons, List.drop_zero]
      refine hl_storeBoxN (i := 4) (off := 0) (us := [.slice (some ⟨g4, 0, none⟩) ((List.replicate (5 + 4 * d.T).toNat (0 : Int)).length) ((List.replicate (5 + 4 * d.T).toNat (0 : Int)).length), .slice (some ⟨g7, 0, none⟩) 2 2, .int .i64 0, .int .i64 0]) (l' := [rowE 3 1 (.slice (some ⟨g4, 0, none⟩) ((List.replicate (5 + 4 * d.T).toNat (0 : Int)).length) ((List.replicate (5 + 4 * d.T).toNat (0 : Int)).length)) ((List.replicate (5 + 4 * d.T).toNat (0 : Int)).length) ((List.replicate (5 + 4 * d.T).toNat (0 : Int)).map (Value.int .i64)), rowE 3 1 (.slice (some ⟨g5, 0, none⟩) ((List.replicate 4 (0 : Int)).length) ((List.replicate 4 (0 : Int)).length)) ((List.replicate 4 (0 : Int)).length) ((List.replicate 4 (0 : Int)).map (Value.int .i64)), rowE 3 1 (.slice (some ⟨g6, 0, none⟩) ((List.replicate 4 (0 : Int)).length) ((List.replicate 4 (0 : Int)).length)) ((List.replicate 4 (0 : Int)).length) ((List.replicate 4 (0 : Int)).map (Value.int .i64)), rowE 87 4 (.slice (some ⟨g7, 0, none⟩) 2 2) 2 ([.slice (some ⟨g5, 0, none⟩) ((List.replicate 4 (0 : Int)).length) ((List.replicate 4 (0 : Int)).length), .int .i64 0, .int .i64 0, .int .i64 0, .slice (some ⟨g6, 0, none⟩) ((List.replicate 4 (0 : Int)).length) ((List.replicate 4 (0 : Int)).length), .int .i64 0, .int .i64 0, .int .i64 0]), boxE b2 #[.slice (some ⟨g4, 0, none⟩) ((List.replicate (5 + 4 * d.T).toNat (0 : Int)).length) ((List.replicate (5 + 4 * d.T).toNat (0 : Int)).length), .slice (some ⟨g7, 0, none⟩) 2 2, .int .i64 0, .int .i64 0] 39, boxE b1 #[.int .i64 d.W, .int .i64 d.H, .int .i64 d.T, .int .i64 d.R] 25]) rfl rfl rfl (by kernel_rfl) rfl rfl rfl (all_cons rfl (all_cons rfl (all_cons rfl (all_cons rfl all_nil)))) rfl rfl rfl ?_
      refine hl_less (sub_cons (d := 0) rfl (sub_cons (d := 1) rfl (sub_cons (d := 2) rfl (sub_cons (d := 5) rfl (sub_nil _))))) (.refl _) ?_
      refine hl_nil ?_
      refine hq_then ?_
      refine hc_ret ?_
      refine hq_conv [rowE 3 1 (.slice (some ⟨g5, 0, none⟩) ((List.replicate 4 (0 : Int)).length) ((List.replicate 4 (0 : Int)).length)) ((List.replicate 4 (0 : Int)).length) ((List.replicate 4 (0 : Int)).map (Value.int .i64)), rowE 3 1 (.slice (some ⟨g6, 0, none⟩) ((List.replicate 4 (0 : Int)).length) ((List.replicate 4 (0 : Int)).length)) ((List.replicate 4 (0 : Int)).length) ((List.replicate 4 (0 : Int)).map (Value.int .i64)), rowE 87 4 (.slice (some ⟨g7, 0, none⟩) 2 2) 2 ([.slice (some ⟨g5, 0, none⟩) ((List.replicate 4 (0 : Int)).length) ((List.replicate 4 (0 : Int)).length), .int .i64 0, .int .i64 0, .int .i64 0, .slice (some ⟨g6, 0, none⟩) ((List.replicate 4 (0 : Int)).length) ((List.replicate 4 (0 : Int)).length), .int .i64 0, .int .i64 0, .int .i64 0]), rowE 3 1 (.slice (some ⟨g4, 0, none⟩) ((List.replicate (5 + 4 * d.T).toNat (0 : Int)).length) ((List.replicate (5 + 4 * d.T).toNat (0 : Int)).length)) ((List.replicate (5 + 4 * d.T).toNat (0 : Int)).length) ((List.replicate (5 + 4 * d.T).toNat (0 : Int)).map (Value.int .i64)), boxE b2 #[.slice (some ⟨g4, 0, none⟩) ((List.replicate (5 + 4 * d.T).toNat (0 : Int)).length) ((List.replicate (5 + 4 * d.T).toNat (0 : Int)).length), .slice (some ⟨g7, 0, none⟩) 2 2, .int .i64 0, .int .i64 0] 39] (conv_pick (src := [rowE 3 1 (.slice (some ⟨g4, 0, none⟩) ((List.replicate (5 + 4 * d.T).toNat (0 : Int)).length) ((List.replicate (5 + 4 * d.T).toNat (0 : Int)).length)) ((List.replicate (5 + 4 * d.T).toNat (0 : Int)).length) ((List.replicate (5 + 4 * d.T).toNat (0 : Int)).map (Value.int .i64)), rowE 3 1 (.slice (some ⟨g5, 0, none⟩) ((List.replicate 4 (0 : Int)).length) ((List.replicate 4 (0 : Int)).length)) ((List.replicate 4 (0 : Int)).length) ((List.replicate 4 (0 : Int)).map (Value.int .i64)), rowE 3 1 (.slice (some ⟨g6, 0, none⟩) ((List.replicate 4 (0 : Int)).length) ((List.replicate 4 (0 : Int)).length)) ((List.replicate 4 (0 : Int)).length) ((List.replicate 4 (0 : Int)).map (Value.int .i64)), rowE 87 4 (.slice (some ⟨g7, 0, none⟩) 2 2) 2 ([.slice (some ⟨g5, 0, none⟩) ((List.replicate 4 (0 : Int)).length) ((List.replicate 4 (0 : Int)).length), .int .i64 0, .int .i64 0, .int .i64 0, .slice (some ⟨g6, 0, none⟩) ((List.replicate 4 (0 : Int)).length) ((List.replicate 4 (0 : Int)).length), .int .i64 0, .int .i64 0, .int .i64 0]), boxE b2 #[.slice (some ⟨g4, 0, none⟩) ((List.replicate (5 + 4 * d.T).toNat (0 : Int)).length) ((List.replicate (5 + 4 * d.T).toNat (0 : Int)).length), .slice (some ⟨g7, 0, none⟩) 2 2, .int .i64 0, .int .i64 0] 39, boxE b1 #[.int .i64 d.W, .int .i64 d.H, .int .i64 d.T, .int .i64 d.R] 25]) (dst := [rowE 3 1 (.slice (some ⟨g5, 0, none⟩) ((List.replicate 4 (0 : Int)).length) ((List.replicate 4 (0 : Int)).length)) ((List.replicate 4 (0 : Int)).length) ((List.replicate 4 (0 : Int)).map (Value.int .i64)), rowE 3 1 (.slice (some ⟨g6, 0, none⟩) ((List.replicate 4 (0 : Int)).length) ((List.replicate 4 (0 : Int)).length)) ((List.replicate 4 (0 : Int)).length) ((List.replicate 4 (0 : Int)).map (Value.int .i64)), rowE 87 4 (.slice (some ⟨g7, 0, none⟩) 2 2) 2 ([.slice (some ⟨g5, 0, none⟩) ((List.replicate 4 (0 : Int)).length) ((List.replicate 4 (0 : Int)).length), .int .i64 0, .int .i64 0, .int .i64 0, .slice (some ⟨g6, 0, none⟩) ((List.replicate 4 (0 : Int)).length) ((List.replicate 4 (0 : Int)).length), .int .i64 0, .int .i64 0, .int .i64 0]), rowE 3 1 (.slice (some ⟨g4, 0, none⟩) ((List.replicate (5 + 4 * d.T).toNat (0 : Int)).length) ((List.replicate (5 + 4 * d.T).toNat (0 : Int)).length)) ((List.replicate (5 + 4 * d.T).toNat (0 : Int)).length) ((List.replicate (5 + 4 * d.T).toNat (0 : Int)).map (Value.int .i64)), boxE b2 #[.slice (some ⟨g4, 0, none⟩) ((List.replicate (5 + 4 * d.T).toNat (0 : Int)).length) ((List.replicate (5 + 4 * d.T).toNat (0 : Int)).length), .slice (some ⟨g7, 0, none⟩) 2 2, .int .i64 0, .int .i64 0] 39]) (l := []) [1, 2, 3, 0, 4] (by decide) rfl) ?_
      refine hq_conv (tcE (Tc.mk (.slice (some ⟨g4, 0, none⟩) ((List.replicate (5 + 4 * d.T).toNat (0 : Int)).length) ((List.replicate (5 + 4 * d.T).toNat (0 : Int)).length)) (List.replicate (5 + 4 * d.T).toNat (0 : Int)) (.slice (some ⟨g7, 0, none⟩) 2 2) [Le.mk (.slice (some ⟨g5, 0, none⟩) ((List.replicate 4 (0 : Int)).length) ((List.replicate 4 (0 : Int)).length)) [0, 0, 0, 0] 0 0 0, Le.mk (.slice (some ⟨g6, 0, none⟩) ((List.replicate 4 (0 : Int)).length) ((List.replicate 4 (0 : Int)).length)) [0, 0, 0, 0] 0 0 0] 0 0) :: [boxE b2 #[.slice (some ⟨g4, 0, none⟩) ((List.replicate (5 + 4 * d.T).toNat (0 : Int)).length) ((List.replicate (5 + 4 * d.T).toNat (0 : Int)).length), .slice (some ⟨g7, 0, none⟩) 2 2, .int .i64 0, .int .i64 0] 39]) (fun w hm => Mem.tc (Tc.mk (.slice (some ⟨g4, 0, none⟩) ((List.replicate (5 + 4 * d.T).toNat (0 : Int)).length) ((List.replicate (5 + 4 * d.T).toNat (0 : Int)).length)) (List.replicate (5 + 4 * d.T).toNat (0 : Int)) (.slice (some ⟨g7, 0, none⟩) 2 2) [Le.mk (.slice (some ⟨g5, 0, none⟩) ((List.replicate 4 (0 : Int)).length) ((List.replicate 4 (0 : Int)).length)) [0, 0, 0, 0] 0 0 0, Le.mk (.slice (some ⟨g6, 0, none⟩) ((List.replicate 4 (0 : Int)).length) ((List.replicate 4 (0 : Int)).length)) [0, 0, 0, 0] 0 0 0] 0 0) hm) ?_
      exact hq_retC (b := b2) (i := 1) (us := [.slice (some ⟨g4, 0, none⟩) ((List.replicate (5 + 4 * d.T).toNat (0 : Int)).length) ((List.replicate (5 + 4 * d.T).toNat (0 : Int)).length), .slice (some ⟨g7, 0, none⟩) 2 2, .int .i64 0, .int .i64 0]) (post := [tcE (Tc.mk (.slice (some ⟨g4, 0, none⟩) ((List.replicate (5 + 4 * d.T).toNat (0 : Int)).length) ((List.replicate (5 + 4 * d.T).toNat (0 : Int)).length)) (List.replicate (5 + 4 * d.T).toNat (0 : Int)) (.slice (some ⟨g7, 0, none⟩) 2 2) [Le.mk (.slice (some ⟨g5, 0, none⟩) ((List.replicate 4 (0 : Int)).length) ((List.replicate 4 (0 : Int)).length)) [0, 0, 0, 0] 0 0 0, Le.mk (.slice (some ⟨g6, 0, none⟩) ((List.replicate 4 (0 : Int)).length) ((List.replicate 4 (0 : Int)).length)) [0, 0, 0, 0] 0 0 0] 0 0)]) rfl rfl (by kernel_rfl) (by kernel_rfl) rfl (.cons_cons _ (List.nil_sublist _)) ⟨_, rfl, rfl, ⟨rfl, rfl⟩, by unfold emptyT; rw [if_pos (by assumption)]; rfl, by simp; omega, by simp, by simp⟩
  ·
    refine hl_v rfl rfl rfl (rv_ev rfl) ?_
    refine hl_less (sub_cons (d := 0) rfl (sub_cons (d := 1) rfl (sub_cons (d := 2) rfl (sub_cons (d := 5) rfl (sub_nil _))))) (.refl _) ?_
    refine hl_nil ?_
    refine hq_then ?_
    refine hc_true rfl ?_
    refine hc_seq ?_
    refine hc_region ?_
    refine hl_v rfl rfl rfl (rv_build (cs := #[.slice none 0 0, .slice none 0 0, .int .i64 0, .int .i64 0]) rfl rfl (by kernel_rfl)) ?_
    refine hl_storeBoxN (i := 0) (off := 0) (us := [.slice none 0 0, .slice none 0 0, .int .i64 0, .int .i64 0]) (l' := [boxE b2 #[.slice none 0 0, .slice none 0 0, .int .i64 0, .int .i64 0] 39, boxE b1 #[.int .i64 d.W, .int .i64 d.H, .int .i64 d.T, .int .i64 d.R] 25]) rfl rfl rfl (by kernel_rfl) rfl rfl rfl (all_cons rfl (all_cons rfl (all_cons rfl (all_cons rfl all_nil)))) rfl rfl rfl ?_
    refine hl_less (sub_cons (d := 0) rfl (sub_cons (d := 1) rfl (sub_cons (d := 2) rfl (sub_cons (d := 5) rfl (sub_nil _))))) (.refl _) ?_
    refine hl_nil ?_
    refine hq_then ?_
    refine hc_ret ?_
    refine hq_then_ret ?_
    refine hq_conv (tcE (Tc.mk (.slice none 0 0) [] (.slice none 0 0) [] 0 0) :: [boxE b2 #[.slice none 0 0, .slice none 0 0, .int .i64 0, .int .i64 0] 39, boxE b1 #[.int .i64 d.W, .int .i64 d.H, .int .i64 d.T, .int .i64 d.R] 25]) (fun w hm => hm.tcNil) ?_
    exact hq_retC (b := b2) (i := 1) (us := [.slice none 0 0, .slice none 0 0, .int .i64 0, .int .i64 0]) (post := [tcE (Tc.mk (.slice none 0 0) [] (.slice none 0 0) [] 0 0)]) rfl rfl (by kernel_rfl) (by kernel_rfl) rfl (.cons_cons _ (List.nil_sublist _)) ⟨_, rfl, rfl, ⟨rfl, rfl⟩, by unfold emptyT; rw [if_neg (by simp [*])]; rfl, by decide, by decide, by simp⟩
set_option maxHeartbeats 4000000 in
set_option maxRecDepth 100000 in
theorem specEmptyTile_ret (d : Dev) (w : World)  :
    Calls Try.prog 25 #[.agg #[.int .i64 d.W, .int .i64 d.H, .int .i64 d.T, .int .i64 d.R]] w (Ret w (IsTc (emptyT d))) := by
  refine calls_hc (N := 16) (args := [.agg #[.int .i64 d.W, .int .i64 d.H, .int .i64 d.T, .int .i64 d.R]]) Try.func25 rfl rfl ?_
  refine hc_less _ (sub_cons (d := 0) rfl (sub_nil _)) (.refl _) ?_
  refine hc_seq ?_
  refine hc_region ?_
  refine hl_box rfl rfl rfl (rq_box rfl rfl) ?_
  intro b1
  refine hl_box rfl rfl rfl (rq_alloc (z := .agg #[.slice none 0 0, .slice none 0 0, .int .i64 0, .int .i64 0]) rfl (by kernel_rfl)) ?_
  intro b2
  refine hl_less (sub_cons (d := 0) rfl (sub_cons (d := 1) rfl (sub_cons (d := 2) rfl (sub_nil _)))) (.refl _) ?_
  refine hl_nil ?_
  refine hq_then ?_
  refine hc_seq ?_
  refine hc_seq ?_
  refine hc_region ?_
  refine hl_v rfl rfl rfl (rv_loadN (cs := [.int .i64 d.W, .int .i64 d.H, .int .i64 d.T, .int .i64 d.R]) rfl (by kernel_rfl) (by kernel_rfl) rfl rfl (box_part 1 rfl 0 rfl)) ?_
  refine hl_callV rfl rfl rfl (rq_call (by kernel_rfl) rfl (fun w hm => ret_ans (specDeviceOk_any d w))) ?_
  refine hl_bool (fun h3 => ?_) (fun h3 => ?_)
  ·
    obtain ⟨-, -, ⟨l1, l2⟩, -⟩ := (devB_iff d).1 h3
    refine hl_v rfl rfl rfl (rv_ev rfl) ?_
    refine hl_less (sub_cons (d := 0) rfl (sub_cons (d := 1) rfl (sub_cons (d := 2) rfl (sub_cons (d := 5) rfl (sub_nil _))))) (.refl _) ?_
    refine hl_nil ?_
    refine hq_then ?_
    refine hc_false rfl ?_
    refine hc_skip ?_
    refine hq_then ?_
    refine hc_seq ?_
    refine hc_draw (by kernel_rfl) 9 [0, 1, 2, 3, 4, 5, 6, 7, 8] (List.take 9 _) (List.drop 9 _) [[], [0], [1], [], [3], [], [5], [3, 4, 5, 6], [2, 3, 5, 7]] [7, 8, 9, 10, 11, 12, 13, 14, 15] (fun i vs_ v_ p_ => match i with | 0 => v_ = .agg #[.int .i64 d.W, .int .i64 d.H, .int .i64 d.T, .int .i64 d.R] ∧ p_ = [] | 1 => v_ = .int .i64 (5 + 4 * d.T) ∧ p_ = [] | 2 => IsRow 3 1 ((List.replicate (5 + 4 * d.T).toNat (0 : Int)).length) ((List.replicate (5 + 4 * d.T).toNat (0 : Int)).map (Value.int .i64)) v_ p_ | 3 => IsRow 3 1 ((List.replicate 4 (0 : Int)).length) ((List.replicate 4 (0 : Int)).map (Value.int .i64)) v_ p_ | 4 => v_ = .agg #[(List.getD vs_ 0 undef), .int .i64 0, .int .i64 0, .int .i64 0] ∧ p_ = [] | 5 => IsRow 3 1 ((List.replicate 4 (0 : Int)).length) ((List.replicate 4 (0 : Int)).map (Value.int .i64)) v_ p_ | 6 => v_ = .agg #[(List.getD vs_ 0 undef), .int .i64 0, .int .i64 0, .int .i64 0] ∧ p_ = [] | 7 => IsRow 87 4 2 ([(List.getD vs_ 0 undef), .int .i64 0, .int .i64 0, .int .i64 0, (List.getD vs_ 2 undef), .int .i64 0, .int .i64 0, .int .i64 0]) v_ p_ | 8 => v_ = .agg #[(List.getD vs_ 0 undef), (List.getD vs_ 3 undef), .int .i64 0, .int .i64 0] ∧ p_ = [] | _ => True) (List.take_append_drop 9 _).symm (by kernel_rfl) (by kernel_rfl) rfl rfl ?_ ?_
    ·
      refine ⟨?_, ?_, ?_, ?_, ?_, ?_, ?_, ?_, ?_, trivial⟩
      ·
        intro vf pf hR
        refine Or.inl ⟨rfl, ?_⟩
        refine rq_less (l' := [boxE b2 #[.slice none 0 0, .slice none 0 0, .int .i64 0, .int .i64 0] 39, boxE b1 #[.int .i64 d.W, .int .i64 d.H, .int .i64 d.T, .int .i64 d.R] 25]) (sub_cons (d := 1) rfl (sub_nil _)) (List.sublist_append_right _ _) ?_
        exact rq_v (rv_loadN (cs := [.int .i64 d.W, .int .i64 d.H, .int .i64 d.T, .int .i64 d.R]) rfl (by kernel_rfl) (by kernel_rfl) rfl rfl (box_part 1 rfl 0 rfl))
      ·
        intro vf pf hR
        have e0 : (vf 0) = .agg #[.int .i64 d.W, .int .i64 d.H, .int .i64 d.T, .int .i64 d.R] ∧ (pf 0) = [] := hR 0 (by decide)
        refine Or.inl ⟨rfl, ?_⟩
        refine rq_less (l' := [boxE b2 #[.slice none 0 0, .slice none 0 0, .int .i64 0, .int .i64 0] 39, boxE b1 #[.int .i64 d.W, .int .i64 d.H, .int .i64 d.T, .int .i64 d.R] 25]) (sub_cons (d := 7) (congrArg some e0.1) (sub_nil _)) (List.sublist_append_right _ _) ?_
        exact (rq_call (by kernel_rfl) rfl (fun w hm => ret_ans (specMuxCount_yes d (by assumption) w)))
      ·
        intro vf pf hR
        have e1 : (vf 1) = .int .i64 (5 + 4 * d.T) ∧ (pf 1) = [] := hR 1 (by decide)
        refine Or.inl ⟨rfl, ?_⟩
        refine rq_less (l' := [boxE b2 #[.slice none 0 0, .slice none 0 0, .int .i64 0, .int .i64 0] 39, boxE b1 #[.int .i64 d.W, .int .i64 d.H, .int .i64 d.T, .int .i64 d.R] 25]) (sub_cons (d := 8) (congrArg some e1.1) (sub_nil _)) (List.sublist_append_right _ _) ?_
        exact rq_make (z := .int .i64 0) (s := 1) (bytes := 8) (n := (List.replicate (5 + 4 * d.T).toNat (0 : Int)).length) (cs := ((List.replicate (5 + 4 * d.T).toNat (0 : Int)).map (Value.int .i64))) rfl Try.underlying30 (by kernel_rfl) (by decide) rfl rfl (by rw [List.length_replicate]; omega) (by rw [List.length_replicate]; omega) (by rw [List.length_replicate]; omega) (ints_make _)
      ·
        intro vf pf hR
        refine Or.inl ⟨rfl, ?_⟩
        refine rq_less (l' := [boxE b2 #[.slice none 0 0, .slice none 0 0, .int .i64 0, .int .i64 0] 39, boxE b1 #[.int .i64 d.W, .int .i64 d.H, .int .i64 d.T, .int .i64 d.R] 25]) (sub_nil _) (List.sublist_append_right _ _) ?_
        exact rq_make (z := .int .i64 0) (s := 1) (bytes := 8) (n := (List.replicate 4 (0 : Int)).length) (cs := ((List.replicate 4 (0 : Int)).map (Value.int .i64))) rfl Try.underlying30 (by kernel_rfl) (by decide) rfl rfl (by rw [List.length_replicate]; omega) (by rw [List.length_replicate]; omega) (by rw [List.length_replicate]; omega) (ints_make _)
      ·
        intro vf pf hR
        have e3 : IsRow 3 1 ((List.replicate 4 (0 : Int)).length) ((List.replicate 4 (0 : Int)).map (Value.int .i64)) (vf 3) (pf 3) := hR 3 (by decide)
        obtain ⟨g5, v3, p3⟩ := e3
        refine Or.inl ⟨rfl, ?_⟩
        refine rq_less (l' := [rowE 3 1 (.slice (some ⟨g5, 0, none⟩) ((List.replicate 4 (0 : Int)).length) ((List.replicate 4 (0 : Int)).length)) ((List.replicate 4 (0 : Int)).length) ((List.replicate 4 (0 : Int)).map (Value.int .i64)), boxE b2 #[.slice none 0 0, .slice none 0 0, .int .i64 0, .int .i64 0] 39, boxE b1 #[.int .i64 d.W, .int .i64 d.H, .int .i64 d.T, .int .i64 d.R] 25]) (sub_cons (d := 10) (congrArg some v3) (sub_nil _)) (by first | (simp only [p3, v3, List.flatMap_cons, List.flatMap_nil, List.append_nil, List.nil_append, List.cons_append]; exact List.Sublist.refl _) | simp [p3, v3]) ?_
        exact rq_mono (rq_v (rv_build (cs := #[.slice (some ⟨g5, 0, none⟩) ((List.replicate 4 (0 : Int)).length) ((List.replicate 4 (0 : Int)).length), .int .i64 0, .int .i64 0, .int .i64 0]) rfl rfl (by kernel_rfl))) (fun _ _ h => ⟨h.1.trans (by show _ = (.agg #[(vf 3), .int .i64 0, .int .i64 0, .int .i64 0] : Value); rw [v3]), h.2⟩)
      ·
        intro vf pf hR
        refine Or.inl ⟨rfl, ?_⟩
        refine rq_less (l' := [boxE b2 #[.slice none 0 0, .slice none 0 0, .int .i64 0, .int .i64 0] 39, boxE b1 #[.int .i64 d.W, .int .i64 d.H, .int .i64 d.T, .int .i64 d.R] 25]) (sub_nil _) (List.sublist_append_right _ _) ?_
        exact rq_make (z := .int .i64 0) (s := 1) (bytes := 8) (n := (List.replicate 4 (0 : Int)).length) (cs := ((List.replicate 4 (0 : Int)).map (Value.int .i64))) rfl Try.underlying30 (by kernel_rfl) (by decide) rfl rfl (by rw [List.length_replicate]; omega) (by rw [List.length_replicate]; omega) (by rw [List.length_replicate]; omega) (ints_make _)
      ·
        intro vf pf hR
        have e5 : IsRow 3 1 ((List.replicate 4 (0 : Int)).length) ((List.replicate 4 (0 : Int)).map (Value.int .i64)) (vf 5) (pf 5) := hR 5 (by decide)
        obtain ⟨g6, v5, p5⟩ := e5
        refine Or.inl ⟨rfl, ?_⟩
        refine rq_less (l' := [rowE 3 1 (.slice (some ⟨g6, 0, none⟩) ((List.replicate 4 (0 : Int)).length) ((List.replicate 4 (0 : Int)).length)) ((List.replicate 4 (0 : Int)).length) ((List.replicate 4 (0 : Int)).map (Value.int .i64)), boxE b2 #[.slice none 0 0, .slice none 0 0, .int .i64 0, .int .i64 0] 39, boxE b1 #[.int .i64 d.W, .int .i64 d.H, .int .i64 d.T, .int .i64 d.R] 25]) (sub_cons (d := 12) (congrArg some v5) (sub_nil _)) (by first | (simp only [p5, v5, List.flatMap_cons, List.flatMap_nil, List.append_nil, List.nil_append, List.cons_append]; exact List.Sublist.refl _) | simp [p5, v5]) ?_
        exact rq_mono (rq_v (rv_build (cs := #[.slice (some ⟨g6, 0, none⟩) ((List.replicate 4 (0 : Int)).length) ((List.replicate 4 (0 : Int)).length), .int .i64 0, .int .i64 0, .int .i64 0]) rfl rfl (by kernel_rfl))) (fun _ _ h => ⟨h.1.trans (by show _ = (.agg #[(vf 5), .int .i64 0, .int .i64 0, .int .i64 0] : Value); rw [v5]), h.2⟩)
      ·
        intro vf pf hR
        have e3 : IsRow 3 1 ((List.replicate 4 (0 : Int)).length) ((List.replicate 4 (0 : Int)).map (Value.int .i64)) (vf 3) (pf 3) := hR 3 (by decide)
        obtain ⟨g5, v3, p3⟩ := e3
        have e4 : (vf 4) = .agg #[(vf 3), .int .i64 0, .int .i64 0, .int .i64 0] ∧ (pf 4) = [] := hR 4 (by decide)
        rw [v3] at e4
        have e5 : IsRow 3 1 ((List.replicate 4 (0 : Int)).length) ((List.replicate 4 (0 : Int)).map (Value.int .i64)) (vf 5) (pf 5) := hR 5 (by decide)
        obtain ⟨g6, v5, p5⟩ := e5
        have e6 : (vf 6) = .agg #[(vf 5), .int .i64 0, .int .i64 0, .int .i64 0] ∧ (pf 6) = [] := hR 6 (by decide)
        rw [v5] at e6
        refine Or.inl ⟨rfl, ?_⟩
        refine rq_less (l' := [rowE 3 1 (.slice (some ⟨g5, 0, none⟩) ((List.replicate 4 (0 : Int)).length) ((List.replicate 4 (0 : Int)).length)) ((List.replicate 4 (0 : Int)).length) ((List.replicate 4 (0 : Int)).map (Value.int .i64)), rowE 3 1 (.slice (some ⟨g6, 0, none⟩) ((List.replicate 4 (0 : Int)).length) ((List.replicate 4 (0 : Int)).length)) ((List.replicate 4 (0 : Int)).length) ((List.replicate 4 (0 : Int)).map (Value.int .i64)), boxE b2 #[.slice none 0 0, .slice none 0 0, .int .i64 0, .int .i64 0] 39, boxE b1 #[.int .i64 d.W, .int .i64 d.H, .int .i64 d.T, .int .i64 d.R] 25]) (sub_cons (d := 11) (congrArg some e4.1) (sub_cons (d := 13) (congrArg some e6.1) (sub_nil _))) (by first | (simp only [p3, v3, p5, v5, e4.2, e6.2, List.flatMap_cons, List.flatMap_nil, List.append_nil, List.nil_append, List.cons_append]; exact List.Sublist.refl _) | simp [p3, v3, p5, v5, e4.2, e6.2]) ?_
        exact rq_mono (rq_buildSlice (z := .agg #[.slice none 0 0, .int .i64 0, .int .i64 0, .int .i64 0]) (s := 4) (cs := [.slice (some ⟨g5, 0, none⟩) ((List.replicate 4 (0 : Int)).length) ((List.replicate 4 (0 : Int)).length), .int .i64 0, .int .i64 0, .int .i64 0, .slice (some ⟨g6, 0, none⟩) ((List.replicate 4 (0 : Int)).length) ((List.replicate 4 (0 : Int)).length), .int .i64 0, .int .i64 0, .int .i64 0]) rfl Try.underlying37 (by kernel_rfl) (by decide) rfl (by kernel_rfl) rfl) (fun v_ p_ h => by show IsRow 87 4 2 ([(vf 3), .int .i64 0, .int .i64 0, .int .i64 0, (vf 5), .int .i64 0, .int .i64 0, .int .i64 0]) v_ p_; rw [v3, v5]; exact h)
      ·
        intro vf pf hR
        have e2 : IsRow 3 1 ((List.replicate (5 + 4 * d.T).toNat (0 : Int)).length) ((List.replicate (5 + 4 * d.T).toNat (0 : Int)).map (Value.int .i64)) (vf 2) (pf 2) := hR 2 (by decide)
        obtain ⟨g4, v2, p2⟩ := e2
        have e3 : IsRow 3 1 ((List.replicate 4 (0 : Int)).length) ((List.replicate 4 (0 : Int)).map (Value.int .i64)) (vf 3) (pf 3) := hR 3 (by decide)
        obtain ⟨g5, v3, p3⟩ := e3
        have e5 : IsRow 3 1 ((List.replicate 4 (0 : Int)).length) ((List.replicate 4 (0 : Int)).map (Value.int .i64)) (vf 5) (pf 5) := hR 5 (by decide)
        obtain ⟨g6, v5, p5⟩ := e5
        have e7 : IsRow 87 4 2 ([(vf 3), .int .i64 0, .int .i64 0, .int .i64 0, (vf 5), .int .i64 0, .int .i64 0, .int .i64 0]) (vf 7) (pf 7) := hR 7 (by decide)
        rw [v3, v5] at e7
        obtain ⟨g7, v7, p7⟩ := e7
        refine Or.inl ⟨rfl, ?_⟩
        refine rq_less (l' := [rowE 3 1 (.slice (some ⟨g4, 0, none⟩) ((List.replicate (5 + 4 * d.T).toNat (0 : Int)).length) ((List.replicate (5 + 4 * d.T).toNat (0 : Int)).length)) ((List.replicate (5 + 4 * d.T).toNat (0 : Int)).length) ((List.replicate (5 + 4 * d.T).toNat (0 : Int)).map (Value.int .i64)), rowE 3 1 (.slice (some ⟨g5, 0, none⟩) ((List.replicate 4 (0 : Int)).length) ((List.replicate 4 (0 : Int)).length)) ((List.replicate 4 (0 : Int)).length) ((List.replicate 4 (0 : Int)).map (Value.int .i64)), rowE 3 1 (.slice (some ⟨g6, 0, none⟩) ((List.replicate 4 (0 : Int)).length) ((List.replicate 4 (0 : Int)).length)) ((List.replicate 4 (0 : Int)).length) ((List.replicate 4 (0 : Int)).map (Value.int .i64)), rowE 87 4 (.slice (some ⟨g7, 0, none⟩) 2 2) 2 ([.slice (some ⟨g5, 0, none⟩) ((List.replicate 4 (0 : Int)).length) ((List.replicate 4 (0 : Int)).length), .int .i64 0, .int .i64 0, .int .i64 0, .slice (some ⟨g6, 0, none⟩) ((List.replicate 4 (0 : Int)).length) ((List.replicate 4 (0 : Int)).length), .int .i64 0, .int .i64 0, .int .i64 0]), boxE b2 #[.slice none 0 0, .slice none 0 0, .int .i64 0, .int .i64 0] 39, boxE b1 #[.int .i64 d.W, .int .i64 d.H, .int .i64 d.T, .int .i64 d.R] 25]) (sub_cons (d := 9) (congrArg some v2) (sub_cons (d := 14) (congrArg some v7) (sub_nil _))) (by first | (simp only [p2, v2, p3, v3, p5, v5, p7, v7, List.flatMap_cons, List.flatMap_nil, List.append_nil, List.nil_append, List.cons_append]; exact List.Sublist.refl _) | simp [p2, v2, p3, v3, p5, v5, p7, v7]) ?_
        exact rq_mono (rq_v (rv_build (cs := #[.slice (some ⟨g4, 0, none⟩) ((List.replicate (5 + 4 * d.T).toNat (0 : Int)).length) ((List.replicate (5 + 4 * d.T).toNat (0 : Int)).length), .slice (some ⟨g7, 0, none⟩) 2 2, .int .i64 0, .int .i64 0]) rfl rfl (by kernel_rfl))) (fun _ _ h => ⟨h.1.trans (by show _ = (.agg #[(vf 2), (vf 7), .int .i64 0, .int .i64 0] : Value); rw [v2, v7]), h.2⟩)
    ·
      intro vf pf hR
      have e2 : IsRow 3 1 ((List.replicate (5 + 4 * d.T).toNat (0 : Int)).length) ((List.replicate (5 + 4 * d.T).toNat (0 : Int)).map (Value.int .i64)) (vf 2) (pf 2) := hR 2 (by decide)
      obtain ⟨g4, v2, p2⟩ := e2
      have e3 : IsRow 3 1 ((List.replicate 4 (0 : Int)).length) ((List.replicate 4 (0 : Int)).map (Value.int .i64)) (vf 3) (pf 3) := hR 3 (by decide)
      obtain ⟨g5, v3, p3⟩ := e3
      have e5 : IsRow 3 1 ((List.replicate 4 (0 : Int)).length) ((List.replicate 4 (0 : Int)).map (Value.int .i64)) (vf 5) (pf 5) := hR 5 (by decide)
      obtain ⟨g6, v5, p5⟩ := e5
      have e7 : IsRow 87 4 2 ([(vf 3), .int .i64 0, .int .i64 0, .int .i64 0, (vf 5), .int .i64 0, .int .i64 0, .int .i64 0]) (vf 7) (pf 7) := hR 7 (by decide)
      rw [v3, v5] at e7
      obtain ⟨g7, v7, p7⟩ := e7
      have e8 : (vf 8) = .agg #[(vf 2), (vf 7), .int .i64 0, .int .i64 0] ∧ (pf 8) = [] := hR 8 (by decide)
      rw [v2, v7] at e8
      have q0 : (vf 0) = .agg #[.int .i64 d.W, .int .i64 d.H, .int .i64 d.T, .int .i64 d.R] ∧ (pf 0) = [] := hR 0 (by decide)
      have q1 : (vf 1) = .int .i64 (5 + 4 * d.T) ∧ (pf 1) = [] := hR 1 (by decide)
      have q4 : (vf 4) = .agg #[(vf 3), .int .i64 0, .int .i64 0, .int .i64 0] ∧ (pf 4) = [] := hR 4 (by decide)
      have q6 : (vf 6) = .agg #[(vf 5), .int .i64 0, .int .i64 0, .int .i64 0] ∧ (pf 6) = [] := hR 6 (by decide)
      have q8 : (vf 8) = .agg #[(vf 2), (vf 7), .int .i64 0, .int .i64 0] ∧ (pf 8) = [] := hR 8 (by decide)
      refine hl_less (l' := [rowE 3 1 (.slice (some ⟨g4, 0, none⟩) ((List.replicate (5 + 4 * d.T).toNat (0 : Int)).length) ((List.replicate (5 + 4 * d.T).toNat (0 : Int)).length)) ((List.replicate (5 + 4 * d.T).toNat (0 : Int)).length) ((List.replicate (5 + 4 * d.T).toNat (0 : Int)).map (Value.int .i64)), rowE 3 1 (.slice (some ⟨g5, 0, none⟩) ((List.replicate 4 (0 : Int)).length) ((List.replicate 4 (0 : Int)).length)) ((List.replicate 4 (0 : Int)).length) ((List.replicate 4 (0 : Int)).map (Value.int .i64)), rowE 3 1 (.slice (some ⟨g6, 0, none⟩) ((List.replicate 4 (0 : Int)).length) ((List.replicate 4 (0 : Int)).length)) ((List.replicate 4 (0 : Int)).length) ((List.replicate 4 (0 : Int)).map (Value.int .i64)), rowE 87 4 (.slice (some ⟨g7, 0, none⟩) 2 2) 2 ([.slice (some ⟨g5, 0, none⟩) ((List.replicate 4 (0 : Int)).length) ((List.replicate 4 (0 : Int)).length), .int .i64 0, .int .i64 0, .int .i64 0, .slice (some ⟨g6, 0, none⟩) ((List.replicate 4 (0 : Int)).length) ((List.replicate 4 (0 : Int)).length), .int .i64 0, .int .i64 0, .int .i64 0]), boxE b2 #[.slice none 0 0, .slice none 0 0, .int .i64 0, .int .i64 0] 39, boxE b1 #[.int .i64 d.W, .int .i64 d.H, .int .i64 d.T, .int .i64 d.R] 25]) (sub_cons (d := 0) rfl (sub_cons (d := 1) rfl (sub_cons (d := 2) rfl (sub_cons (d := 5) rfl (sub_cons (d := 15) (congrArg some e8.1) (sub_nil _)))))) (by first | (simp only [p2, v2, p3, v3, p5, v5, p7, v7, q0.2, q1.2, q4.2, q6.2, q8.2, List.flatMap_cons, List.flatMap_nil, List.append_nil, List.nil_append, List.cons_append]; exact List.Sublist.refl _) | simp [p2, v2, p3, v3, p5, v5, p7, v7, q0.2, q1.2, q4.2, q6.2, q8.2]) ?_
      simp only [List.drop_succ_cons, List.drop_zero]
      refine hl_storeBoxN (i := 4) (off := 0) (us := [.slice (some ⟨g4, 0, none⟩) ((List.replicate (5 + 4 * d.T).toNat (0 : Int)).length) ((List.replicate (5 + 4 * d.T).toNat (0 : Int)).length), .slice (some ⟨g7, 0, none⟩) 2 2, .int .i64 0, .int .i64 0]) (l' := [rowE 3 1 (.slice (some ⟨g4, 0, none⟩) ((List.replicate (5 + 4 * d.T).toNat (0 : Int)).length) ((List.replicate (5 + 4 * d.T).toNat (0 : Int)).length)) ((List.replicate (5 + 4 * d.T).toNat (0 : Int)).length) ((List.replicate (5 + 4 * d.T).toNat (0 : Int)).map (Value.int .i64)), rowE 3 1 (.slice (some ⟨g5, 0, none⟩) ((List.replicate 4 (0 : Int)).length) ((List.replicate 4 (0 : Int)).length)) ((List.replicate 4 (0 : Int)).length) ((List.replicate 4 (0 : Int)).map (Value.int .i64)), rowE 3 1 (.slice (some ⟨g6, 0, none⟩) ((List.replicate 4 (0 : Int)).length) ((List.replicate 4 (0 : Int)).length)) ((List.replicate 4 (0 : Int)).length) ((List.replicate 4 (0 : Int)).map (Value.int .i64)), rowE 87 4 (.slice (some ⟨g7, 0, none⟩) 2 2) 2 ([.slice (some ⟨g5, 0, none⟩) ((List.replicate 4 (0 : Int)).length) ((List.replicate 4 (0 : Int)).length), .int .i64 0, .int .i64 0, .int .i64 0, .slice (some ⟨g6, 0, none⟩) ((List.replicate 4 (0 : Int)).length) ((List.replicate 4 (0 : Int)).length), .int .i64 0, .int .i64 0, .int .i64 0]), boxE b2 #[.slice (some ⟨g4, 0, none⟩) ((List.replicate (5 + 4 * d.T).toNat (0 : Int)).length) ((List.replicate (5 + 4 * d.T).toNat (0 : Int)).length), .slice (some ⟨g7, 0, none⟩) 2 2, .int .i64 0, .int .i64 0] 39, boxE b1 #[.int .i64 d.W, .int .i64 d.H, .int .i64 d.T, .int .i64 d.R] 25]) rfl rfl rfl (by kernel_rfl) rfl rfl rfl (all_cons rfl (all_cons rfl (all_cons rfl (all_cons rfl all_nil)))) rfl rfl rfl ?_
      refine hl_less (sub_cons (d := 0) rfl (sub_cons (d := 1) rfl (sub_cons (d := 2) rfl (sub_cons (d := 5) rfl (sub_nil _))))) (.refl _) ?_
      refine hl_nil ?_
      refine hq_then ?_
      refine hc_ret ?_
      refine hq_conv [rowE 3 1 (.slice (some ⟨g5, 0, none⟩) ((List.replicate 4 (0 : Int)).length) ((List.replicate 4 (0 : Int)).length)) ((List.replicate 4 (0 : Int)).length) ((List.replicate 4 (0 : Int)).map (Value.int .i64)), rowE 3 1 (.slice (some ⟨g6, 0, none⟩) ((List.replicate 4 (0 : Int)).length) ((List.replicate 4 (0 : Int)).length)) ((List.replicate 4 (0 : Int)).length) ((List.replicate 4 (0 : Int)).map (Value.int .i64)), rowE 87 4 (.slice (some ⟨g7, 0, none⟩) 2 2) 2 ([.slice (some ⟨g5, 0, none⟩) ((List.replicate 4 (0 : Int)).length) ((List.replicate 4 (0 : Int)).length), .int .i64 0, .int .i64 0, .int .i64 0, .slice (some ⟨g6, 0, none⟩) ((List.replicate 4 (0 : Int)).length) ((List.replicate 4 (0 : Int)).length), .int .i64 0, .int .i64 0, .int .i64 0]), rowE 3 1 (.slice (some ⟨g4, 0, none⟩) ((List.replicate (5 + 4 * d.T).toNat (0 : Int)).length) ((List.replicate (5 + 4 * d.T).toNat (0 : Int)).length)) ((List.replicate (5 + 4 * d.T).toNat (0 : Int)).length) ((List.replicate (5 + 4 * d.T).toNat (0 : Int)).map (Value.int .i64)), boxE b2 #[.slice (some ⟨g4, 0, none⟩) ((List.replicate (5 + 4 * d.T).toNat (0 : Int)).length) ((List.replicate (5 + 4 * d.T).toNat (0 : Int)).length), .slice (some ⟨g7, 0, none⟩) 2 2, .int .i64 0, .int .i64 0] 39] (conv_pick (src := [rowE 3 1 (.slice (some ⟨g4, 0, none⟩) ((List.replicate (5 + 4 * d.T).toNat (0 : Int)).length) ((List.replicate (5 + 4 * d.T).toNat (0 : Int)).length)) ((List.replicate (5 + 4 * d.T).toNat (0 : Int)).length) ((List.replicate (5 + 4 * d.T).toNat (0 : Int)).map (Value.int .i64)), rowE 3 1 (.slice (some ⟨g5, 0, none⟩) ((List.replicate 4 (0 : Int)).length) ((List.replicate 4 (0 : Int)).length)) ((List.replicate 4 (0 : Int)).length) ((List.replicate 4 (0 : Int)).map (Value.int .i64)), rowE 3 1 (.slice (some ⟨g6, 0, none⟩) ((List.replicate 4 (0 : Int)).length) ((List.replicate 4 (0 : Int)).length)) ((List.replicate 4 (0 : Int)).length) ((List.replicate 4 (0 : Int)).map (Value.int .i64)), rowE 87 4 (.slice (some ⟨g7, 0, none⟩) 2 2) 2 ([.slice (some ⟨g5, 0, none⟩) ((List.replicate 4 (0 : Int)).length) ((List.replicate 4 (0 : Int)).length), .int .i64 0, .int .i64 0, .int .i64 0, .slice (some ⟨g6, 0, none⟩) ((List.replicate 4 (0 : Int)).length) ((List.replicate 4 (0 : Int)).length), .int .i64 0, .int .i64 0, .int .i64 0]), boxE b2 #[.slice (some ⟨g4, 0, none⟩) ((List.replicate (5 + 4 * d.T).toNat (0 : Int)).length) ((List.replicate (5 + 4 * d.T).toNat (0 : Int)).length), .slice (some ⟨g7, 0, none⟩) 2 2, .int .i64 0, .int .i64 0] 39, boxE b1 #[.int .i64 d.W, .int .i64 d.H, .int .i64 d.T, .int .i64 d.R] 25]) (dst := [rowE 3 1 (.slice (some ⟨g5, 0, none⟩) ((List.replicate 4 (0 : Int)).length) ((List.replicate 4 (0 : Int)).length)) ((List.replicate 4 (0 : Int)).length) ((List.replicate 4 (0 : Int)).map (Value.int .i64)), rowE 3 1 (.slice (some ⟨g6, 0, none⟩) ((List.replicate 4 (0 : Int)).length) ((List.replicate 4 (0 : Int)).length)) ((List.replicate 4 (0 : Int)).length) ((List.replicate 4 (0 : Int)).map (Value.int .i64)), rowE 87 4 (.slice (some ⟨g7, 0, none⟩) 2 2) 2 ([.slice (some ⟨g5, 0, none⟩) ((List.replicate 4 (0 : Int)).length) ((List.replicate 4 (0 : Int)).length), .int .i64 0, .int .i64 0, .int .i64 0, .slice (some ⟨g6, 0, none⟩) ((List.replicate 4 (0 : Int)).length) ((List.replicate 4 (0 : Int)).length), .int .i64 0, .int .i64 0, .int .i64 0]), rowE 3 1 (.slice (some ⟨g4, 0, none⟩) ((List.replicate (5 + 4 * d.T).toNat (0 : Int)).length) ((List.replicate (5 + 4 * d.T).toNat (0 : Int)).length)) ((List.replicate (5 + 4 * d.T).toNat (0 : Int)).length) ((List.replicate (5 + 4 * d.T).toNat (0 : Int)).map (Value.int .i64)), boxE b2 #[.slice (some ⟨g4, 0, none⟩) ((List.replicate (5 + 4 * d.T).toNat (0 : Int)).length) ((List.replicate (5 + 4 * d.T).toNat (0 : Int)).length), .slice (some ⟨g7, 0, none⟩) 2 2, .int .i64 0, .int .i64 0] 39]) (l := []) [1, 2, 3, 0, 4] (by decide) rfl) ?_
      refine hq_conv (tcE (Tc.mk (.slice (some ⟨g4, 0, none⟩) ((List.replicate (5 + 4 * d.T).toNat (0 : Int)).length) ((List.replicate (5 + 4 * d.T).toNat (0 : Int)).length)) (List.replicate (5 + 4 * d.T).toNat (0 : Int)) (.slice (some ⟨g7, 0, none⟩) 2 2) [Le.mk (.slice (some ⟨g5, 0, none⟩) ((List.replicate 4 (0 : Int)).length) ((List.replicate 4 (0 : Int)).length)) [0, 0, 0, 0] 0 0 0, Le.mk (.slice (some ⟨g6, 0, none⟩) ((List.replicate 4 (0 : Int)).length) ((List.replicate 4 (0 : Int)).length)) [0, 0, 0, 0] 0 0 0] 0 0) :: [boxE b2 #[.slice (some ⟨g4, 0, none⟩) ((List.replicate (5 + 4 * d.T).toNat (0 : Int)).length) ((List.replicate (5 + 4 * d.T).toNat (0 : Int)).length), .slice (some ⟨g7, 0, none⟩) 2 2, .int .i64 0, .int .i64 0] 39]) (fun w hm => Mem.tc (Tc.mk (.slice (some ⟨g4, 0, none⟩) ((List.replicate (5 + 4 * d.T).toNat (0 : Int)).length) ((List.replicate (5 + 4 * d.T).toNat (0 : Int)).length)) (List.replicate (5 + 4 * d.T).toNat (0 : Int)) (.slice (some ⟨g7, 0, none⟩) 2 2) [Le.mk (.slice (some ⟨g5, 0, none⟩) ((List.replicate 4 (0 : Int)).length) ((List.replicate 4 (0 : Int)).length)) [0, 0, 0, 0] 0 0 0, Le.mk (.slice (some ⟨g6, 0, none⟩) ((List.replicate 4 (0 : Int)).length) ((List.replicate 4 (0 : Int)).length)) [0, 0, 0, 0] 0 0 0] 0 0) hm) ?_
      exact hq_retC (b := b2) (i := 1) (us := [.slice (some ⟨g4, 0, none⟩) ((List.replicate (5 + 4 * d.T).toNat (0 : Int)).length) ((List.replicate (5 + 4 * d.T).toNat (0 : Int)).length), .slice (some ⟨g7, 0, none⟩) 2 2, .int .i64 0, .int .i64 0]) (post := [tcE (Tc.mk (.slice (some ⟨g4, 0, none⟩) ((List.replicate (5 + 4 * d.T).toNat (0 : Int)).length) ((List.replicate (5 + 4 * d.T).toNat (0 : Int)).length)) (List.replicate (5 + 4 * d.T).toNat (0 : Int)) (.slice (some ⟨g7, 0, none⟩) 2 2) [Le.mk (.slice (some ⟨g5, 0, none⟩) ((List.replicate 4 (0 : Int)).length) ((List.replicate 4 (0 : Int)).length)) [0, 0, 0, 0] 0 0 0, Le.mk (.slice (some ⟨g6, 0, none⟩) ((List.replicate 4 (0 : Int)).length) ((List.replicate 4 (0 : Int)).length)) [0, 0, 0, 0] 0 0 0] 0 0)]) rfl rfl (by kernel_rfl) (by kernel_rfl) rfl (.cons_cons _ (List.nil_sublist _)) ⟨_, rfl, rfl, ⟨rfl, rfl⟩, by unfold emptyT; rw [if_pos (by assumption)]; rfl, by simp; omega, by simp, by simp⟩
  ·
    refine hl_v rfl rfl rfl (rv_ev rfl) ?_
    refine hl_less (sub_cons (d := 0) rfl (sub_cons (d := 1) rfl (sub_cons (d := 2) rfl (sub_cons (d := 5) rfl (sub_nil _))))) (.refl _) ?_
    refine hl_nil ?_
    refine hq_then ?_
    refine hc_true rfl ?_
    refine hc_seq ?_
    refine hc_region ?_
    refine hl_v rfl rfl rfl (rv_build (cs := #[.slice none 0 0, .slice none 0 0, .int .i64 0, .int .i64 0]) rfl rfl (by kernel_rfl)) ?_
    refine hl_storeBoxN (i := 0) (off := 0) (us := [.slice none 0 0, .slice none 0 0, .int .i64 0, .int .i64 0]) (l' := [boxE b2 #[.slice none 0 0, .slice none 0 0, .int .i64 0, .int .i64 0] 39, boxE b1 #[.int .i64 d.W, .int .i64 d.H, .int .i64 d.T, .int .i64 d.R] 25]) rfl rfl rfl (by kernel_rfl) rfl rfl rfl (all_cons rfl (all_cons rfl (all_cons rfl (all_cons rfl all_nil)))) rfl rfl rfl ?_
    refine hl_less (sub_cons (d := 0) rfl (sub_cons (d := 1) rfl (sub_cons (d := 2) rfl (sub_cons (d := 5) rfl (sub_nil _))))) (.refl _) ?_
    refine hl_nil ?_
    refine hq_then ?_
    refine hc_ret ?_
    refine hq_then_ret ?_
    refine hq_conv (tcE (Tc.mk (.slice none 0 0) [] (.slice none 0 0) [] 0 0) :: [boxE b2 #[.slice none 0 0, .slice none 0 0, .int .i64 0, .int .i64 0] 39, boxE b1 #[.int .i64 d.W, .int .i64 d.H, .int .i64 d.T, .int .i64 d.R] 25]) (fun w hm => hm.tcNil) ?_
    exact hq_retC (b := b2) (i := 1) (us := [.slice none 0 0, .slice none 0 0, .int .i64 0, .int .i64 0]) (post := [tcE (Tc.mk (.slice none 0 0) [] (.slice none 0 0) [] 0 0)]) rfl rfl (by kernel_rfl) (by kernel_rfl) rfl (.cons_cons _ (List.nil_sublist _)) ⟨_, rfl, rfl, ⟨rfl, rfl⟩, by unfold emptyT; rw [if_neg (by simp [*])]; rfl, by decide, by decide, by simp⟩
set_option maxHeartbeats 4000000 in
set_option maxRecDepth 100000 in
theorem walk_FnExactEmptyTile (d : Dev) (w : World)  :
    Calls Try.prog 4 #[.agg #[.int .i64 d.W, .int .i64 d.H, .int .i64 d.T, .int .i64 d.R]] w (Ans w (.bool true)) := by
  refine calls_hc (N := 44) (args := [.agg #[.int .i64 d.W, .int .i64 d.H, .int .i64 d.T, .int .i64 d.R]]) Try.func4 rfl rfl ?_
  refine hc_less _ (sub_cons (d := 0) rfl (sub_nil _)) (.refl _) ?_
  refine hc_seq ?_
  refine hc_region ?_
  refine hl_box rfl rfl rfl (rq_box rfl rfl) ?_
  intro b1
  refine hl_v rfl rfl rfl (rv_ev rfl) ?_
  refine hl_less (sub_cons (d := 0) rfl (sub_cons (d := 1) rfl (sub_cons (d := 2) rfl (sub_nil _)))) (.refl _) ?_
  refine hl_nil ?_
  refine hq_then ?_
  refine hc_seq ?_
  refine hc_region ?_
  refine hl_v rfl rfl rfl (rv_loadN (cs := [.int .i64 d.W, .int .i64 d.H, .int .i64 d.T, .int .i64 d.R]) rfl (by kernel_rfl) (by kernel_rfl) rfl rfl (box_part 0 rfl 0 rfl)) ?_
  refine hl_callV rfl rfl rfl (rq_call (by kernel_rfl) rfl (fun w hm => ret_ans (toDevice_any d w))) ?_
  refine hl_q rfl rfl rfl (rq_call (by kernel_rfl) rfl (fun w hm => specEmptyTile_ret d w)) ?_
  intro v2 p3 hR4
  obtain ⟨thR4, rfl, rfl, ⟨c1thR4, c2thR4⟩, valthR4, n1thR4, n2thR4, n3thR4⟩ := hR4
  have bthR4 := And.intro n1thR4 (And.intro n2thR4 n3thR4)
  refine hl_box rfl rfl rfl (rq_alloc (z := .agg #[.slice none 0 0, .slice none 0 0, .int .i64 0, .int .i64 0]) rfl (by kernel_rfl)) ?_
  intro b5
  refine hl_storeBoxN (i := 0) (off := 0) (us := [thR4.mv, thR4.lv, .int .i64 thR4.pad, .int .i64 thR4.ram]) (l' := [boxE b5 #[thR4.mv, thR4.lv, .int .i64 thR4.pad, .int .i64 thR4.ram] 39, tcE thR4, boxE b1 #[.int .i64 d.W, .int .i64 d.H, .int .i64 d.T, .int .i64 d.R] 36]) rfl rfl rfl (by kernel_rfl) rfl rfl rfl (all_cons c1thR4 (all_cons c2thR4 (all_cons rfl (all_cons rfl all_nil)))) rfl rfl rfl ?_
  refine hl_less (sub_cons (d := 0) rfl (sub_cons (d := 1) rfl (sub_cons (d := 2) rfl (sub_cons (d := 3) rfl (sub_nil _))))) (.refl _) ?_
  refine hl_nil ?_
  refine hq_then ?_
  refine hc_seq ?_
  refine hc_region ?_
  refine hl_v rfl rfl rfl (rv_loadN (cs := [.int .i64 d.W, .int .i64 d.H, .int .i64 d.T, .int .i64 d.R]) rfl (by kernel_rfl) (by kernel_rfl) rfl rfl (box_part 2 rfl 0 rfl)) ?_
  refine hl_callV rfl rfl rfl (rq_call (by kernel_rfl) rfl (fun w hm => ret_ans (toDevice_any d w))) ?_
  refine hl_q rfl rfl rfl (rq_call (by kernel_rfl) rfl (fun w hm => implEmptyTile_ret d w)) ?_
  intro v6 p7 hR8
  obtain ⟨thR8, rfl, rfl, ⟨c1thR8, c2thR8⟩, valthR8, n1thR8, n2thR8, n3thR8⟩ := hR8
  have bthR8 := And.intro n1thR8 (And.intro n2thR8 n3thR8)
  refine hl_box rfl rfl rfl (rq_alloc (z := .agg #[.slice none 0 0, .slice none 0 0, .int .i64 0, .int .i64 0]) rfl (by kernel_rfl)) ?_
  intro b9
  refine hl_storeBoxN (i := 0) (off := 0) (us := [thR8.mv, thR8.lv, .int .i64 thR8.pad, .int .i64 thR8.ram]) (l' := [boxE b9 #[thR8.mv, thR8.lv, .int .i64 thR8.pad, .int .i64 thR8.ram] 39, tcE thR8, boxE b5 #[thR4.mv, thR4.lv, .int .i64 thR4.pad, .int .i64 thR4.ram] 39, tcE thR4, boxE b1 #[.int .i64 d.W, .int .i64 d.H, .int .i64 d.T, .int .i64 d.R] 36]) rfl rfl rfl (by kernel_rfl) rfl rfl rfl (all_cons c1thR8 (all_cons c2thR8 (all_cons rfl (all_cons rfl all_nil)))) rfl rfl rfl ?_
  refine hl_less (sub_cons (d := 0) rfl (sub_cons (d := 1) rfl (sub_cons (d := 2) rfl (sub_cons (d := 3) rfl (sub_cons (d := 4) rfl (sub_nil _)))))) (.refl _) ?_
  refine hl_nil ?_
  refine hq_then ?_
  refine hc_seq ?_
  refine hc_seq ?_
  refine hc_region ?_
  refine hl_v rfl rfl rfl (rv_loadN (cs := [thR8.mv, thR8.lv, .int .i64 thR8.pad, .int .i64 thR8.ram]) rfl (by kernel_rfl) (by kernel_rfl) rfl rfl (box_part 0 rfl 0 rfl)) ?_
  refine hl_v rfl rfl rfl (rv_loadN (cs := [thR4.mv, thR4.lv, .int .i64 thR4.pad, .int .i64 thR4.ram]) rfl (by kernel_rfl) (by kernel_rfl) rfl rfl (box_part 2 rfl 0 rfl)) ?_
  refine hl_callV rfl rfl rfl (rq_call (by kernel_rfl) rfl (fun w hm => ret_ans (eqTileConfig_ans thR8 thR4 w (tc_rds 1 rfl bthR8.1 bthR8.2.1 bthR8.2.2 w hm) (tc_rds 3 rfl bthR4.1 bthR4.2.1 bthR4.2.2 w hm)))) ?_
  refine hl_bool (fun h10 => ?_) (fun h10 => absurd (((decide_eq_true (valthR8.trans valthR4.symm))).symm.trans h10) (by decide))
  refine hl_v rfl rfl rfl (rv_ev rfl) ?_
  refine hl_less (sub_cons (d := 0) rfl (sub_cons (d := 1) rfl (sub_cons (d := 2) rfl (sub_cons (d := 3) rfl (sub_cons (d := 4) rfl (sub_cons (d := 17) rfl (sub_nil _))))))) (.refl _) ?_
  refine hl_nil ?_
  refine hq_then ?_
  refine hc_false rfl ?_
  refine hc_skip ?_
  refine hq_then ?_
  refine hc_seq ?_
  refine hc_region ?_
  refine hl_v rfl rfl rfl (rv_ev rfl) ?_
  refine hl_less (sub_cons (d := 0) rfl (sub_cons (d := 1) rfl (sub_cons (d := 2) rfl (sub_cons (d := 3) rfl (sub_cons (d := 4) rfl (sub_cons (d := 5) rfl (sub_cons (d := 17) rfl (sub_nil _)))))))) (.refl _) ?_
  refine hl_nil ?_
  refine hq_then ?_
  refine hc_seq ?_
  refine hc_region ?_
  refine hl_v rfl rfl rfl (rv_loadN (cs := [thR8.mv, thR8.lv, .int .i64 thR8.pad, .int .i64 thR8.ram]) rfl (by kernel_rfl) (by kernel_rfl) rfl rfl (box_part 0 rfl 0 rfl)) ?_
  refine hl_v rfl rfl rfl (rv_ev rfl) ?_
  refine hl_callM (R := (fun u_ p_ => u_ = .int .i64 (sumT 1 thR8) ∧ p_ = tcE (markT 1 thR8))) 1 rfl rfl (by kernel_rfl) rfl rfl (fun l' w hm => markTileConfig_mut thR8 1 _ _ w hm (by omega) bthR8.1 bthR8.2.1 bthR8.2.2) ?_
  intro v11 p12 hR13
  obtain ⟨rfl, rfl⟩ := hR13
  have mthR8 := markT_bounds (k := 1) bthR8.1 bthR8.2.1 bthR8.2.2
  have sathR8 := sumT_again 1 thR8
  have srthR8 := sumT_rng bthR8.1 bthR8.2.2
  refine hl_eqL (l' := [boxE b9 #[thR8.mv, thR8.lv, .int .i64 thR8.pad, .int .i64 thR8.ram] 39, tcE (markT 1 thR8), boxE b5 #[thR4.mv, thR4.lv, .int .i64 thR4.pad, .int .i64 thR4.ram] 39, tcE thR4, boxE b1 #[.int .i64 d.W, .int .i64 d.H, .int .i64 d.T, .int .i64 d.R] 36]) rfl ?_
  refine hl_v rfl rfl rfl (rv_ev rfl) ?_
  refine hl_less (sub_cons (d := 0) rfl (sub_cons (d := 1) rfl (sub_cons (d := 2) rfl (sub_cons (d := 3) rfl (sub_cons (d := 4) rfl (sub_cons (d := 5) rfl (sub_cons (d := 17) rfl (sub_nil _)))))))) (.refl _) ?_
  refine hl_nil ?_
  refine hq_then ?_
  refine hc_seq ?_
  refine hc_region ?_
  refine hl_v rfl rfl rfl (rv_ev rfl) ?_
  refine hl_less (sub_cons (d := 0) rfl (sub_cons (d := 1) rfl (sub_cons (d := 2) rfl (sub_cons (d := 3) rfl (sub_cons (d := 4) rfl (sub_cons (d := 5) rfl (sub_cons (d := 6) rfl (sub_cons (d := 17) rfl (sub_nil _))))))))) (.refl _) ?_
  refine hl_nil ?_
  refine hq_then ?_
  refine hc_seq ?_
  refine hc_region ?_
  refine hl_v rfl rfl rfl (rv_loadN (cs := [thR8.mv, thR8.lv, .int .i64 thR8.pad, .int .i64 thR8.ram]) rfl (by kernel_rfl) (by kernel_rfl) rfl rfl (box_part 0 rfl 0 rfl)) ?_
  refine hl_v rfl rfl rfl (rv_ev rfl) ?_
  refine hl_callV rfl rfl rfl (rq_call (by kernel_rfl) rfl (fun w hm => ret_ans (heldTileConfig_ans (markT 1 thR8) 1 w (tc_rds 1 rfl mthR8.1 mthR8.2.1 mthR8.2.2 w hm) (by omega) (markT_again _ _)))) ?_
  refine hl_v rfl rfl rfl (rv_ev rfl) ?_
  refine hl_less (sub_cons (d := 0) rfl (sub_cons (d := 1) rfl (sub_cons (d := 2) rfl (sub_cons (d := 3) rfl (sub_cons (d := 4) rfl (sub_cons (d := 5) rfl (sub_cons (d := 6) rfl (sub_cons (d := 17) rfl (sub_nil _))))))))) (.refl _) ?_
  refine hl_nil ?_
  refine hq_then ?_
  refine hc_seq ?_
  refine hc_seq ?_
  refine hc_region ?_
  refine hl_v rfl rfl rfl (rv_ev rfl) ?_
  refine hl_lss rfl rfl rfl rfl rfl rfl (fun h14 => absurd h14 (by omega)) (fun h14 => ?_)
  refine hl_less (sub_cons (d := 0) rfl (sub_cons (d := 1) rfl (sub_cons (d := 2) rfl (sub_cons (d := 3) rfl (sub_cons (d := 4) rfl (sub_cons (d := 5) rfl (sub_cons (d := 6) rfl (sub_cons (d := 17) rfl (sub_cons (d := 25) rfl (sub_nil _)))))))))) (.refl _) ?_
  refine hl_nil ?_
  refine hq_then ?_
  refine hc_false rfl ?_
  refine hc_skip ?_
  refine hq_then ?_
  refine hc_seq ?_
  refine hc_seq ?_
  refine hc_region ?_
  refine hl_v rfl rfl rfl (rv_ev rfl) ?_
  refine hl_v rfl rfl rfl (rv_ev rfl) ?_
  refine hl_neq rfl rfl rfl rfl rfl rfl (fun h15 => absurd h15 (by omega)) (fun h15 => ?_)
  refine hl_less (sub_cons (d := 0) rfl (sub_cons (d := 1) rfl (sub_cons (d := 2) rfl (sub_cons (d := 3) rfl (sub_cons (d := 4) rfl (sub_cons (d := 5) rfl (sub_cons (d := 6) rfl (sub_cons (d := 17) rfl (sub_cons (d := 25) rfl (sub_cons (d := 28) rfl (sub_nil _))))))))))) (.refl _) ?_
  refine hl_nil ?_
  refine hq_then ?_
  refine hc_false rfl ?_
  refine hc_skip ?_
  refine hq_then ?_
  refine hc_seq ?_
  refine hc_region ?_
  refine hl_v rfl rfl rfl (rv_loadN (cs := [.int .i64 d.W, .int .i64 d.H, .int .i64 d.T, .int .i64 d.R]) rfl (by kernel_rfl) (by kernel_rfl) rfl rfl (box_part 4 rfl 0 rfl)) ?_
  refine hl_callV rfl rfl rfl (rq_call (by kernel_rfl) rfl (fun w hm => ret_ans (toDevice_any d w))) ?_
  refine hl_q rfl rfl rfl (rq_call (by kernel_rfl) rfl (fun w hm => implEmptyTile_ret d w)) ?_
  intro v16 p17 hR18
  obtain ⟨thR18, rfl, rfl, ⟨c1thR18, c2thR18⟩, valthR18, n1thR18, n2thR18, n3thR18⟩ := hR18
  have bthR18 := And.intro n1thR18 (And.intro n2thR18 n3thR18)
  refine hl_box rfl rfl rfl (rq_alloc (z := .agg #[.slice none 0 0, .slice none 0 0, .int .i64 0, .int .i64 0]) rfl (by kernel_rfl)) ?_
  intro b19
  refine hl_storeBoxN (i := 0) (off := 0) (us := [thR18.mv, thR18.lv, .int .i64 thR18.pad, .int .i64 thR18.ram]) (l' := [boxE b19 #[thR18.mv, thR18.lv, .int .i64 thR18.pad, .int .i64 thR18.ram] 39, tcE thR18, boxE b9 #[thR8.mv, thR8.lv, .int .i64 thR8.pad, .int .i64 thR8.ram] 39, tcE (markT 1 thR8), boxE b5 #[thR4.mv, thR4.lv, .int .i64 thR4.pad, .int .i64 thR4.ram] 39, tcE thR4, boxE b1 #[.int .i64 d.W, .int .i64 d.H, .int .i64 d.T, .int .i64 d.R] 36]) rfl rfl rfl (by kernel_rfl) rfl rfl rfl (all_cons c1thR18 (all_cons c2thR18 (all_cons rfl (all_cons rfl all_nil)))) rfl rfl rfl ?_
  refine hl_less (sub_cons (d := 0) rfl (sub_cons (d := 1) rfl (sub_cons (d := 2) rfl (sub_cons (d := 3) rfl (sub_cons (d := 4) rfl (sub_cons (d := 5) rfl (sub_cons (d := 6) rfl (sub_cons (d := 7) rfl (sub_cons (d := 17) rfl (sub_cons (d := 25) rfl (sub_cons (d := 28) rfl (sub_nil _)))))))))))) (.refl _) ?_
  refine hl_nil ?_
  refine hq_then ?_
  refine hc_seq ?_
  refine hc_seq ?_
  refine hc_region ?_
  refine hl_v rfl rfl rfl (rv_loadN (cs := [thR18.mv, thR18.lv, .int .i64 thR18.pad, .int .i64 thR18.ram]) rfl (by kernel_rfl) (by kernel_rfl) rfl rfl (box_part 0 rfl 0 rfl)) ?_
  refine hl_v rfl rfl rfl (rv_loadN (cs := [thR4.mv, thR4.lv, .int .i64 thR4.pad, .int .i64 thR4.ram]) rfl (by kernel_rfl) (by kernel_rfl) rfl rfl (box_part 4 rfl 0 rfl)) ?_
  refine hl_callV rfl rfl rfl (rq_call (by kernel_rfl) rfl (fun w hm => ret_ans (eqTileConfig_ans thR18 thR4 w (tc_rds 1 rfl bthR18.1 bthR18.2.1 bthR18.2.2 w hm) (tc_rds 5 rfl bthR4.1 bthR4.2.1 bthR4.2.2 w hm)))) ?_
  refine hl_bool (fun h20 => ?_) (fun h20 => absurd (((decide_eq_true (valthR18.trans valthR4.symm))).symm.trans h20) (by decide))
  refine hl_v rfl rfl rfl (rv_ev rfl) ?_
  refine hl_less (sub_cons (d := 0) rfl (sub_cons (d := 1) rfl (sub_cons (d := 2) rfl (sub_cons (d := 3) rfl (sub_cons (d := 4) rfl (sub_cons (d := 5) rfl (sub_cons (d := 6) rfl (sub_cons (d := 7) rfl (sub_cons (d := 17) rfl (sub_cons (d := 25) rfl (sub_cons (d := 28) rfl (sub_cons (d := 35) rfl (sub_nil _))))))))))))) (.refl _) ?_
  refine hl_nil ?_
  refine hq_then ?_
  refine hc_false rfl ?_
  refine hc_skip ?_
  refine hq_then ?_
  refine hc_seq ?_
  refine hc_region ?_
  refine hl_v rfl rfl rfl (rv_ev rfl) ?_
  refine hl_less (sub_cons (d := 0) rfl (sub_cons (d := 1) rfl (sub_cons (d := 2) rfl (sub_cons (d := 3) rfl (sub_cons (d := 4) rfl (sub_cons (d := 5) rfl (sub_cons (d := 6) rfl (sub_cons (d := 7) rfl (sub_cons (d := 17) rfl (sub_cons (d := 25) rfl (sub_cons (d := 28) rfl (sub_cons (d := 35) rfl (sub_nil _))))))))))))) (.refl _) ?_
  refine hl_nil ?_
  refine hq_then ?_
  refine hc_seq ?_
  refine hc_region ?_
  refine hl_v rfl rfl rfl (rv_loadN (cs := [thR8.mv, thR8.lv, .int .i64 thR8.pad, .int .i64 thR8.ram]) rfl (by kernel_rfl) (by kernel_rfl) rfl rfl (box_part 2 rfl 0 rfl)) ?_
  refine hl_v rfl rfl rfl (rv_ev rfl) ?_
  refine hl_callV rfl rfl rfl (rq_call (by kernel_rfl) rfl (fun w hm => ret_ans (heldTileConfig_ans (markT 1 thR8) 1 w (tc_rds 3 rfl mthR8.1 mthR8.2.1 mthR8.2.2 w hm) (by omega) (markT_again _ _)))) ?_
  refine hl_v rfl rfl rfl (rv_ev rfl) ?_
  refine hl_less (sub_cons (d := 0) rfl (sub_cons (d := 1) rfl (sub_cons (d := 2) rfl (sub_cons (d := 3) rfl (sub_cons (d := 4) rfl (sub_cons (d := 5) rfl (sub_cons (d := 6) rfl (sub_cons (d := 7) rfl (sub_cons (d := 17) rfl (sub_cons (d := 25) rfl (sub_cons (d := 28) rfl (sub_cons (d := 35) rfl (sub_nil _))))))))))))) (.refl _) ?_
  refine hl_nil ?_
  refine hq_then ?_
  refine hc_seq ?_
  refine hc_seq ?_
  refine hc_region ?_
  refine hl_v rfl rfl rfl (rv_ev rfl) ?_
  refine hl_lss rfl rfl rfl rfl rfl rfl (fun h21 => absurd h21 (by omega)) (fun h21 => ?_)
  refine hl_less (sub_cons (d := 0) rfl (sub_cons (d := 1) rfl (sub_cons (d := 2) rfl (sub_cons (d := 3) rfl (sub_cons (d := 4) rfl (sub_cons (d := 5) rfl (sub_cons (d := 6) rfl (sub_cons (d := 7) rfl (sub_cons (d := 17) rfl (sub_cons (d := 25) rfl (sub_cons (d := 28) rfl (sub_cons (d := 35) rfl (sub_cons (d := 40) rfl (sub_nil _)))))))))))))) (.refl _) ?_
  refine hl_nil ?_
  refine hq_then ?_
  refine hc_false rfl ?_
  refine hc_skip ?_
  refine hq_then ?_
  refine hc_seq ?_
  refine hc_seq ?_
  refine hc_region ?_
  refine hl_v rfl rfl rfl (rv_ev rfl) ?_
  refine hl_v rfl rfl rfl (rv_ev rfl) ?_
  refine hl_neq rfl rfl rfl rfl rfl rfl (fun h22 => absurd h22 (by omega)) (fun h22 => ?_)
  refine hl_less (sub_cons (d := 0) rfl (sub_cons (d := 1) rfl (sub_cons (d := 2) rfl (sub_cons (d := 3) rfl (sub_cons (d := 4) rfl (sub_cons (d := 5) rfl (sub_cons (d := 6) rfl (sub_cons (d := 7) rfl (sub_cons (d := 17) rfl (sub_cons (d := 25) rfl (sub_cons (d := 28) rfl (sub_cons (d := 35) rfl (sub_cons (d := 40) rfl (sub_cons (d := 43) rfl (sub_nil _))))))))))))))) (.refl _) ?_
  refine hl_nil ?_
  refine hq_then ?_
  refine hc_false rfl ?_
  refine hc_skip ?_
  refine hq_then ?_
  refine hc_seq ?_
  refine hc_region ?_
  refine hl_v rfl rfl rfl (rv_ev rfl) ?_
  refine hl_less (sub_cons (d := 0) rfl (sub_cons (d := 1) rfl (sub_cons (d := 2) rfl (sub_cons (d := 3) rfl (sub_cons (d := 4) rfl (sub_cons (d := 5) rfl (sub_cons (d := 6) rfl (sub_cons (d := 7) rfl (sub_cons (d := 17) rfl (sub_cons (d := 25) rfl (sub_cons (d := 28) rfl (sub_cons (d := 35) rfl (sub_cons (d := 40) rfl (sub_cons (d := 43) rfl (sub_nil _))))))))))))))) (.refl _) ?_
  refine hl_nil ?_
  refine hq_then ?_
  refine hc_ret ?_
  exact hq_ans rfl rfl rfl
end Go.Proofs.Ytnnkbpcfjjijbaa
