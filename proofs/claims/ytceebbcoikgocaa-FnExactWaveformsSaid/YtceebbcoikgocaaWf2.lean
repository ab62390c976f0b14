/- Texts of the law FnExactWaveforms, part 2: what it uses. -/
import Derived.Test.YtceebbcoikgocaaWf1
set_option linter.unusedVariables false
set_option linter.unusedSimpArgs false
namespace Go.Proofs.Ytceebbcoikgocaa
open Go.RowKit Go.ChangeShapes
open Go.RowKit
set_option maxHeartbeats 4000000 in
set_option maxRecDepth 100000 in
theorem toIntR_ret (es : List IR) (v : Value) (w : World) (hr : RdsIr w v es) (hel : ∀ s ∈ es, s.xs.length ≤ 1048576) (hlen : es.length ≤ 2000000) :
  Calls Try.prog 77 #[v] w (Ret w (fun v_ p_ => ∃ zs : List IR, p_ = [irsE v_ zs] ∧ zs.map IR.xs = es.map IR.xs)) := by
 refine calls_hc (N := 23) (args := [v]) Try.func77 rfl rfl ?_
 refine hc_less _ (sx 0 rfl (sub_nil _)) (.refl _) ?_
 refine hc_seq ?_
 refine hc_region ?_
 refine hl_v rfl rfl rfl (rv_ev rfl) ?_
 refine hl_less (sx 0 rfl (sx 2 rfl (sub_nil _))) (.refl _) ?_
 refine hl_nil ?_
 refine hq_then ?_
 refine hc_seq ?_
 refine hc_region ?_
 refine hl_v rfl rfl rfl (rv_ev rfl) ?_
 refine hl_v rfl rfl rfl (rv_len rfl Try.underlying27 rfl (rd_old hr.row)) ?_
 refine hl_row rfl rfl rfl (rq_make (z := .slice none 0 0) (s := 1) (bytes := 24) (n := (List.replicate es.length ir0).length) (cs := ((List.replicate es.length ir0).flatMap irC)) rfl Try.underlying27 (by kernel_rfl) (by decide) rfl rfl (by first | (rw [List.length_replicate]; done) | (rw [List.length_replicate]; omega)) (by first | (rw [List.length_replicate]; done) | (rw [List.length_replicate]; omega)) (by rw [List.length_replicate]; omega) (made_flat irC 1 (fun _ => rfl) ir0 _ rfl es.length)) ?_
 intro g1
 refine hl_v rfl rfl rfl (rv_ev rfl) ?_
 refine hl_less (sx 0 rfl (sx 2 rfl (sx 3 rfl (sub_nil _)))) (.refl _) ?_
 refine hl_nil ?_
 refine hq_then ?_
 refine hc_seq ?_
 refine hc_seq ?_
 refine hc_region ?_
 refine hl_v rfl rfl rfl (rv_ev rfl) ?_
 refine hl_less (sx 0 rfl (sx 2 rfl (sx 3 rfl (sx 4 rfl (sub_nil _))))) (.refl _) ?_
 refine hl_nil ?_
 refine hq_then ?_
 refine hc_block ?_
 refine hc_conv [bigE ((List.replicate es.length ir0).map irPart), rowE 24 1 (.slice (some ⟨g1, 0, none⟩) ((List.replicate es.length ir0).length) ((List.replicate es.length ir0).length)) ((List.replicate es.length ir0).length) ((List.replicate es.length ir0).flatMap irC)] (fun w hm => by have h2 := (hm.bigNil 3 1 es.length).big; rw [show List.replicate es.length (rowE 3 1 (.slice none 0 0) 0 []) = (List.replicate es.length ir0).map irPart by rw [List.map_replicate]; rfl] at h2; exact h2) ?_
 refine hc_loop2 (α := Nat) (β := List IR) (fun j zs => [bigE (zs.map irPart), rowE 24 1 (.slice (some ⟨g1, 0, none⟩) ((List.replicate es.length ir0).length) ((List.replicate es.length ir0).length)) zs.length (zs.flatMap irC)]) (fun j zs => [(0, v), (2, .slice none 0 0), (3, .slice (some ⟨g1, 0, none⟩) ((List.replicate es.length ir0).length) ((List.replicate es.length ir0).length)), (4, .int .i64 (j : Int))]) (fun j zs => j ≤ es.length ∧ zs.length = es.length ∧ ∀ i, i < j → IR.xs (zs.getD i ir0) = IR.xs (es.getD i ir0)) (fun j zs => es.length - j) 0 _ ⟨by omega, by simp, fun i hi => absurd hi (by omega)⟩ (sx 0 rfl (sx 2 rfl (sx 3 rfl (sx 4 rfl (sub_nil _))))) ((.cons_cons _ (.cons_cons _ .slnil))) ?_
 intro j zs hi2
 obtain ⟨hj, hzl, hz⟩ := hi2
 refine hc_seq ?_
 refine hc_seq ?_
 refine hc_region ?_
 refine hl_v rfl rfl rfl (rv_ev rfl) ?_
 refine hl_v rfl rfl rfl (rv_ev rfl) ?_
 refine hl_v rfl rfl rfl (rv_len rfl Try.underlying27 rfl (rd_old hr.row)) ?_
 refine hl_lss rfl rfl rfl rfl rfl rfl (fun h3 => ?_) (fun h3 => ?_)
 ·
  refine hl_less (sx 0 rfl (sx 2 rfl (sx 3 rfl (sx 4 rfl (sx 11 rfl (sub_nil _)))))) (.refl _) ?_
  refine hl_nil ?_
  refine hq_then ?_
  refine hc_true rfl ?_
  refine hc_skip ?_
  refine hq_then ?_
  refine hc_seq ?_
  refine hc_block ?_
  refine hc_region ?_
  refine hl_v rfl rfl rfl (rv_ev rfl) ?_
  refine hl_v rfl rfl rfl (rv_ev rfl) ?_
  refine hl_v rfl rfl rfl (rv_ev rfl) ?_
  refine hl_v rfl rfl rfl (rv_ev rfl) ?_
  refine hl_v rfl rfl rfl (rv_index (s := 1) rfl Try.underlying27 (by kernel_rfl) rfl rfl (rd_old hr.row) (by omega) (by first | omega | (simp only [List.length_set]; omega))) ?_
  refine hl_v rfl rfl rfl (rv_loadEl (u := (es.getD j ir0).v) rfl (by kernel_rfl) rfl (rd_old hr.row) (flat_one irC (fun r => r.v) (fun _ => rfl) es ir0 (show j < _ by first | omega | (simp only [List.length_set]; omega)))) ?_
  refine hl_q rfl rfl rfl (rq_call (by kernel_rfl) rfl (fun w hm => toIntS_ret (es.getD j ir0).xs _ w ((rd_old (hr.at (d := ir0) (k := j) (by omega))) w hm) (by have := hel _ (getD_memX (l := es) (k := j) (d := ir0) (by omega)); omega))) ?_
  intro v4 p5 hR6
  subst hR6
  refine hl_v rfl rfl rfl (rv_index (s := 1) rfl Try.underlying27 (by kernel_rfl) rfl rfl (rd_row 2 rfl) (by omega) (by first | omega | (simp only [List.length_set]; omega))) ?_
  refine hl_one (i := 0) rfl (fun ho7 => ?_)
  refine hl_storeEl (i := 2) (n' := (zs.set j (IR.mk v4 (es.getD j ir0).xs)).length) (xs' := ((zs.set j (IR.mk v4 (es.getD j ir0).xs)).flatMap irC)) (l' := [rowE 3 1 v4 (((es.getD j ir0).xs).length) (((es.getD j ir0).xs).map (Value.int .i64)), bigE (zs.map irPart), rowE 24 1 (.slice (some ⟨g1, 0, none⟩) ((List.replicate es.length ir0).length) ((List.replicate es.length ir0).length)) ((zs.set j (IR.mk v4 (es.getD j ir0).xs)).length) ((zs.set j (IR.mk v4 (es.getD j ir0).xs)).flatMap irC)]) rfl rfl rfl (by kernel_rfl) rfl rfl ho7 rfl (by first | omega | (simp only [List.length_set]; omega)) List.length_set.symm (flat_set1 irC (fun r => r.v) (fun _ => rfl) _ (IR.mk v4 (es.getD j ir0).xs) rfl) rfl ?_
  refine hl_less (sx 0 rfl (sx 2 rfl (sx 3 rfl (sx 4 rfl (sx 11 rfl (sub_nil _)))))) (.refl _) ?_
  refine hl_nil ?_
  refine hq_block_normal ?_
  refine hq_then ?_
  refine hc_region ?_
  refine hl_v rfl rfl rfl (rv_ev rfl) ?_
  refine hl_v rfl rfl rfl (rv_add rfl rfl rfl (by constructor <;> omega)) ?_
  refine hl_v rfl rfl rfl (rv_ev rfl) ?_
  refine hl_less (sx 0 rfl (sx 2 rfl (sx 3 rfl (sx 4 rfl (sx 11 rfl (sub_nil _)))))) (.refl _) ?_
  refine hl_nil ?_
  refine hq_conv [bigE (zs.map irPart), rowE 3 1 v4 (((es.getD j ir0).xs).length) (((es.getD j ir0).xs).map (Value.int .i64)), rowE 24 1 (.slice (some ⟨g1, 0, none⟩) ((List.replicate es.length ir0).length) ((List.replicate es.length ir0).length)) ((zs.set j (IR.mk v4 (es.getD j ir0).xs)).length) ((zs.set j (IR.mk v4 (es.getD j ir0).xs)).flatMap irC)] (conv_pick (src := [rowE 3 1 v4 (((es.getD j ir0).xs).length) (((es.getD j ir0).xs).map (Value.int .i64)), bigE (zs.map irPart), rowE 24 1 (.slice (some ⟨g1, 0, none⟩) ((List.replicate es.length ir0).length) ((List.replicate es.length ir0).length)) ((zs.set j (IR.mk v4 (es.getD j ir0).xs)).length) ((zs.set j (IR.mk v4 (es.getD j ir0).xs)).flatMap irC)]) (dst := [bigE (zs.map irPart), rowE 3 1 v4 (((es.getD j ir0).xs).length) (((es.getD j ir0).xs).map (Value.int .i64)), rowE 24 1 (.slice (some ⟨g1, 0, none⟩) ((List.replicate es.length ir0).length) ((List.replicate es.length ir0).length)) ((zs.set j (IR.mk v4 (es.getD j ir0).xs)).length) ((zs.set j (IR.mk v4 (es.getD j ir0).xs)).flatMap irC)]) (l := []) [1, 0, 2] (by decide) rfl) ?_
  refine hq_conv [bigE ((zs.map irPart).eraseIdx j), rowE 3 1 v4 (((es.getD j ir0).xs).length) (((es.getD j ir0).xs).map (Value.int .i64)), rowE 24 1 (.slice (some ⟨g1, 0, none⟩) ((List.replicate es.length ir0).length) ((List.replicate es.length ir0).length)) ((zs.set j (IR.mk v4 (es.getD j ir0).xs)).length) ((zs.set j (IR.mk v4 (es.getD j ir0).xs)).flatMap irC)] ((conv_focus (j := j) (by rw [List.getElem?_map, getD_at (d := ir0) (by omega)]; rfl)).trans conv_cons) ?_
  refine hq_conv [rowE 3 1 v4 (((es.getD j ir0).xs).length) (((es.getD j ir0).xs).map (Value.int .i64)), bigE ((zs.map irPart).eraseIdx j), rowE 24 1 (.slice (some ⟨g1, 0, none⟩) ((List.replicate es.length ir0).length) ((List.replicate es.length ir0).length)) ((zs.set j (IR.mk v4 (es.getD j ir0).xs)).length) ((zs.set j (IR.mk v4 (es.getD j ir0).xs)).flatMap irC)] (conv_perm (.swap _ _ _)) ?_
  refine hq_conv [bigE ((zs.set j (IR.mk v4 (es.getD j ir0).xs)).map irPart), rowE 24 1 (.slice (some ⟨g1, 0, none⟩) ((List.replicate es.length ir0).length) ((List.replicate es.length ir0).length)) ((zs.set j (IR.mk v4 (es.getD j ir0).xs)).length) ((zs.set j (IR.mk v4 (es.getD j ir0).xs)).flatMap irC)] (fun w hm => by have h2 := conv_unfocus (p' := irPart (IR.mk v4 (es.getD j ir0).xs)) (ps := zs.map irPart) (j := j) (by rw [List.length_map]; omega) w hm; rw [← List.map_set] at h2; exact h2) ?_
  exact hq_round2 (j + 1) _ ⟨by omega, by rw [List.length_set]; exact hzl, fun i hi => by by_cases hij : i = j; (subst hij; exact (congrArg IR.xs (set_selfG (by omega))).trans rfl); rw [set_neG (fun h => hij h.symm)]; exact hz i (by omega)⟩ (by omega) (sx 0 rfl (sx 2 rfl (sx 3 rfl (sx 4 rfl (sub_nil _))))) ((.cons_cons _ (.cons_cons _ .slnil)))
 ·
  refine hl_less (sx 0 rfl (sx 2 rfl (sx 3 rfl (sx 4 rfl (sx 11 rfl (sub_nil _)))))) (.refl _) ?_
  refine hl_nil ?_
  refine hq_then ?_
  refine hc_false rfl ?_
  refine hc_exit ?_
  refine hq_then_exit ?_
  refine hq_then_exit ?_
  refine hq_block_exit ?_
  refine hq_then ?_
  refine hc_seq ?_
  refine hc_region ?_
  refine hl_v rfl rfl rfl (rv_ev rfl) ?_
  refine hl_v rfl rfl rfl (rv_ev rfl) ?_
  refine hl_less (sx 0 rfl (sx 2 rfl (sx 3 rfl (sx 4 rfl (sx 11 rfl (sub_nil _)))))) (.refl _) ?_
  refine hl_nil ?_
  refine hq_then ?_
  refine hc_ret ?_
  refine hq_conv [irsE (.slice (some ⟨g1, 0, none⟩) ((List.replicate es.length ir0).length) ((List.replicate es.length ir0).length)) zs] (conv_big (ps := [bigE (zs.map irPart), rowE 24 1 (.slice (some ⟨g1, 0, none⟩) ((List.replicate es.length ir0).length) ((List.replicate es.length ir0).length)) zs.length (zs.flatMap irC)])) ?_
  exact hq_retR (post := [irsE (.slice (some ⟨g1, 0, none⟩) ((List.replicate es.length ir0).length) ((List.replicate es.length ir0).length)) zs]) rfl rfl (.refl _) ⟨zs, rfl, map_ext_getD (d := ir0) hzl (fun i hi => hz i (by omega))⟩
set_option maxHeartbeats 4000000 in
set_option maxRecDepth 100000 in
theorem toDelays_ret (dl ds : List IR) (pv qv : Value) (w : World) (h1 : RdsIr w pv dl) (h2 : RdsIr w qv ds) (n1 : dl.length ≤ 1048576 ∧ ∀ s ∈ dl, s.xs.length ≤ 1048576) (n2 : ds.length ≤ 1048576 ∧ ∀ s ∈ ds, s.xs.length ≤ 1048576) :
  Calls Try.prog 46 #[.agg #[pv, qv]] w (Ret w (fun v_ p_ => ∃ (a : Value) (da : List IR) (b : Value) (db : List IR), v_ = .agg #[a, b] ∧ p_ = [bigE [irsE a da, irsE b db]] ∧ da.map IR.xs = dl.map IR.xs ∧ db.map IR.xs = ds.map IR.xs ∧ a.oneCell' = true ∧ b.oneCell' = true)) := by
 refine calls_hc (N := 13) (args := [.agg #[pv, qv]]) Try.func46 rfl rfl ?_
 refine hc_less _ (sx 0 rfl (sub_nil _)) (.refl _) ?_
 refine hc_seq ?_
 refine hc_region ?_
 refine hl_box rfl rfl rfl (rq_box rfl rfl) ?_
 intro b1
 refine hl_box rfl rfl rfl (rq_alloc (z := .agg #[.slice none 0 0, .slice none 0 0]) rfl (by kernel_rfl)) ?_
 intro b2
 refine hl_less (sx 0 rfl (sx 1 rfl (sx 2 rfl (sub_nil _)))) (.refl _) ?_
 refine hl_nil ?_
 refine hq_then ?_
 refine hc_seq ?_
 refine hc_region ?_
 refine hl_box rfl rfl rfl (rq_alloc (z := .agg #[.slice none 0 0, .slice none 0 0]) rfl (by kernel_rfl)) ?_
 intro b3
 refine hl_less (sx 0 rfl (sx 1 rfl (sx 2 rfl (sx 3 rfl (sub_nil _))))) (.refl _) ?_
 refine hl_nil ?_
 refine hq_then ?_
 refine hc_seq ?_
 refine hc_region ?_
 refine hl_v rfl rfl rfl (rv_field (k0 := 0) rfl (by kernel_rfl) rfl) ?_
 refine hl_v rfl rfl rfl (rv_load rfl (by kernel_rfl) rfl (box_cell 2 rfl rfl)) ?_
 refine hl_q rfl rfl rfl (rq_call (by kernel_rfl) rfl (fun w hm => toIntR_ret dl _ w (h1.below hm.bel) n1.2 (by have := n1.1; omega))) ?_
 intro v4 p5 hR6
 obtain ⟨zhR6, rfl, chR6⟩ := hR6
 refine hl_v rfl rfl rfl (rv_field (k0 := 0) rfl (by kernel_rfl) rfl) ?_
 refine hl_rx (i := 0) rfl (fun ho7 => ?_)
 refine hl_storeBox (i := 1) (l' := [irsE v4 zhR6, boxE b3 #[v4, .slice none 0 0] 38, boxE b2 #[.slice none 0 0, .slice none 0 0] 38, boxE b1 #[pv, qv] 29]) rfl rfl rfl (by kernel_rfl) rfl rfl ho7 rfl rfl rfl ?_
 refine hl_less (sx 0 rfl (sx 1 rfl (sx 2 rfl (sx 3 rfl (sub_nil _))))) (.refl _) ?_
 refine hl_nil ?_
 refine hq_then ?_
 refine hc_seq ?_
 refine hc_region ?_
 refine hl_v rfl rfl rfl (rv_field (k0 := 1) rfl (by kernel_rfl) rfl) ?_
 refine hl_v rfl rfl rfl (rv_load rfl (by kernel_rfl) rfl (box_cell 3 rfl rfl)) ?_
 refine hl_q rfl rfl rfl (rq_call (by kernel_rfl) rfl (fun w hm => toIntR_ret ds _ w (h2.below hm.bel) n2.2 (by have := n2.1; omega))) ?_
 intro v8 p9 hR10
 obtain ⟨zhR10, rfl, chR10⟩ := hR10
 refine hl_v rfl rfl rfl (rv_field (k0 := 1) rfl (by kernel_rfl) rfl) ?_
 refine hl_rx (i := 0) rfl (fun ho11 => ?_)
 refine hl_storeBox (i := 2) (l' := [irsE v8 zhR10, irsE v4 zhR6, boxE b3 #[v4, v8] 38, boxE b2 #[.slice none 0 0, .slice none 0 0] 38, boxE b1 #[pv, qv] 29]) rfl rfl rfl (by kernel_rfl) rfl rfl ho11 rfl rfl rfl ?_
 refine hl_less (sx 0 rfl (sx 1 rfl (sx 2 rfl (sx 3 rfl (sub_nil _))))) (.refl _) ?_
 refine hl_nil ?_
 refine hq_then ?_
 refine hc_seq ?_
 refine hc_region ?_
 refine hl_v rfl rfl rfl (rv_loadN (cs := [v4, v8]) rfl (by kernel_rfl) (by kernel_rfl) rfl rfl (box_part 2 rfl 0 rfl)) ?_
 refine hl_storeBoxN (i := 3) (off := 0) (us := [v4, v8])  (l' := [irsE v8 zhR10, irsE v4 zhR6, boxE b3 #[v4, v8] 38, boxE b2 #[v4, v8] 38, boxE b1 #[pv, qv] 29]) rfl rfl rfl (by kernel_rfl) rfl rfl rfl (all_cons ho7 (all_cons ho11 all_nil)) rfl rfl rfl ?_
 refine hl_less (sx 0 rfl (sx 1 rfl (sx 2 rfl (sx 3 rfl (sub_nil _))))) (.refl _) ?_
 refine hl_nil ?_
 refine hq_then ?_
 refine hc_ret ?_
 refine hq_conv [irsE v4 zhR6, irsE v8 zhR10, boxE b3 #[v4, v8] 38, boxE b2 #[v4, v8] 38, boxE b1 #[pv, qv] 29] (conv_pick (src := [irsE v8 zhR10, irsE v4 zhR6, boxE b3 #[v4, v8] 38, boxE b2 #[v4, v8] 38, boxE b1 #[pv, qv] 29]) (dst := [irsE v4 zhR6, irsE v8 zhR10, boxE b3 #[v4, v8] 38, boxE b2 #[v4, v8] 38, boxE b1 #[pv, qv] 29]) (l := []) [1, 0, 2, 3, 4] (by decide) rfl) ?_
 refine hq_conv [bigE [irsE v4 zhR6, irsE v8 zhR10], boxE b3 #[v4, v8] 38, boxE b2 #[v4, v8] 38, boxE b1 #[pv, qv] 29] (conv_big (ps := [irsE v4 zhR6, irsE v8 zhR10])) ?_
 exact hq_retM (rs := [.cell 2 38]) (vs := [.agg #[v4, v8]]) (post := [bigE [irsE v4 zhR6, irsE v8 zhR10]]) rfl ⟨⟨b2, 0, [v4, v8], rfl, rfl, by kernel_rfl, by kernel_rfl, box_part 2 rfl 0 rfl⟩, trivial⟩ rfl ((.cons_cons _ (.cons _ (.cons _ (.cons _ .slnil))))) ⟨v4, zhR6, v8, zhR10, rfl, rfl, chR6, chR10, ho7, ho11⟩
set_option maxHeartbeats 4000000 in
set_option maxRecDepth 100000 in
theorem toLutNet_ret (n : Ln) (w : World) (hr : RdsLn w n) (n1 : n.ss.length ≤ 1048576 ∧ ∀ s ∈ n.ss, s.xs.length ≤ 1048576) (n2 : n.ls.length ≤ 1048576 ∧ ∀ s ∈ n.ls, s.xs.length ≤ 1048576) (n3 : n.os.length ≤ 1048576) :
  Calls Try.prog 45 #[.agg #[.int .i64 n.ins, n.sv, n.lv, n.ov]] w (Ret w (fun v_ p_ => ∃ m : Ln, v_ = m.agg ∧ p_ = [bigE (lnE m)] ∧ (m.ins = n.ins ∧ m.ss.map Sq.val = n.ss.map Sq.val ∧ m.ls.map Lt.val = n.ls.map Lt.val ∧ m.os = n.os) ∧ (m.sv.oneCell' = true ∧ m.lv.oneCell' = true ∧ m.ov.oneCell' = true))) := by
 refine calls_hc (N := 20) (args := [.agg #[.int .i64 n.ins, n.sv, n.lv, n.ov]]) Try.func45 rfl rfl ?_
 refine hc_less _ (sx 0 rfl (sub_nil _)) (.refl _) ?_
 refine hc_seq ?_
 refine hc_region ?_
 refine hl_box rfl rfl rfl (rq_box rfl rfl) ?_
 intro b1
 refine hl_box rfl rfl rfl (rq_alloc (z := .agg #[.int .i64 0, .slice none 0 0, .slice none 0 0, .slice none 0 0]) rfl (by kernel_rfl)) ?_
 intro b2
 refine hl_less (sx 0 rfl (sx 1 rfl (sx 2 rfl (sub_nil _)))) (.refl _) ?_
 refine hl_nil ?_
 refine hq_then ?_
 refine hc_seq ?_
 refine hc_region ?_
 refine hl_box rfl rfl rfl (rq_alloc (z := .agg #[.int .i64 0, .slice none 0 0, .slice none 0 0, .slice none 0 0]) rfl (by kernel_rfl)) ?_
 intro b3
 refine hl_less (sx 0 rfl (sx 1 rfl (sx 2 rfl (sx 3 rfl (sub_nil _))))) (.refl _) ?_
 refine hl_nil ?_
 refine hq_then ?_
 refine hc_seq ?_
 refine hc_region ?_
 refine hl_v rfl rfl rfl (rv_field (k0 := 0) rfl (by kernel_rfl) rfl) ?_
 refine hl_v rfl rfl rfl (rv_load rfl (by kernel_rfl) rfl (box_cell 2 rfl rfl)) ?_
 refine hl_v rfl rfl rfl (rv_field (k0 := 0) rfl (by kernel_rfl) rfl) ?_
 refine hl_storeBox (i := 0) (l' := [boxE b3 #[.int .i64 n.ins, .slice none 0 0, .slice none 0 0, .slice none 0 0] 37, boxE b2 #[.int .i64 0, .slice none 0 0, .slice none 0 0, .slice none 0 0] 37, boxE b1 #[.int .i64 n.ins, n.sv, n.lv, n.ov] 26]) rfl rfl rfl (by kernel_rfl) rfl rfl rfl rfl rfl rfl ?_
 refine hl_less (sx 0 rfl (sx 1 rfl (sx 2 rfl (sx 3 rfl (sub_nil _))))) (.refl _) ?_
 refine hl_nil ?_
 refine hq_then ?_
 refine hc_seq ?_
 refine hc_region ?_
 refine hl_v rfl rfl rfl (rv_field (k0 := 1) rfl (by kernel_rfl) rfl) ?_
 refine hl_v rfl rfl rfl (rv_load rfl (by kernel_rfl) rfl (box_cell 2 rfl rfl)) ?_
 refine hl_q rfl rfl rfl (rq_call (by kernel_rfl) rfl (fun w hm => toSeqR_ret n.ss _ w (hr.sq.below hm.bel) n1.2 (by have := n1.1; omega))) ?_
 intro v4 p5 hR6
 obtain ⟨zhR6, rfl, chR6⟩ := hR6
 refine hl_v rfl rfl rfl (rv_field (k0 := 1) rfl (by kernel_rfl) rfl) ?_
 refine hl_rx (i := 0) rfl (fun ho7 => ?_)
 refine hl_storeBox (i := 1) (l' := [sqsE v4 zhR6, boxE b3 #[.int .i64 n.ins, v4, .slice none 0 0, .slice none 0 0] 37, boxE b2 #[.int .i64 0, .slice none 0 0, .slice none 0 0, .slice none 0 0] 37, boxE b1 #[.int .i64 n.ins, n.sv, n.lv, n.ov] 26]) rfl rfl rfl (by kernel_rfl) rfl rfl ho7 rfl rfl rfl ?_
 refine hl_less (sx 0 rfl (sx 1 rfl (sx 2 rfl (sx 3 rfl (sub_nil _))))) (.refl _) ?_
 refine hl_nil ?_
 refine hq_then ?_
 refine hc_seq ?_
 refine hc_region ?_
 refine hl_v rfl rfl rfl (rv_field (k0 := 2) rfl (by kernel_rfl) rfl) ?_
 refine hl_v rfl rfl rfl (rv_load rfl (by kernel_rfl) rfl (box_cell 3 rfl rfl)) ?_
 refine hl_q rfl rfl rfl (rq_call (by kernel_rfl) rfl (fun w hm => toLutR_ret n.ls _ w (hr.lt.below hm.bel) n2.2 (by have := n2.1; omega))) ?_
 intro v8 p9 hR10
 obtain ⟨zhR10, rfl, chR10⟩ := hR10
 refine hl_v rfl rfl rfl (rv_field (k0 := 2) rfl (by kernel_rfl) rfl) ?_
 refine hl_rx (i := 0) rfl (fun ho11 => ?_)
 refine hl_storeBox (i := 2) (l' := [ltsE v8 zhR10, sqsE v4 zhR6, boxE b3 #[.int .i64 n.ins, v4, v8, .slice none 0 0] 37, boxE b2 #[.int .i64 0, .slice none 0 0, .slice none 0 0, .slice none 0 0] 37, boxE b1 #[.int .i64 n.ins, n.sv, n.lv, n.ov] 26]) rfl rfl rfl (by kernel_rfl) rfl rfl ho11 rfl rfl rfl ?_
 refine hl_less (sx 0 rfl (sx 1 rfl (sx 2 rfl (sx 3 rfl (sub_nil _))))) (.refl _) ?_
 refine hl_nil ?_
 refine hq_then ?_
 refine hc_seq ?_
 refine hc_region ?_
 refine hl_v rfl rfl rfl (rv_field (k0 := 3) rfl (by kernel_rfl) rfl) ?_
 refine hl_v rfl rfl rfl (rv_load rfl (by kernel_rfl) rfl (box_cell 4 rfl rfl)) ?_
 refine hl_q rfl rfl rfl (rq_call (by kernel_rfl) rfl (fun w hm => toIntS_ret n.os _ w ((rd_old (hr).ou) w hm) (by omega))) ?_
 intro v12 p13 hR14
 subst hR14
 refine hl_v rfl rfl rfl (rv_field (k0 := 3) rfl (by kernel_rfl) rfl) ?_
 refine hl_one (i := 0) rfl (fun ho15 => ?_)
 refine hl_storeBox (i := 3) (l' := [rowE 3 1 v12 n.os.length (n.os.map (Value.int .i64)), ltsE v8 zhR10, sqsE v4 zhR6, boxE b3 #[.int .i64 n.ins, v4, v8, v12] 37, boxE b2 #[.int .i64 0, .slice none 0 0, .slice none 0 0, .slice none 0 0] 37, boxE b1 #[.int .i64 n.ins, n.sv, n.lv, n.ov] 26]) rfl rfl rfl (by kernel_rfl) rfl rfl ho15 rfl rfl rfl ?_
 refine hl_less (sx 0 rfl (sx 1 rfl (sx 2 rfl (sx 3 rfl (sub_nil _))))) (.refl _) ?_
 refine hl_nil ?_
 refine hq_then ?_
 refine hc_seq ?_
 refine hc_region ?_
 refine hl_v rfl rfl rfl (rv_loadN (cs := [.int .i64 n.ins, v4, v8, v12]) rfl (by kernel_rfl) (by kernel_rfl) rfl rfl (box_part 3 rfl 0 rfl)) ?_
 refine hl_storeBoxN (i := 4) (off := 0) (us := [.int .i64 n.ins, v4, v8, v12])  (l' := [rowE 3 1 v12 n.os.length (n.os.map (Value.int .i64)), ltsE v8 zhR10, sqsE v4 zhR6, boxE b3 #[.int .i64 n.ins, v4, v8, v12] 37, boxE b2 #[.int .i64 n.ins, v4, v8, v12] 37, boxE b1 #[.int .i64 n.ins, n.sv, n.lv, n.ov] 26]) rfl rfl rfl (by kernel_rfl) rfl rfl rfl (all_cons rfl (all_cons ho7 (all_cons ho11 (all_cons ho15 all_nil)))) rfl rfl rfl ?_
 refine hl_less (sx 0 rfl (sx 1 rfl (sx 2 rfl (sx 3 rfl (sub_nil _))))) (.refl _) ?_
 refine hl_nil ?_
 refine hq_then ?_
 refine hc_ret ?_
 refine hq_conv [sqsE v4 zhR6, ltsE v8 zhR10, rowE 3 1 v12 n.os.length (n.os.map (Value.int .i64)), boxE b3 #[.int .i64 n.ins, v4, v8, v12] 37, boxE b2 #[.int .i64 n.ins, v4, v8, v12] 37, boxE b1 #[.int .i64 n.ins, n.sv, n.lv, n.ov] 26] (conv_pick (src := [rowE 3 1 v12 n.os.length (n.os.map (Value.int .i64)), ltsE v8 zhR10, sqsE v4 zhR6, boxE b3 #[.int .i64 n.ins, v4, v8, v12] 37, boxE b2 #[.int .i64 n.ins, v4, v8, v12] 37, boxE b1 #[.int .i64 n.ins, n.sv, n.lv, n.ov] 26]) (dst := [sqsE v4 zhR6, ltsE v8 zhR10, rowE 3 1 v12 n.os.length (n.os.map (Value.int .i64)), boxE b3 #[.int .i64 n.ins, v4, v8, v12] 37, boxE b2 #[.int .i64 n.ins, v4, v8, v12] 37, boxE b1 #[.int .i64 n.ins, n.sv, n.lv, n.ov] 26]) (l := []) [2, 1, 0, 3, 4, 5] (by decide) rfl) ?_
 refine hq_conv [bigE (lnE (Ln.mk n.ins v4 v8 v12 zhR6 zhR10 n.os)), boxE b3 #[.int .i64 n.ins, v4, v8, v12] 37, boxE b2 #[.int .i64 n.ins, v4, v8, v12] 37, boxE b1 #[.int .i64 n.ins, n.sv, n.lv, n.ov] 26] (conv_big (ps := [sqsE v4 zhR6, ltsE v8 zhR10, rowE 3 1 v12 n.os.length (n.os.map (Value.int .i64))])) ?_
 exact hq_retM (rs := [.cell 2 37]) (vs := [.agg #[.int .i64 n.ins, v4, v8, v12]]) (post := [bigE (lnE (Ln.mk n.ins v4 v8 v12 zhR6 zhR10 n.os))]) rfl ⟨⟨b2, 0, [.int .i64 n.ins, v4, v8, v12], rfl, rfl, by kernel_rfl, by kernel_rfl, box_part 2 rfl 0 rfl⟩, trivial⟩ rfl ((.cons_cons _ (.cons _ (.cons _ (.cons _ .slnil))))) ⟨(Ln.mk n.ins v4 v8 v12 zhR6 zhR10 n.os), rfl, rfl, ⟨rfl, chR6, chR10, rfl⟩, ho7, ho11, ho15⟩
set_option maxHeartbeats 4000000 in
set_option maxRecDepth 100000 in
theorem toTimed_ret (x : Td) (w : World) (hr : RdsTd w x) (hz : SzTd x) :
  Calls Try.prog 12 #[.agg #[.int .i64 x.n.ins, x.n.sv, x.n.lv, x.n.ov, x.pv, x.qv, x.kv, x.av, x.bv, .int .i64 x.oi, .int .i64 x.ni]] w (Ret w (fun v_ p_ => ∃ y : Td, v_ = y.agg ∧ p_ = [tdE y] ∧ Same x y ∧ OneTd y)) := by
 have z1 := hz.ks
 have z2 := hz.ao
 have z3 := hz.bs
 refine calls_hc (N := 31) (args := [.agg #[.int .i64 x.n.ins, x.n.sv, x.n.lv, x.n.ov, x.pv, x.qv, x.kv, x.av, x.bv, .int .i64 x.oi, .int .i64 x.ni]]) Try.func12 rfl rfl ?_
 refine hc_less _ (sx 0 rfl (sub_nil _)) (.refl _) ?_
 refine hc_seq ?_
 refine hc_region ?_
 refine hl_box rfl rfl rfl (rq_box rfl rfl) ?_
 intro b1
 refine hl_box rfl rfl rfl (rq_alloc (z := .agg #[.int .i64 0, .slice none 0 0, .slice none 0 0, .slice none 0 0, .slice none 0 0, .slice none 0 0, .slice none 0 0, .slice none 0 0, .slice none 0 0, .int .i64 0, .int .i64 0]) rfl (by kernel_rfl)) ?_
 intro b2
 refine hl_less (sx 0 rfl (sx 1 rfl (sx 2 rfl (sub_nil _)))) (.refl _) ?_
 refine hl_nil ?_
 refine hq_then ?_
 refine hc_seq ?_
 refine hc_region ?_
 refine hl_box rfl rfl rfl (rq_alloc (z := .agg #[.int .i64 0, .slice none 0 0, .slice none 0 0, .slice none 0 0, .slice none 0 0, .slice none 0 0, .slice none 0 0, .slice none 0 0, .slice none 0 0, .int .i64 0, .int .i64 0]) rfl (by kernel_rfl)) ?_
 intro b3
 refine hl_less (sx 0 rfl (sx 1 rfl (sx 2 rfl (sx 3 rfl (sub_nil _))))) (.refl _) ?_
 refine hl_nil ?_
 refine hq_then ?_
 refine hc_seq ?_
 refine hc_region ?_
 refine hl_v rfl rfl rfl (rv_field (k0 := 0) rfl (by kernel_rfl) rfl) ?_
 refine hl_v rfl rfl rfl (rv_loadN (cs := [.int .i64 x.n.ins, x.n.sv, x.n.lv, x.n.ov]) rfl (by kernel_rfl) (by kernel_rfl) rfl rfl (box_part 2 rfl 0 rfl)) ?_
 refine hl_q rfl rfl rfl (rq_call (by kernel_rfl) rfl (fun w hm => toLutNet_ret x.n w (hr.n.below hm.bel) hz.ss hz.ls hz.os)) ?_
 intro v4 p5 hR6
 obtain ⟨m, rfl, rfl, ⟨m1, m2, m3, m4⟩, o1, o2, o3⟩ := hR6
 refine hl_v rfl rfl rfl (rv_field (k0 := 0) rfl (by kernel_rfl) rfl) ?_
 refine hl_storeBoxN (i := 1) (off := 0) (us := [.int .i64 m.ins, m.sv, m.lv, m.ov])  (l' := [bigE (lnE m), boxE b3 #[.int .i64 m.ins, m.sv, m.lv, m.ov, .slice none 0 0, .slice none 0 0, .slice none 0 0, .slice none 0 0, .slice none 0 0, .int .i64 0, .int .i64 0] 40, boxE b2 #[.int .i64 0, .slice none 0 0, .slice none 0 0, .slice none 0 0, .slice none 0 0, .slice none 0 0, .slice none 0 0, .slice none 0 0, .slice none 0 0, .int .i64 0, .int .i64 0] 40, boxE b1 #[.int .i64 x.n.ins, x.n.sv, x.n.lv, x.n.ov, x.pv, x.qv, x.kv, x.av, x.bv, .int .i64 x.oi, .int .i64 x.ni] 31]) rfl rfl rfl (by kernel_rfl) rfl rfl rfl (all_cons rfl (all_cons o1 (all_cons o2 (all_cons o3 all_nil)))) rfl rfl rfl ?_
 refine hl_less (sx 0 rfl (sx 1 rfl (sx 2 rfl (sx 3 rfl (sub_nil _))))) (.refl _) ?_
 refine hl_nil ?_
 refine hq_then ?_
 refine hc_seq ?_
 refine hc_region ?_
 refine hl_v rfl rfl rfl (rv_field (k0 := 4) rfl (by kernel_rfl) rfl) ?_
 refine hl_v rfl rfl rfl (rv_loadN (cs := [x.pv, x.qv]) rfl (by kernel_rfl) (by kernel_rfl) rfl rfl (box_part 3 rfl 4 rfl)) ?_
 refine hl_q rfl rfl rfl (rq_call (by kernel_rfl) rfl (fun w hm => toDelays_ret x.dl x.ds _ _ w (hr.dl.below hm.bel) (hr.ds.below hm.bel) hz.dl hz.ds)) ?_
 intro v7 p8 hR9
 obtain ⟨da, ea, db, eb, rfl, rfl, d1, d2, o4, o5⟩ := hR9
 refine hl_v rfl rfl rfl (rv_field (k0 := 4) rfl (by kernel_rfl) rfl) ?_
 refine hl_storeBoxN (i := 2) (off := 4) (us := [da, db])  (l' := [bigE [irsE da ea, irsE db eb], bigE (lnE m), boxE b3 #[.int .i64 m.ins, m.sv, m.lv, m.ov, da, db, .slice none 0 0, .slice none 0 0, .slice none 0 0, .int .i64 0, .int .i64 0] 40, boxE b2 #[.int .i64 0, .slice none 0 0, .slice none 0 0, .slice none 0 0, .slice none 0 0, .slice none 0 0, .slice none 0 0, .slice none 0 0, .slice none 0 0, .int .i64 0, .int .i64 0] 40, boxE b1 #[.int .i64 x.n.ins, x.n.sv, x.n.lv, x.n.ov, x.pv, x.qv, x.kv, x.av, x.bv, .int .i64 x.oi, .int .i64 x.ni] 31]) rfl rfl rfl (by kernel_rfl) rfl rfl rfl (all_cons o4 (all_cons o5 all_nil)) rfl rfl rfl ?_
 refine hl_less (sx 0 rfl (sx 1 rfl (sx 2 rfl (sx 3 rfl (sub_nil _))))) (.refl _) ?_
 refine hl_nil ?_
 refine hq_then ?_
 refine hc_seq ?_
 refine hc_region ?_
 refine hl_v rfl rfl rfl (rv_field (k0 := 6) rfl (by kernel_rfl) rfl) ?_
 refine hl_v rfl rfl rfl (rv_load rfl (by kernel_rfl) rfl (box_cell 4 rfl rfl)) ?_
 refine hl_q rfl rfl rfl (rq_call (by kernel_rfl) rfl (fun w hm => toIntS_ret x.ks _ w ((rd_old (hr).ks) w hm) (by omega))) ?_
 intro v10 p11 hR12
 subst hR12
 refine hl_v rfl rfl rfl (rv_field (k0 := 6) rfl (by kernel_rfl) rfl) ?_
 refine hl_one (i := 0) rfl (fun ho13 => ?_)
 refine hl_storeBox (i := 3) (l' := [rowE 3 1 v10 x.ks.length (x.ks.map (Value.int .i64)), bigE [irsE da ea, irsE db eb], bigE (lnE m), boxE b3 #[.int .i64 m.ins, m.sv, m.lv, m.ov, da, db, v10, .slice none 0 0, .slice none 0 0, .int .i64 0, .int .i64 0] 40, boxE b2 #[.int .i64 0, .slice none 0 0, .slice none 0 0, .slice none 0 0, .slice none 0 0, .slice none 0 0, .slice none 0 0, .slice none 0 0, .slice none 0 0, .int .i64 0, .int .i64 0] 40, boxE b1 #[.int .i64 x.n.ins, x.n.sv, x.n.lv, x.n.ov, x.pv, x.qv, x.kv, x.av, x.bv, .int .i64 x.oi, .int .i64 x.ni] 31]) rfl rfl rfl (by kernel_rfl) rfl rfl ho13 rfl rfl rfl ?_
 refine hl_less (sx 0 rfl (sx 1 rfl (sx 2 rfl (sx 3 rfl (sub_nil _))))) (.refl _) ?_
 refine hl_nil ?_
 refine hq_then ?_
 refine hc_seq ?_
 refine hc_region ?_
 refine hl_v rfl rfl rfl (rv_field (k0 := 7) rfl (by kernel_rfl) rfl) ?_
 refine hl_v rfl rfl rfl (rv_load rfl (by kernel_rfl) rfl (box_cell 5 rfl rfl)) ?_
 refine hl_q rfl rfl rfl (rq_call (by kernel_rfl) rfl (fun w hm => toIntS_ret x.ao _ w ((rd_old (hr).ao) w hm) (by omega))) ?_
 intro v14 p15 hR16
 subst hR16
 refine hl_v rfl rfl rfl (rv_field (k0 := 7) rfl (by kernel_rfl) rfl) ?_
 refine hl_one (i := 0) rfl (fun ho17 => ?_)
 refine hl_storeBox (i := 4) (l' := [rowE 3 1 v14 x.ao.length (x.ao.map (Value.int .i64)), rowE 3 1 v10 x.ks.length (x.ks.map (Value.int .i64)), bigE [irsE da ea, irsE db eb], bigE (lnE m), boxE b3 #[.int .i64 m.ins, m.sv, m.lv, m.ov, da, db, v10, v14, .slice none 0 0, .int .i64 0, .int .i64 0] 40, boxE b2 #[.int .i64 0, .slice none 0 0, .slice none 0 0, .slice none 0 0, .slice none 0 0, .slice none 0 0, .slice none 0 0, .slice none 0 0, .slice none 0 0, .int .i64 0, .int .i64 0] 40, boxE b1 #[.int .i64 x.n.ins, x.n.sv, x.n.lv, x.n.ov, x.pv, x.qv, x.kv, x.av, x.bv, .int .i64 x.oi, .int .i64 x.ni] 31]) rfl rfl rfl (by kernel_rfl) rfl rfl ho17 rfl rfl rfl ?_
 refine hl_less (sx 0 rfl (sx 1 rfl (sx 2 rfl (sx 3 rfl (sub_nil _))))) (.refl _) ?_
 refine hl_nil ?_
 refine hq_then ?_
 refine hc_seq ?_
 refine hc_region ?_
 refine hl_v rfl rfl rfl (rv_field (k0 := 8) rfl (by kernel_rfl) rfl) ?_
 refine hl_v rfl rfl rfl (rv_load rfl (by kernel_rfl) rfl (box_cell 6 rfl rfl)) ?_
 refine hl_q rfl rfl rfl (rq_call (by kernel_rfl) rfl (fun w hm => toIntS_ret x.bs _ w ((rd_old (hr).bs) w hm) (by omega))) ?_
 intro v18 p19 hR20
 subst hR20
 refine hl_v rfl rfl rfl (rv_field (k0 := 8) rfl (by kernel_rfl) rfl) ?_
 refine hl_one (i := 0) rfl (fun ho21 => ?_)
 refine hl_storeBox (i := 5) (l' := [rowE 3 1 v18 x.bs.length (x.bs.map (Value.int .i64)), rowE 3 1 v14 x.ao.length (x.ao.map (Value.int .i64)), rowE 3 1 v10 x.ks.length (x.ks.map (Value.int .i64)), bigE [irsE da ea, irsE db eb], bigE (lnE m), boxE b3 #[.int .i64 m.ins, m.sv, m.lv, m.ov, da, db, v10, v14, v18, .int .i64 0, .int .i64 0] 40, boxE b2 #[.int .i64 0, .slice none 0 0, .slice none 0 0, .slice none 0 0, .slice none 0 0, .slice none 0 0, .slice none 0 0, .slice none 0 0, .slice none 0 0, .int .i64 0, .int .i64 0] 40, boxE b1 #[.int .i64 x.n.ins, x.n.sv, x.n.lv, x.n.ov, x.pv, x.qv, x.kv, x.av, x.bv, .int .i64 x.oi, .int .i64 x.ni] 31]) rfl rfl rfl (by kernel_rfl) rfl rfl ho21 rfl rfl rfl ?_
 refine hl_less (sx 0 rfl (sx 1 rfl (sx 2 rfl (sx 3 rfl (sub_nil _))))) (.refl _) ?_
 refine hl_nil ?_
 refine hq_then ?_
 refine hc_seq ?_
 refine hc_region ?_
 refine hl_v rfl rfl rfl (rv_field (k0 := 9) rfl (by kernel_rfl) rfl) ?_
 refine hl_v rfl rfl rfl (rv_load rfl (by kernel_rfl) rfl (box_cell 7 rfl rfl)) ?_
 refine hl_v rfl rfl rfl (rv_field (k0 := 9) rfl (by kernel_rfl) rfl) ?_
 refine hl_storeBox (i := 5) (l' := [rowE 3 1 v18 x.bs.length (x.bs.map (Value.int .i64)), rowE 3 1 v14 x.ao.length (x.ao.map (Value.int .i64)), rowE 3 1 v10 x.ks.length (x.ks.map (Value.int .i64)), bigE [irsE da ea, irsE db eb], bigE (lnE m), boxE b3 #[.int .i64 m.ins, m.sv, m.lv, m.ov, da, db, v10, v14, v18, .int .i64 x.oi, .int .i64 0] 40, boxE b2 #[.int .i64 0, .slice none 0 0, .slice none 0 0, .slice none 0 0, .slice none 0 0, .slice none 0 0, .slice none 0 0, .slice none 0 0, .slice none 0 0, .int .i64 0, .int .i64 0] 40, boxE b1 #[.int .i64 x.n.ins, x.n.sv, x.n.lv, x.n.ov, x.pv, x.qv, x.kv, x.av, x.bv, .int .i64 x.oi, .int .i64 x.ni] 31]) rfl rfl rfl (by kernel_rfl) rfl rfl rfl rfl rfl rfl ?_
 refine hl_less (sx 0 rfl (sx 1 rfl (sx 2 rfl (sx 3 rfl (sub_nil _))))) (.refl _) ?_
 refine hl_nil ?_
 refine hq_then ?_
 refine hc_seq ?_
 refine hc_region ?_
 refine hl_v rfl rfl rfl (rv_field (k0 := 10) rfl (by kernel_rfl) rfl) ?_
 refine hl_v rfl rfl rfl (rv_load rfl (by kernel_rfl) rfl (box_cell 7 rfl rfl)) ?_
 refine hl_v rfl rfl rfl (rv_field (k0 := 10) rfl (by kernel_rfl) rfl) ?_
 refine hl_storeBox (i := 5) (l' := [rowE 3 1 v18 x.bs.length (x.bs.map (Value.int .i64)), rowE 3 1 v14 x.ao.length (x.ao.map (Value.int .i64)), rowE 3 1 v10 x.ks.length (x.ks.map (Value.int .i64)), bigE [irsE da ea, irsE db eb], bigE (lnE m), boxE b3 #[.int .i64 m.ins, m.sv, m.lv, m.ov, da, db, v10, v14, v18, .int .i64 x.oi, .int .i64 x.ni] 40, boxE b2 #[.int .i64 0, .slice none 0 0, .slice none 0 0, .slice none 0 0, .slice none 0 0, .slice none 0 0, .slice none 0 0, .slice none 0 0, .slice none 0 0, .int .i64 0, .int .i64 0] 40, boxE b1 #[.int .i64 x.n.ins, x.n.sv, x.n.lv, x.n.ov, x.pv, x.qv, x.kv, x.av, x.bv, .int .i64 x.oi, .int .i64 x.ni] 31]) rfl rfl rfl (by kernel_rfl) rfl rfl rfl rfl rfl rfl ?_
 refine hl_less (sx 0 rfl (sx 1 rfl (sx 2 rfl (sx 3 rfl (sub_nil _))))) (.refl _) ?_
 refine hl_nil ?_
 refine hq_then ?_
 refine hc_seq ?_
 refine hc_region ?_
 refine hl_v rfl rfl rfl (rv_loadN (cs := [.int .i64 m.ins, m.sv, m.lv, m.ov, da, db, v10, v14, v18, .int .i64 x.oi, .int .i64 x.ni]) rfl (by kernel_rfl) (by kernel_rfl) rfl rfl (box_part 5 rfl 0 rfl)) ?_
 refine hl_storeBoxN (i := 6) (off := 0) (us := [.int .i64 m.ins, m.sv, m.lv, m.ov, da, db, v10, v14, v18, .int .i64 x.oi, .int .i64 x.ni]) (cs' := #[.int .i64 m.ins, m.sv, m.lv, m.ov, da, db, v10, v14, v18, .int .i64 x.oi, .int .i64 x.ni]) (l' := [rowE 3 1 v18 x.bs.length (x.bs.map (Value.int .i64)), rowE 3 1 v14 x.ao.length (x.ao.map (Value.int .i64)), rowE 3 1 v10 x.ks.length (x.ks.map (Value.int .i64)), bigE [irsE da ea, irsE db eb], bigE (lnE m), boxE b3 #[.int .i64 m.ins, m.sv, m.lv, m.ov, da, db, v10, v14, v18, .int .i64 x.oi, .int .i64 x.ni] 40, boxE b2 #[.int .i64 m.ins, m.sv, m.lv, m.ov, da, db, v10, v14, v18, .int .i64 x.oi, .int .i64 x.ni] 40, boxE b1 #[.int .i64 x.n.ins, x.n.sv, x.n.lv, x.n.ov, x.pv, x.qv, x.kv, x.av, x.bv, .int .i64 x.oi, .int .i64 x.ni] 31]) rfl rfl rfl (by kernel_rfl) rfl rfl rfl (all_cons rfl (all_cons o1 (all_cons o2 (all_cons o3 (all_cons o4 (all_cons o5 (all_cons ho13 (all_cons ho17 (all_cons ho21 (all_cons rfl (all_cons rfl all_nil))))))))))) rfl (by kernel_rfl) rfl ?_
 refine hl_less (sx 0 rfl (sx 1 rfl (sx 2 rfl (sx 3 rfl (sub_nil _))))) (.refl _) ?_
 refine hl_nil ?_
 refine hq_then ?_
 refine hc_ret ?_
 refine hq_conv [bigE (lnE m), bigE [irsE da ea, irsE db eb], rowE 3 1 v10 x.ks.length (x.ks.map (Value.int .i64)), rowE 3 1 v14 x.ao.length (x.ao.map (Value.int .i64)), rowE 3 1 v18 x.bs.length (x.bs.map (Value.int .i64)), boxE b3 #[.int .i64 m.ins, m.sv, m.lv, m.ov, da, db, v10, v14, v18, .int .i64 x.oi, .int .i64 x.ni] 40, boxE b2 #[.int .i64 m.ins, m.sv, m.lv, m.ov, da, db, v10, v14, v18, .int .i64 x.oi, .int .i64 x.ni] 40, boxE b1 #[.int .i64 x.n.ins, x.n.sv, x.n.lv, x.n.ov, x.pv, x.qv, x.kv, x.av, x.bv, .int .i64 x.oi, .int .i64 x.ni] 31] (conv_pick (src := [rowE 3 1 v18 x.bs.length (x.bs.map (Value.int .i64)), rowE 3 1 v14 x.ao.length (x.ao.map (Value.int .i64)), rowE 3 1 v10 x.ks.length (x.ks.map (Value.int .i64)), bigE [irsE da ea, irsE db eb], bigE (lnE m), boxE b3 #[.int .i64 m.ins, m.sv, m.lv, m.ov, da, db, v10, v14, v18, .int .i64 x.oi, .int .i64 x.ni] 40, boxE b2 #[.int .i64 m.ins, m.sv, m.lv, m.ov, da, db, v10, v14, v18, .int .i64 x.oi, .int .i64 x.ni] 40, boxE b1 #[.int .i64 x.n.ins, x.n.sv, x.n.lv, x.n.ov, x.pv, x.qv, x.kv, x.av, x.bv, .int .i64 x.oi, .int .i64 x.ni] 31]) (dst := [bigE (lnE m), bigE [irsE da ea, irsE db eb], rowE 3 1 v10 x.ks.length (x.ks.map (Value.int .i64)), rowE 3 1 v14 x.ao.length (x.ao.map (Value.int .i64)), rowE 3 1 v18 x.bs.length (x.bs.map (Value.int .i64)), boxE b3 #[.int .i64 m.ins, m.sv, m.lv, m.ov, da, db, v10, v14, v18, .int .i64 x.oi, .int .i64 x.ni] 40, boxE b2 #[.int .i64 m.ins, m.sv, m.lv, m.ov, da, db, v10, v14, v18, .int .i64 x.oi, .int .i64 x.ni] 40, boxE b1 #[.int .i64 x.n.ins, x.n.sv, x.n.lv, x.n.ov, x.pv, x.qv, x.kv, x.av, x.bv, .int .i64 x.oi, .int .i64 x.ni] 31]) (l := []) [4, 3, 2, 1, 0, 5, 6, 7] (by decide) rfl) ?_
 refine hq_conv [tdE (Td.mk m da ea db eb v10 x.ks v14 x.ao v18 x.bs x.oi x.ni), boxE b3 #[.int .i64 m.ins, m.sv, m.lv, m.ov, da, db, v10, v14, v18, .int .i64 x.oi, .int .i64 x.ni] 40, boxE b2 #[.int .i64 m.ins, m.sv, m.lv, m.ov, da, db, v10, v14, v18, .int .i64 x.oi, .int .i64 x.ni] 40, boxE b1 #[.int .i64 x.n.ins, x.n.sv, x.n.lv, x.n.ov, x.pv, x.qv, x.kv, x.av, x.bv, .int .i64 x.oi, .int .i64 x.ni] 31] (conv_big (ps := [bigE (lnE m), bigE [irsE da ea, irsE db eb], rowE 3 1 v10 x.ks.length (x.ks.map (Value.int .i64)), rowE 3 1 v14 x.ao.length (x.ao.map (Value.int .i64)), rowE 3 1 v18 x.bs.length (x.bs.map (Value.int .i64))])) ?_
 exact hq_retM (rs := [.cell 2 40]) (vs := [.agg #[.int .i64 m.ins, m.sv, m.lv, m.ov, da, db, v10, v14, v18, .int .i64 x.oi, .int .i64 x.ni]]) (post := [tdE (Td.mk m da ea db eb v10 x.ks v14 x.ao v18 x.bs x.oi x.ni)]) rfl ⟨⟨b2, 0, [.int .i64 m.ins, m.sv, m.lv, m.ov, da, db, v10, v14, v18, .int .i64 x.oi, .int .i64 x.ni], rfl, rfl, by kernel_rfl, by kernel_rfl, box_part 2 rfl 0 rfl⟩, trivial⟩ rfl ((.cons_cons _ (.cons _ (.cons _ (.cons _ .slnil))))) ⟨(Td.mk m da ea db eb v10 x.ks v14 x.ao v18 x.bs x.oi x.ni), rfl, rfl, ⟨m1, m2, m3, m4, d1, d2, rfl, rfl, rfl, rfl, rfl⟩, ⟨o1, o2, o3, o4, o5, ho13, ho17, ho21⟩⟩
structure Arc where
  f : Int
  t : Int
  d : Int
abbrev arc0 : Arc := ⟨0, 0, 0⟩
def arcC (a : Arc) : List Value := [.int .i64 a.f, .int .i64 a.t, .int .i64 a.d]
def ArcOk (n : Int) (a : Arc) : Prop := (0 ≤ a.f ∧ a.f < a.t) ∧ a.t < n ∧ 0 ≤ a.d ∧ a.d ≤ 100
structure GOk (n : Int) (gs : List Arc) : Prop where
  n0 : 1 ≤ n
  n1 : n ≤ 500
  len : gs.length ≤ 2000
  ok : ∀ a ∈ gs, ArcOk n a
theorem GOk.at {n : Int} {gs : List Arc} (h : GOk n gs) {i : Nat} (hi : i < gs.length) : (0 ≤ (gs.getD i arc0).f ∧ (gs.getD i arc0).f < (gs.getD i arc0).t) ∧ (gs.getD i arc0).t < n ∧ 0 ≤ (gs.getD i arc0).d ∧ (gs.getD i arc0).d ≤ 100 := h.ok _ (getD_mem' hi)
structure ARow where
  v : Value
  ar : List Arc
abbrev row0 : ARow := ⟨.slice none 0 0, []⟩
def rowC (r : ARow) : List Value := [r.v]
structure RdsInto (w : World) (v : Value) (rs : List ARow) : Prop where
  row : RdsW w v 1 rs.length (rs.flatMap rowC)
  ar : ∀ r ∈ rs, RdsW w r.v 3 r.ar.length (r.ar.flatMap arcC)
theorem RdsInto.below {w w' : World} {v : Value} {rs : List ARow} (h : RdsInto w v rs) (hb : Below w.heap.size w w') : RdsInto w' v rs := ⟨h.row.below hb, fun r hr => (h.ar r hr).below hb⟩
theorem RdsInto.at {w : World} {v : Value} {rs : List ARow} (h : RdsInto w v rs) {k : Nat} (hk : k < rs.length) : RdsW w (rs.getD k row0).v 3 (rs.getD k row0).ar.length ((rs.getD k row0).ar.flatMap arcC) := h.ar _ (getD_mem' hk)
open Go.RowKit
theorem map_getD {α β : Type} {g : α → β} {ea eb : List α} (h : ea.map g = eb.map g) (k : Nat) (d : α) : g (ea.getD k d) = g (eb.getD k d) := by rw [← getD_mapv g ea, ← getD_mapv g eb, h]
theorem map_len {α β : Type} {g : α → β} {ea eb : List α} (h : ea.map g = eb.map g) : ea.length = eb.length := by simpa using congrArg List.length h
set_option maxHeartbeats 4000000 in
set_option maxRecDepth 100000 in
theorem eqSeq_yes (a b : Sq) (w : World) (ha : RdsW w a.iv 1 a.xs.length (a.xs.map (Value.int .i64))) (hb : RdsW w b.iv 1 b.xs.length (b.xs.map (Value.int .i64))) (hv : Sq.val a = Sq.val b) (hl : a.xs.length ≤ 1048576) :
  Calls Try.prog 97 #[.agg #[.int .i64 a.kd, .int .i64 a.it, a.iv], .agg #[.int .i64 b.kd, .int .i64 b.it, b.iv]] w (Ans w (.bool true)) := by
 simp only [Sq.val, Prod.mk.injEq] at hv
 obtain ⟨e1, e2, e3⟩ := hv
 refine calls_hc (N := 21) (args := [.agg #[.int .i64 a.kd, .int .i64 a.it, a.iv], .agg #[.int .i64 b.kd, .int .i64 b.it, b.iv]]) Try.func97 rfl rfl ?_
 refine hc_less _ (sx 0 rfl (sx 1 rfl (sub_nil _))) (.refl _) ?_
 refine hc_seq ?_
 refine hc_region ?_
 refine hl_box rfl rfl rfl (rq_box rfl rfl) ?_
 intro b1
 refine hl_box rfl rfl rfl (rq_box rfl rfl) ?_
 intro b2
 refine hl_v rfl rfl rfl (rv_ev rfl) ?_
 refine hl_less (sx 0 rfl (sx 1 rfl (sx 2 rfl (sx 3 rfl (sx 4 rfl (sub_nil _)))))) (.refl _) ?_
 refine hl_nil ?_
 refine hq_then ?_
 refine hc_seq ?_
 refine hc_seq ?_
 refine hc_region ?_
 refine hl_v rfl rfl rfl (rv_field (k0 := 0) rfl (by kernel_rfl) rfl) ?_
 refine hl_v rfl rfl rfl (rv_load rfl (by kernel_rfl) rfl (box_cell 1 rfl rfl)) ?_
 refine hl_v rfl rfl rfl (rv_field (k0 := 0) rfl (by kernel_rfl) rfl) ?_
 refine hl_v rfl rfl rfl (rv_load rfl (by kernel_rfl) rfl (box_cell 0 rfl rfl)) ?_
 refine hl_neq rfl rfl rfl rfl rfl rfl (fun h3 => absurd h3 (by omega)) (fun h3 => ?_)
 refine hl_less (sx 0 rfl (sx 1 rfl (sx 2 rfl (sx 3 rfl (sx 4 rfl (sx 9 rfl (sub_nil _))))))) (.refl _) ?_
 refine hl_nil ?_
 refine hq_then ?_
 refine hc_false rfl ?_
 refine hc_skip ?_
 refine hq_then ?_
 refine hc_seq ?_
 refine hc_seq ?_
 refine hc_region ?_
 refine hl_v rfl rfl rfl (rv_field (k0 := 1) rfl (by kernel_rfl) rfl) ?_
 refine hl_v rfl rfl rfl (rv_load rfl (by kernel_rfl) rfl (box_cell 1 rfl rfl)) ?_
 refine hl_v rfl rfl rfl (rv_field (k0 := 1) rfl (by kernel_rfl) rfl) ?_
 refine hl_v rfl rfl rfl (rv_load rfl (by kernel_rfl) rfl (box_cell 0 rfl rfl)) ?_
 refine hl_neq rfl rfl rfl rfl rfl rfl (fun h4 => absurd h4 (by omega)) (fun h4 => ?_)
 refine hl_less (sx 0 rfl (sx 1 rfl (sx 2 rfl (sx 3 rfl (sx 4 rfl (sx 9 rfl (sx 14 rfl (sub_nil _)))))))) (.refl _) ?_
 refine hl_nil ?_
 refine hq_then ?_
 refine hc_false rfl ?_
 refine hc_skip ?_
 refine hq_then ?_
 refine hc_seq ?_
 refine hc_seq ?_
 refine hc_region ?_
 refine hl_v rfl rfl rfl (rv_field (k0 := 2) rfl (by kernel_rfl) rfl) ?_
 refine hl_v rfl rfl rfl (rv_load rfl (by kernel_rfl) rfl (box_cell 1 rfl rfl)) ?_
 refine hl_v rfl rfl rfl (rv_field (k0 := 2) rfl (by kernel_rfl) rfl) ?_
 refine hl_v rfl rfl rfl (rv_load rfl (by kernel_rfl) rfl (box_cell 0 rfl rfl)) ?_
 refine hl_callV rfl rfl rfl (rq_call (by kernel_rfl) rfl (fun w hm => ret_ans (eqIntS_ans a.xs b.xs _ _ w ((rd_old ha) w hm) ((rd_old hb) w hm) (by omega)))) ?_
 refine hl_bool (fun h5 => ?_) (fun h5 => absurd (((decide_eq_true (by first | rfl | assumption | (symm; assumption)))).symm.trans h5) (by decide))
 refine hl_v rfl rfl rfl (rv_ev rfl) ?_
 refine hl_less (sx 0 rfl (sx 1 rfl (sx 2 rfl (sx 3 rfl (sx 4 rfl (sx 9 rfl (sx 14 rfl (sx 20 rfl (sub_nil _))))))))) (.refl _) ?_
 refine hl_nil ?_
 refine hq_then ?_
 refine hc_false rfl ?_
 refine hc_skip ?_
 refine hq_then ?_
 refine hc_seq ?_
 refine hc_region ?_
 refine hl_v rfl rfl rfl (rv_ev rfl) ?_
 refine hl_less (sx 0 rfl (sx 1 rfl (sx 2 rfl (sx 3 rfl (sx 4 rfl (sx 9 rfl (sx 14 rfl (sx 20 rfl (sub_nil _))))))))) (.refl _) ?_
 refine hl_nil ?_
 refine hq_then ?_
 refine hc_ret ?_
 exact hq_ans rfl rfl rfl
set_option maxHeartbeats 4000000 in
set_option maxRecDepth 100000 in
theorem eqSeqR_yes (ea eb : List Sq) (u v : Value) (w : World) (ha : RdsSq w u ea) (hb : RdsSq w v eb) (hv : ea.map Sq.val = eb.map Sq.val) (hz : ea.length ≤ 1048576 ∧ ∀ s ∈ ea, s.xs.length ≤ 1048576) :
  Calls Try.prog 80 #[u, v] w (Ans w (.bool true)) := by
 have hlen := map_len hv
 obtain ⟨hz1, hz2⟩ := hz
 refine calls_hc (N := 27) (args := [u, v]) Try.func80 rfl rfl ?_
 refine hc_less _ (sx 0 rfl (sx 1 rfl (sub_nil _))) (.refl _) ?_
 refine hc_seq ?_
 refine hc_region ?_
 refine hl_v rfl rfl rfl (rv_ev rfl) ?_
 refine hl_less (sx 0 rfl (sx 1 rfl (sx 4 rfl (sub_nil _)))) (.refl _) ?_
 refine hl_nil ?_
 refine hq_then ?_
 refine hc_seq ?_
 refine hc_seq ?_
 refine hc_region ?_
 refine hl_v rfl rfl rfl (rv_ev rfl) ?_
 refine hl_v rfl rfl rfl (rv_len rfl Try.underlying34 rfl (rd_old ((ha).row))) ?_
 refine hl_v rfl rfl rfl (rv_ev rfl) ?_
 refine hl_v rfl rfl rfl (rv_len rfl Try.underlying34 rfl (rd_old ((hb).row))) ?_
 refine hl_neq rfl rfl rfl rfl rfl rfl (fun h1 => absurd h1 (by omega)) (fun h1 => ?_)
 refine hl_less (sx 0 rfl (sx 1 rfl (sx 4 rfl (sx 10 rfl (sub_nil _))))) (.refl _) ?_
 refine hl_nil ?_
 refine hq_then ?_
 refine hc_false rfl ?_
 refine hc_skip ?_
 refine hq_then ?_
 refine hc_seq ?_
 refine hc_seq ?_
 refine hc_region ?_
 refine hl_v rfl rfl rfl (rv_ev rfl) ?_
 refine hl_less (sx 0 rfl (sx 1 rfl (sx 4 rfl (sx 5 rfl (sx 10 rfl (sub_nil _)))))) (.refl _) ?_
 refine hl_nil ?_
 refine hq_then ?_
 refine hc_block ?_
 refine hc_loop1 (α := Nat) (fun j => []) (fun j => [(0, u), (1, v), (4, .bool false), (5, .int .i64 (j : Int)), (10, .bool false)]) (fun j => j ≤ ea.length) (fun j => ea.length - j) 0 (Nat.zero_le _) (sx 0 rfl (sx 1 rfl (sx 4 rfl (sx 5 rfl (sx 10 rfl (sub_nil _)))))) (.slnil) ?_
 intro j hi2
 have hj := hi2
 refine hc_seq ?_
 refine hc_seq ?_
 refine hc_region ?_
 refine hl_v rfl rfl rfl (rv_ev rfl) ?_
 refine hl_v rfl rfl rfl (rv_ev rfl) ?_
 refine hl_v rfl rfl rfl (rv_len rfl Try.underlying34 rfl (rd_old ((ha).row))) ?_
 refine hl_lss rfl rfl rfl rfl rfl rfl (fun h3 => ?_) (fun h3 => ?_)
 ·
  refine hl_less (sx 0 rfl (sx 1 rfl (sx 4 rfl (sx 5 rfl (sx 10 rfl (sx 14 rfl (sub_nil _))))))) (.refl _) ?_
  refine hl_nil ?_
  refine hq_then ?_
  refine hc_true rfl ?_
  refine hc_skip ?_
  refine hq_then ?_
  refine hc_seq ?_
  refine hc_block ?_
  refine hc_seq ?_
  have hel := hz2 _ (getD_memX (d := sq0) (show j < ea.length by omega))
  have hevj := map_getD hv j sq0
  refine hc_draw (by kernel_rfl) 10 [0, 1, 2, 3, 4, 5, 6, 7, 8, 9] (List.take 10 _) (List.drop 10 _) [[], [], [0, 1], [2], [], [], [4, 5], [6], [3, 7], [8]] [17, 18, 19, 20, 21, 22, 23, 24, 25, 26] (fun i_ vs_ v_ p_ => match i_ with | 0 => v_ = u ∧ p_ = [] | 1 => v_ = .int .i64 (j : Int) ∧ p_ = [] | 2 => v_ = elP u (((j : Int)).toNat * 3) ∧ p_ = [] | 3 => v_ = .agg #[.int .i64 ((ea.getD j sq0).kd), .int .i64 ((ea.getD j sq0).it), (ea.getD j sq0).iv] ∧ p_ = [] | 4 => v_ = v ∧ p_ = [] | 5 => v_ = .int .i64 (j : Int) ∧ p_ = [] | 6 => v_ = elP v (((j : Int)).toNat * 3) ∧ p_ = [] | 7 => v_ = .agg #[.int .i64 ((eb.getD j sq0).kd), .int .i64 ((eb.getD j sq0).it), (eb.getD j sq0).iv] ∧ p_ = [] | 8 => v_ = .bool true ∧ p_ = [] | 9 => v_ = .bool false ∧ p_ = [] | _ => True) (List.take_append_drop 10 _).symm (by kernel_rfl) (by kernel_rfl) rfl rfl ?_ ?_
  ·
   refine ⟨?_, ?_, ?_, ?_, ?_, ?_, ?_, ?_, ?_, ?_, trivial⟩
   ·
    intro vf pf hR
    refine Or.inl ⟨rfl, ?_⟩
    refine rq_less (sx 0 rfl (sub_nil _)) (List.sublist_append_right _ _) ?_
    exact rq_v (rv_ev rfl)
   ·
    intro vf pf hR
    refine Or.inl ⟨rfl, ?_⟩
    refine rq_less (sx 5 rfl (sub_nil _)) (List.sublist_append_right _ _) ?_
    exact rq_v (rv_ev rfl)
   ·
    intro vf pf hR
    have e0 : (vf 0) = u ∧ (pf 0) = [] := hR 0 (by decide)
    have e1 : (vf 1) = .int .i64 (j : Int) ∧ (pf 1) = [] := hR 1 (by decide)
    refine Or.inl ⟨rfl, ?_⟩
    refine rq_less (sx 17 (congrArg some e0.1) (sx 18 (congrArg some e1.1) (sub_nil _))) (List.sublist_append_right _ _) ?_
    exact rq_v (rv_index (s := 3) rfl Try.underlying34 (by kernel_rfl) rfl rfl (rd_old ((ha).row)) (by omega) (by first | omega | (simp only [List.length_set]; omega)))
   ·
    intro vf pf hR
    have e2 : (vf 2) = elP u (((j : Int)).toNat * 3) ∧ (pf 2) = [] := hR 2 (by decide)
    refine Or.inl ⟨rfl, ?_⟩
    refine rq_less (sx 19 (congrArg some e2.1) (sub_nil _)) (List.sublist_append_right _ _) ?_
    exact rq_v (rv_loadElN (us := [.int .i64 ((ea.getD j sq0).kd), .int .i64 ((ea.getD j sq0).it), (ea.getD j sq0).iv]) rfl (by kernel_rfl) (by kernel_rfl) rfl (rd_old ((ha).row)) (by omega) rfl (flat_atN sqC 3 (fun _ => rfl) ea sq0 (show j < _ by first | omega | (simp only [List.length_set]; omega)) rfl))
   ·
    intro vf pf hR
    refine Or.inl ⟨rfl, ?_⟩
    refine rq_less (sx 1 rfl (sub_nil _)) (List.sublist_append_right _ _) ?_
    exact rq_v (rv_ev rfl)
   ·
    intro vf pf hR
    refine Or.inl ⟨rfl, ?_⟩
    refine rq_less (sx 5 rfl (sub_nil _)) (List.sublist_append_right _ _) ?_
    exact rq_v (rv_ev rfl)
   ·
    intro vf pf hR
    have e4 : (vf 4) = v ∧ (pf 4) = [] := hR 4 (by decide)
    have e5 : (vf 5) = .int .i64 (j : Int) ∧ (pf 5) = [] := hR 5 (by decide)
    refine Or.inl ⟨rfl, ?_⟩
    refine rq_less (sx 21 (congrArg some e4.1) (sx 22 (congrArg some e5.1) (sub_nil _))) (List.sublist_append_right _ _) ?_
    exact rq_v (rv_index (s := 3) rfl Try.underlying34 (by kernel_rfl) rfl rfl (rd_old ((hb).row)) (by omega) (by first | omega | (simp only [List.length_set]; omega)))
   ·
    intro vf pf hR
    have e6 : (vf 6) = elP v (((j : Int)).toNat * 3) ∧ (pf 6) = [] := hR 6 (by decide)
    refine Or.inl ⟨rfl, ?_⟩
    refine rq_less (sx 23 (congrArg some e6.1) (sub_nil _)) (List.sublist_append_right _ _) ?_
    exact rq_v (rv_loadElN (us := [.int .i64 ((eb.getD j sq0).kd), .int .i64 ((eb.getD j sq0).it), (eb.getD j sq0).iv]) rfl (by kernel_rfl) (by kernel_rfl) rfl (rd_old ((hb).row)) (by omega) rfl (flat_atN sqC 3 (fun _ => rfl) eb sq0 (show j < _ by first | omega | (simp only [List.length_set]; omega)) rfl))
   ·
    intro vf pf hR
    have e3 : (vf 3) = .agg #[.int .i64 ((ea.getD j sq0).kd), .int .i64 ((ea.getD j sq0).it), (ea.getD j sq0).iv] ∧ (pf 3) = [] := hR 3 (by decide)
    have e7 : (vf 7) = .agg #[.int .i64 ((eb.getD j sq0).kd), .int .i64 ((eb.getD j sq0).it), (eb.getD j sq0).iv] ∧ (pf 7) = [] := hR 7 (by decide)
    refine Or.inl ⟨rfl, ?_⟩
    refine rq_less (sx 20 (congrArg some e3.1) (sx 24 (congrArg some e7.1) (sub_nil _))) (List.sublist_append_right _ _) ?_
    exact (rq_call (by kernel_rfl) rfl (fun w hm => ret_ans (eqSeq_yes (ea.getD j sq0) (eb.getD j sq0) w ((ha.at (d := sq0) (k := j) (by omega)).below hm.bel) ((hb.at (d := sq0) (k := j) (by omega)).below hm.bel) (map_getD hv j sq0) hel)))
   ·
    intro vf pf hR
    have e8 : (vf 8) = .bool true ∧ (pf 8) = [] := hR 8 (by decide)
    refine Or.inl ⟨rfl, ?_⟩
    refine rq_less (sx 25 (congrArg some e8.1) (sub_nil _)) (List.sublist_append_right _ _) ?_
    exact rq_v (rv_ev rfl)
  ·
   intro vf pf hR
   have e9 : (vf 9) = .bool false ∧ (pf 9) = [] := hR 9 (by decide)
   refine hl_less (l' := []) (sx 0 rfl (sx 1 rfl (sx 4 rfl (sx 5 rfl (sx 10 rfl (sx 14 rfl (sx 26 (congrArg some e9.1) (sub_nil _)))))))) (List.sublist_append_right _ _) ?_
   simp only [List.drop_succ_cons, List.drop_zero]
   refine hl_less (sx 0 rfl (sx 1 rfl (sx 4 rfl (sx 5 rfl (sx 10 rfl (sx 14 rfl (sx 26 rfl (sub_nil _)))))))) (.refl _) ?_
   refine hl_nil ?_
   refine hq_then ?_
   refine hc_false rfl ?_
   refine hc_skip ?_
   refine hq_block_normal ?_
   refine hq_then ?_
   refine hc_region ?_
   refine hl_v rfl rfl rfl (rv_ev rfl) ?_
   refine hl_v rfl rfl rfl (rv_add rfl rfl rfl (by constructor <;> omega)) ?_
   refine hl_v rfl rfl rfl (rv_ev rfl) ?_
   refine hl_less (sx 0 rfl (sx 1 rfl (sx 4 rfl (sx 5 rfl (sx 10 rfl (sx 14 rfl (sx 26 rfl (sub_nil _)))))))) (.refl _) ?_
   refine hl_nil ?_
   exact hq_round1 (j + 1) (by omega) (by omega) (sx 0 rfl (sx 1 rfl (sx 4 rfl (sx 5 rfl (sx 10 rfl (sub_nil _)))))) (.slnil)
 ·
  refine hl_less (sx 0 rfl (sx 1 rfl (sx 4 rfl (sx 5 rfl (sx 10 rfl (sx 14 rfl (sub_nil _))))))) (.refl _) ?_
  refine hl_nil ?_
  refine hq_then ?_
  refine hc_false rfl ?_
  refine hc_exit ?_
  refine hq_then_exit ?_
  refine hq_then_exit ?_
  refine hq_block_exit ?_
  refine hq_then ?_
  refine hc_seq ?_
  refine hc_region ?_
  refine hl_v rfl rfl rfl (rv_ev rfl) ?_
  refine hl_less (sx 0 rfl (sx 1 rfl (sx 4 rfl (sx 5 rfl (sx 10 rfl (sx 14 rfl (sub_nil _))))))) (.refl _) ?_
  refine hl_nil ?_
  refine hq_then ?_
  refine hc_ret ?_
  exact hq_ans rfl rfl rfl
set_option maxHeartbeats 4000000 in
set_option maxRecDepth 100000 in
theorem eqLut_yes (a b : Lt) (w : World) (ha : RdsW w a.iv 1 a.xs.length (a.xs.map (Value.int .i64))) (hb : RdsW w b.iv 1 b.xs.length (b.xs.map (Value.int .i64))) (hv : Lt.val a = Lt.val b) (hl : a.xs.length ≤ 1048576) :
  Calls Try.prog 98 #[.agg #[a.iv, .int .i64 a.ma], .agg #[b.iv, .int .i64 b.ma]] w (Ans w (.bool true)) := by
 simp only [Lt.val, Prod.mk.injEq] at hv
 obtain ⟨e3, e1⟩ := hv
 refine calls_hc (N := 16) (args := [.agg #[a.iv, .int .i64 a.ma], .agg #[b.iv, .int .i64 b.ma]]) Try.func98 rfl rfl ?_
 refine hc_less _ (sx 0 rfl (sx 1 rfl (sub_nil _))) (.refl _) ?_
 refine hc_seq ?_
 refine hc_region ?_
 refine hl_box rfl rfl rfl (rq_box rfl rfl) ?_
 intro b1
 refine hl_box rfl rfl rfl (rq_box rfl rfl) ?_
 intro b2
 refine hl_v rfl rfl rfl (rv_ev rfl) ?_
 refine hl_less (sx 0 rfl (sx 1 rfl (sx 2 rfl (sx 3 rfl (sx 4 rfl (sub_nil _)))))) (.refl _) ?_
 refine hl_nil ?_
 refine hq_then ?_
 refine hc_seq ?_
 refine hc_seq ?_
 refine hc_region ?_
 refine hl_v rfl rfl rfl (rv_field (k0 := 0) rfl (by kernel_rfl) rfl) ?_
 refine hl_v rfl rfl rfl (rv_load rfl (by kernel_rfl) rfl (box_cell 1 rfl rfl)) ?_
 refine hl_v rfl rfl rfl (rv_field (k0 := 0) rfl (by kernel_rfl) rfl) ?_
 refine hl_v rfl rfl rfl (rv_load rfl (by kernel_rfl) rfl (box_cell 0 rfl rfl)) ?_
 refine hl_callV rfl rfl rfl (rq_call (by kernel_rfl) rfl (fun w hm => ret_ans (eqIntS_ans a.xs b.xs _ _ w ((rd_old ha) w hm) ((rd_old hb) w hm) (by omega)))) ?_
 refine hl_bool (fun h3 => ?_) (fun h3 => absurd (((decide_eq_true (by first | rfl | assumption | (symm; assumption)))).symm.trans h3) (by decide))
 refine hl_v rfl rfl rfl (rv_ev rfl) ?_
 refine hl_less (sx 0 rfl (sx 1 rfl (sx 2 rfl (sx 3 rfl (sx 4 rfl (sx 10 rfl (sub_nil _))))))) (.refl _) ?_
 refine hl_nil ?_
 refine hq_then ?_
 refine hc_false rfl ?_
 refine hc_skip ?_
 refine hq_then ?_
 refine hc_seq ?_
 refine hc_seq ?_
 refine hc_region ?_
 refine hl_v rfl rfl rfl (rv_field (k0 := 1) rfl (by kernel_rfl) rfl) ?_
 refine hl_v rfl rfl rfl (rv_load rfl (by kernel_rfl) rfl (box_cell 1 rfl rfl)) ?_
 refine hl_v rfl rfl rfl (rv_field (k0 := 1) rfl (by kernel_rfl) rfl) ?_
 refine hl_v rfl rfl rfl (rv_load rfl (by kernel_rfl) rfl (box_cell 0 rfl rfl)) ?_
 refine hl_neq rfl rfl rfl rfl rfl rfl (fun h4 => absurd h4 (by omega)) (fun h4 => ?_)
 refine hl_less (sx 0 rfl (sx 1 rfl (sx 2 rfl (sx 3 rfl (sx 4 rfl (sx 10 rfl (sx 15 rfl (sub_nil _)))))))) (.refl _) ?_
 refine hl_nil ?_
 refine hq_then ?_
 refine hc_false rfl ?_
 refine hc_skip ?_
 refine hq_then ?_
 refine hc_seq ?_
 refine hc_region ?_
 refine hl_v rfl rfl rfl (rv_ev rfl) ?_
 refine hl_less (sx 0 rfl (sx 1 rfl (sx 2 rfl (sx 3 rfl (sx 4 rfl (sx 10 rfl (sx 15 rfl (sub_nil _)))))))) (.refl _) ?_
 refine hl_nil ?_
 refine hq_then ?_
 refine hc_ret ?_
 exact hq_ans rfl rfl rfl
set_option maxHeartbeats 4000000 in
set_option maxRecDepth 100000 in
theorem eqLutR_yes (ea eb : List Lt) (u v : Value) (w : World) (ha : RdsLt w u ea) (hb : RdsLt w v eb) (hv : ea.map Lt.val = eb.map Lt.val) (hz : ea.length ≤ 1048576 ∧ ∀ s ∈ ea, s.xs.length ≤ 1048576) :
  Calls Try.prog 81 #[u, v] w (Ans w (.bool true)) := by
 have hlen := map_len hv
 obtain ⟨hz1, hz2⟩ := hz
 refine calls_hc (N := 27) (args := [u, v]) Try.func81 rfl rfl ?_
 refine hc_less _ (sx 0 rfl (sx 1 rfl (sub_nil _))) (.refl _) ?_
 refine hc_seq ?_
 refine hc_region ?_
 refine hl_v rfl rfl rfl (rv_ev rfl) ?_
 refine hl_less (sx 0 rfl (sx 1 rfl (sx 4 rfl (sub_nil _)))) (.refl _) ?_
 refine hl_nil ?_
 refine hq_then ?_
 refine hc_seq ?_
 refine hc_seq ?_
 refine hc_region ?_
 refine hl_v rfl rfl rfl (rv_ev rfl) ?_
 refine hl_v rfl rfl rfl (rv_len rfl Try.underlying35 rfl (rd_old ((ha).row))) ?_
 refine hl_v rfl rfl rfl (rv_ev rfl) ?_
 refine hl_v rfl rfl rfl (rv_len rfl Try.underlying35 rfl (rd_old ((hb).row))) ?_
 refine hl_neq rfl rfl rfl rfl rfl rfl (fun h1 => absurd h1 (by omega)) (fun h1 => ?_)
 refine hl_less (sx 0 rfl (sx 1 rfl (sx 4 rfl (sx 10 rfl (sub_nil _))))) (.refl _) ?_
 refine hl_nil ?_
 refine hq_then ?_
 refine hc_false rfl ?_
 refine hc_skip ?_
 refine hq_then ?_
 refine hc_seq ?_
 refine hc_seq ?_
 refine hc_region ?_
 refine hl_v rfl rfl rfl (rv_ev rfl) ?_
 refine hl_less (sx 0 rfl (sx 1 rfl (sx 4 rfl (sx 5 rfl (sx 10 rfl (sub_nil _)))))) (.refl _) ?_
 refine hl_nil ?_
 refine hq_then ?_
 refine hc_block ?_
 refine hc_loop1 (α := Nat) (fun j => []) (fun j => [(0, u), (1, v), (4, .bool false), (5, .int .i64 (j : Int)), (10, .bool false)]) (fun j => j ≤ ea.length) (fun j => ea.length - j) 0 (Nat.zero_le _) (sx 0 rfl (sx 1 rfl (sx 4 rfl (sx 5 rfl (sx 10 rfl (sub_nil _)))))) (.slnil) ?_
 intro j hi2
 have hj := hi2
 refine hc_seq ?_
 refine hc_seq ?_
 refine hc_region ?_
 refine hl_v rfl rfl rfl (rv_ev rfl) ?_
 refine hl_v rfl rfl rfl (rv_ev rfl) ?_
 refine hl_v rfl rfl rfl (rv_len rfl Try.underlying35 rfl (rd_old ((ha).row))) ?_
 refine hl_lss rfl rfl rfl rfl rfl rfl (fun h3 => ?_) (fun h3 => ?_)
 ·
  refine hl_less (sx 0 rfl (sx 1 rfl (sx 4 rfl (sx 5 rfl (sx 10 rfl (sx 14 rfl (sub_nil _))))))) (.refl _) ?_
  refine hl_nil ?_
  refine hq_then ?_
  refine hc_true rfl ?_
  refine hc_skip ?_
  refine hq_then ?_
  refine hc_seq ?_
  refine hc_block ?_
  refine hc_seq ?_
  have hel := hz2 _ (getD_memX (d := lt0) (show j < ea.length by omega))
  have hevj := map_getD hv j lt0
  refine hc_draw (by kernel_rfl) 10 [0, 1, 2, 3, 4, 5, 6, 7, 8, 9] (List.take 10 _) (List.drop 10 _) [[], [], [0, 1], [2], [], [], [4, 5], [6], [3, 7], [8]] [17, 18, 19, 20, 21, 22, 23, 24, 25, 26] (fun i_ vs_ v_ p_ => match i_ with | 0 => v_ = u ∧ p_ = [] | 1 => v_ = .int .i64 (j : Int) ∧ p_ = [] | 2 => v_ = elP u (((j : Int)).toNat * 2) ∧ p_ = [] | 3 => v_ = .agg #[(ea.getD j lt0).iv, .int .i64 ((ea.getD j lt0).ma)] ∧ p_ = [] | 4 => v_ = v ∧ p_ = [] | 5 => v_ = .int .i64 (j : Int) ∧ p_ = [] | 6 => v_ = elP v (((j : Int)).toNat * 2) ∧ p_ = [] | 7 => v_ = .agg #[(eb.getD j lt0).iv, .int .i64 ((eb.getD j lt0).ma)] ∧ p_ = [] | 8 => v_ = .bool true ∧ p_ = [] | 9 => v_ = .bool false ∧ p_ = [] | _ => True) (List.take_append_drop 10 _).symm (by kernel_rfl) (by kernel_rfl) rfl rfl ?_ ?_
  ·
   refine ⟨?_, ?_, ?_, ?_, ?_, ?_, ?_, ?_, ?_, ?_, trivial⟩
   ·
    intro vf pf hR
    refine Or.inl ⟨rfl, ?_⟩
    refine rq_less (sx 0 rfl (sub_nil _)) (List.sublist_append_right _ _) ?_
    exact rq_v (rv_ev rfl)
   ·
    intro vf pf hR
    refine Or.inl ⟨rfl, ?_⟩
    refine rq_less (sx 5 rfl (sub_nil _)) (List.sublist_append_right _ _) ?_
    exact rq_v (rv_ev rfl)
   ·
    intro vf pf hR
    have e0 : (vf 0) = u ∧ (pf 0) = [] := hR 0 (by decide)
    have e1 : (vf 1) = .int .i64 (j : Int) ∧ (pf 1) = [] := hR 1 (by decide)
    refine Or.inl ⟨rfl, ?_⟩
    refine rq_less (sx 17 (congrArg some e0.1) (sx 18 (congrArg some e1.1) (sub_nil _))) (List.sublist_append_right _ _) ?_
    exact rq_v (rv_index (s := 2) rfl Try.underlying35 (by kernel_rfl) rfl rfl (rd_old ((ha).row)) (by omega) (by first | omega | (simp only [List.length_set]; omega)))
   ·
    intro vf pf hR
    have e2 : (vf 2) = elP u (((j : Int)).toNat * 2) ∧ (pf 2) = [] := hR 2 (by decide)
    refine Or.inl ⟨rfl, ?_⟩
    refine rq_less (sx 19 (congrArg some e2.1) (sub_nil _)) (List.sublist_append_right _ _) ?_
    exact rq_v (rv_loadElN (us := [(ea.getD j lt0).iv, .int .i64 ((ea.getD j lt0).ma)]) rfl (by kernel_rfl) (by kernel_rfl) rfl (rd_old ((ha).row)) (by omega) rfl (flat_atN ltC 2 (fun _ => rfl) ea lt0 (show j < _ by first | omega | (simp only [List.length_set]; omega)) rfl))
   ·
    intro vf pf hR
    refine Or.inl ⟨rfl, ?_⟩
    refine rq_less (sx 1 rfl (sub_nil _)) (List.sublist_append_right _ _) ?_
    exact rq_v (rv_ev rfl)
   ·
    intro vf pf hR
    refine Or.inl ⟨rfl, ?_⟩
    refine rq_less (sx 5 rfl (sub_nil _)) (List.sublist_append_right _ _) ?_
    exact rq_v (rv_ev rfl)
   ·
    intro vf pf hR
    have e4 : (vf 4) = v ∧ (pf 4) = [] := hR 4 (by decide)
    have e5 : (vf 5) = .int .i64 (j : Int) ∧ (pf 5) = [] := hR 5 (by decide)
    refine Or.inl ⟨rfl, ?_⟩
    refine rq_less (sx 21 (congrArg some e4.1) (sx 22 (congrArg some e5.1) (sub_nil _))) (List.sublist_append_right _ _) ?_
    exact rq_v (rv_index (s := 2) rfl Try.underlying35 (by kernel_rfl) rfl rfl (rd_old ((hb).row)) (by omega) (by first | omega | (simp only [List.length_set]; omega)))
   ·
    intro vf pf hR
    have e6 : (vf 6) = elP v (((j : Int)).toNat * 2) ∧ (pf 6) = [] := hR 6 (by decide)
    refine Or.inl ⟨rfl, ?_⟩
    refine rq_less (sx 23 (congrArg some e6.1) (sub_nil _)) (List.sublist_append_right _ _) ?_
    exact rq_v (rv_loadElN (us := [(eb.getD j lt0).iv, .int .i64 ((eb.getD j lt0).ma)]) rfl (by kernel_rfl) (by kernel_rfl) rfl (rd_old ((hb).row)) (by omega) rfl (flat_atN ltC 2 (fun _ => rfl) eb lt0 (show j < _ by first | omega | (simp only [List.length_set]; omega)) rfl))
   ·
    intro vf pf hR
    have e3 : (vf 3) = .agg #[(ea.getD j lt0).iv, .int .i64 ((ea.getD j lt0).ma)] ∧ (pf 3) = [] := hR 3 (by decide)
    have e7 : (vf 7) = .agg #[(eb.getD j lt0).iv, .int .i64 ((eb.getD j lt0).ma)] ∧ (pf 7) = [] := hR 7 (by decide)
    refine Or.inl ⟨rfl, ?_⟩
    refine rq_less (sx 20 (congrArg some e3.1) (sx 24 (congrArg some e7.1) (sub_nil _))) (List.sublist_append_right _ _) ?_
    exact (rq_call (by kernel_rfl) rfl (fun w hm => ret_ans (eqLut_yes (ea.getD j lt0) (eb.getD j lt0) w ((ha.at (d := lt0) (k := j) (by omega)).below hm.bel) ((hb.at (d := lt0) (k := j) (by omega)).below hm.bel) (map_getD hv j lt0) hel)))
   ·
    intro vf pf hR
    have e8 : (vf 8) = .bool true ∧ (pf 8) = [] := hR 8 (by decide)
    refine Or.inl ⟨rfl, ?_⟩
    refine rq_less (sx 25 (congrArg some e8.1) (sub_nil _)) (List.sublist_append_right _ _) ?_
    exact rq_v (rv_ev rfl)
  ·
   intro vf pf hR
   have e9 : (vf 9) = .bool false ∧ (pf 9) = [] := hR 9 (by decide)
   refine hl_less (l' := []) (sx 0 rfl (sx 1 rfl (sx 4 rfl (sx 5 rfl (sx 10 rfl (sx 14 rfl (sx 26 (congrArg some e9.1) (sub_nil _)))))))) (List.sublist_append_right _ _) ?_
   simp only [List.drop_succ_cons, List.drop_zero]
   refine hl_less (sx 0 rfl (sx 1 rfl (sx 4 rfl (sx 5 rfl (sx 10 rfl (sx 14 rfl (sx 26 rfl (sub_nil _)))))))) (.refl _) ?_
   refine hl_nil ?_
   refine hq_then ?_
   refine hc_false rfl ?_
   refine hc_skip ?_
   refine hq_block_normal ?_
   refine hq_then ?_
   refine hc_region ?_
   refine hl_v rfl rfl rfl (rv_ev rfl) ?_
   refine hl_v rfl rfl rfl (rv_add rfl rfl rfl (by constructor <;> omega)) ?_
   refine hl_v rfl rfl rfl (rv_ev rfl) ?_
   refine hl_less (sx 0 rfl (sx 1 rfl (sx 4 rfl (sx 5 rfl (sx 10 rfl (sx 14 rfl (sx 26 rfl (sub_nil _)))))))) (.refl _) ?_
   refine hl_nil ?_
   exact hq_round1 (j + 1) (by omega) (by omega) (sx 0 rfl (sx 1 rfl (sx 4 rfl (sx 5 rfl (sx 10 rfl (sub_nil _)))))) (.slnil)
 ·
  refine hl_less (sx 0 rfl (sx 1 rfl (sx 4 rfl (sx 5 rfl (sx 10 rfl (sx 14 rfl (sub_nil _))))))) (.refl _) ?_
  refine hl_nil ?_
  refine hq_then ?_
  refine hc_false rfl ?_
  refine hc_exit ?_
  refine hq_then_exit ?_
  refine hq_then_exit ?_
  refine hq_block_exit ?_
  refine hq_then ?_
  refine hc_seq ?_
  refine hc_region ?_
  refine hl_v rfl rfl rfl (rv_ev rfl) ?_
  refine hl_less (sx 0 rfl (sx 1 rfl (sx 4 rfl (sx 5 rfl (sx 10 rfl (sx 14 rfl (sub_nil _))))))) (.refl _) ?_
  refine hl_nil ?_
  refine hq_then ?_
  refine hc_ret ?_
  exact hq_ans rfl rfl rfl
set_option maxHeartbeats 4000000 in
set_option maxRecDepth 100000 in
theorem eqIntR_yes (ea eb : List IR) (u v : Value) (w : World) (ha : RdsIr w u ea) (hb : RdsIr w v eb) (hv : ea.map IR.xs = eb.map IR.xs) (hz : ea.length ≤ 1048576 ∧ ∀ s ∈ ea, s.xs.length ≤ 1048576) :
  Calls Try.prog 35 #[u, v] w (Ans w (.bool true)) := by
 have hlen := map_len hv
 obtain ⟨hz1, hz2⟩ := hz
 refine calls_hc (N := 27) (args := [u, v]) Try.func35 rfl rfl ?_
 refine hc_less _ (sx 0 rfl (sx 1 rfl (sub_nil _))) (.refl _) ?_
 refine hc_seq ?_
 refine hc_region ?_
 refine hl_v rfl rfl rfl (rv_ev rfl) ?_
 refine hl_less (sx 0 rfl (sx 1 rfl (sx 4 rfl (sub_nil _)))) (.refl _) ?_
 refine hl_nil ?_
 refine hq_then ?_
 refine hc_seq ?_
 refine hc_seq ?_
 refine hc_region ?_
 refine hl_v rfl rfl rfl (rv_ev rfl) ?_
 refine hl_v rfl rfl rfl (rv_len rfl Try.underlying27 rfl (rd_old ((ha).row))) ?_
 refine hl_v rfl rfl rfl (rv_ev rfl) ?_
 refine hl_v rfl rfl rfl (rv_len rfl Try.underlying27 rfl (rd_old ((hb).row))) ?_
 refine hl_neq rfl rfl rfl rfl rfl rfl (fun h1 => absurd h1 (by omega)) (fun h1 => ?_)
 refine hl_less (sx 0 rfl (sx 1 rfl (sx 4 rfl (sx 10 rfl (sub_nil _))))) (.refl _) ?_
 refine hl_nil ?_
 refine hq_then ?_
 refine hc_false rfl ?_
 refine hc_skip ?_
 refine hq_then ?_
 refine hc_seq ?_
 refine hc_seq ?_
 refine hc_region ?_
 refine hl_v rfl rfl rfl (rv_ev rfl) ?_
 refine hl_less (sx 0 rfl (sx 1 rfl (sx 4 rfl (sx 5 rfl (sx 10 rfl (sub_nil _)))))) (.refl _) ?_
 refine hl_nil ?_
 refine hq_then ?_
 refine hc_block ?_
 refine hc_loop1 (α := Nat) (fun j => []) (fun j => [(0, u), (1, v), (4, .bool false), (5, .int .i64 (j : Int)), (10, .bool false)]) (fun j => j ≤ ea.length) (fun j => ea.length - j) 0 (Nat.zero_le _) (sx 0 rfl (sx 1 rfl (sx 4 rfl (sx 5 rfl (sx 10 rfl (sub_nil _)))))) (.slnil) ?_
 intro j hi2
 have hj := hi2
 refine hc_seq ?_
 refine hc_seq ?_
 refine hc_region ?_
 refine hl_v rfl rfl rfl (rv_ev rfl) ?_
 refine hl_v rfl rfl rfl (rv_ev rfl) ?_
 refine hl_v rfl rfl rfl (rv_len rfl Try.underlying27 rfl (rd_old ((ha).row))) ?_
 refine hl_lss rfl rfl rfl rfl rfl rfl (fun h3 => ?_) (fun h3 => ?_)
 ·
  refine hl_less (sx 0 rfl (sx 1 rfl (sx 4 rfl (sx 5 rfl (sx 10 rfl (sx 14 rfl (sub_nil _))))))) (.refl _) ?_
  refine hl_nil ?_
  refine hq_then ?_
  refine hc_true rfl ?_
  refine hc_skip ?_
  refine hq_then ?_
  refine hc_seq ?_
  refine hc_block ?_
  refine hc_seq ?_
  have hel := hz2 _ (getD_memX (d := ir0) (show j < ea.length by omega))
  have hevj := map_getD hv j ir0
  have hb4 : (decide ((ea.getD j ir0).xs = (eb.getD j ir0).xs)) = true := (decide_eq_true (by first | rfl | assumption | (symm; assumption)))
  refine hc_draw (by kernel_rfl) 10 [0, 1, 2, 3, 4, 5, 6, 7, 8, 9] (List.take 10 _) (List.drop 10 _) [[], [], [0, 1], [2], [], [], [4, 5], [6], [3, 7], [8]] [17, 18, 19, 20, 21, 22, 23, 24, 25, 26] (fun i_ vs_ v_ p_ => match i_ with | 0 => v_ = u ∧ p_ = [] | 1 => v_ = .int .i64 (j : Int) ∧ p_ = [] | 2 => v_ = elP u (((j : Int)).toNat * 1) ∧ p_ = [] | 3 => v_ = (ea.getD j ir0).v ∧ p_ = [] | 4 => v_ = v ∧ p_ = [] | 5 => v_ = .int .i64 (j : Int) ∧ p_ = [] | 6 => v_ = elP v (((j : Int)).toNat * 1) ∧ p_ = [] | 7 => v_ = (eb.getD j ir0).v ∧ p_ = [] | 8 => v_ = .bool true ∧ p_ = [] | 9 => v_ = .bool false ∧ p_ = [] | _ => True) (List.take_append_drop 10 _).symm (by kernel_rfl) (by kernel_rfl) rfl rfl ?_ ?_
  ·
   refine ⟨?_, ?_, ?_, ?_, ?_, ?_, ?_, ?_, ?_, ?_, trivial⟩
   ·
    intro vf pf hR
    refine Or.inl ⟨rfl, ?_⟩
    refine rq_less (sx 0 rfl (sub_nil _)) (List.sublist_append_right _ _) ?_
    exact rq_v (rv_ev rfl)
   ·
    intro vf pf hR
    refine Or.inl ⟨rfl, ?_⟩
    refine rq_less (sx 5 rfl (sub_nil _)) (List.sublist_append_right _ _) ?_
    exact rq_v (rv_ev rfl)
   ·
    intro vf pf hR
    have e0 : (vf 0) = u ∧ (pf 0) = [] := hR 0 (by decide)
    have e1 : (vf 1) = .int .i64 (j : Int) ∧ (pf 1) = [] := hR 1 (by decide)
    refine Or.inl ⟨rfl, ?_⟩
    refine rq_less (sx 17 (congrArg some e0.1) (sx 18 (congrArg some e1.1) (sub_nil _))) (List.sublist_append_right _ _) ?_
    exact rq_v (rv_index (s := 1) rfl Try.underlying27 (by kernel_rfl) rfl rfl (rd_old ((ha).row)) (by omega) (by first | omega | (simp only [List.length_set]; omega)))
   ·
    intro vf pf hR
    have e2 : (vf 2) = elP u (((j : Int)).toNat * 1) ∧ (pf 2) = [] := hR 2 (by decide)
    refine Or.inl ⟨rfl, ?_⟩
    refine rq_less (sx 19 (congrArg some e2.1) (sub_nil _)) (List.sublist_append_right _ _) ?_
    exact rq_v (rv_loadEl (u := (ea.getD j ir0).v) rfl (by kernel_rfl) rfl (rd_old ((ha).row)) (flat_one irC (fun r => r.v) (fun _ => rfl) ea ir0 (show j < _ by first | omega | (simp only [List.length_set]; omega))))
   ·
    intro vf pf hR
    refine Or.inl ⟨rfl, ?_⟩
    refine rq_less (sx 1 rfl (sub_nil _)) (List.sublist_append_right _ _) ?_
    exact rq_v (rv_ev rfl)
   ·
    intro vf pf hR
    refine Or.inl ⟨rfl, ?_⟩
    refine rq_less (sx 5 rfl (sub_nil _)) (List.sublist_append_right _ _) ?_
    exact rq_v (rv_ev rfl)
   ·
    intro vf pf hR
    have e4 : (vf 4) = v ∧ (pf 4) = [] := hR 4 (by decide)
    have e5 : (vf 5) = .int .i64 (j : Int) ∧ (pf 5) = [] := hR 5 (by decide)
    refine Or.inl ⟨rfl, ?_⟩
    refine rq_less (sx 21 (congrArg some e4.1) (sx 22 (congrArg some e5.1) (sub_nil _))) (List.sublist_append_right _ _) ?_
    exact rq_v (rv_index (s := 1) rfl Try.underlying27 (by kernel_rfl) rfl rfl (rd_old ((hb).row)) (by omega) (by first | omega | (simp only [List.length_set]; omega)))
   ·
    intro vf pf hR
    have e6 : (vf 6) = elP v (((j : Int)).toNat * 1) ∧ (pf 6) = [] := hR 6 (by decide)
    refine Or.inl ⟨rfl, ?_⟩
    refine rq_less (sx 23 (congrArg some e6.1) (sub_nil _)) (List.sublist_append_right _ _) ?_
    exact rq_v (rv_loadEl (u := (eb.getD j ir0).v) rfl (by kernel_rfl) rfl (rd_old ((hb).row)) (flat_one irC (fun r => r.v) (fun _ => rfl) eb ir0 (show j < _ by first | omega | (simp only [List.length_set]; omega))))
   ·
    intro vf pf hR
    have e3 : (vf 3) = (ea.getD j ir0).v ∧ (pf 3) = [] := hR 3 (by decide)
    have e7 : (vf 7) = (eb.getD j ir0).v ∧ (pf 7) = [] := hR 7 (by decide)
    refine Or.inl ⟨rfl, ?_⟩
    refine rq_less (sx 20 (congrArg some e3.1) (sx 24 (congrArg some e7.1) (sub_nil _))) (List.sublist_append_right _ _) ?_
    exact rq_mono (rq_call (by kernel_rfl) rfl (fun w hm => ret_ans (eqIntS_ans ((ea.getD j ir0).xs) ((eb.getD j ir0).xs) _ _ w ((rd_old ((ha).at (d := ir0) (k := j) (by omega))) w hm) ((rd_old ((hb).at (d := ir0) (k := j) (by omega))) w hm) (by omega)))) (fun _ _ h => ⟨h.1.trans (congrArg Value.bool hb4), h.2⟩)
   ·
    intro vf pf hR
    have e8 : (vf 8) = .bool true ∧ (pf 8) = [] := hR 8 (by decide)
    refine Or.inl ⟨rfl, ?_⟩
    refine rq_less (sx 25 (congrArg some e8.1) (sub_nil _)) (List.sublist_append_right _ _) ?_
    exact rq_v (rv_ev rfl)
  ·
   intro vf pf hR
   have e9 : (vf 9) = .bool false ∧ (pf 9) = [] := hR 9 (by decide)
   refine hl_less (l' := []) (sx 0 rfl (sx 1 rfl (sx 4 rfl (sx 5 rfl (sx 10 rfl (sx 14 rfl (sx 26 (congrArg some e9.1) (sub_nil _)))))))) (List.sublist_append_right _ _) ?_
   simp only [List.drop_succ_cons, List.drop_zero]
   refine hl_less (sx 0 rfl (sx 1 rfl (sx 4 rfl (sx 5 rfl (sx 10 rfl (sx 14 rfl (sx 26 rfl (sub_nil _)))))))) (.refl _) ?_
   refine hl_nil ?_
   refine hq_then ?_
   refine hc_false rfl ?_
   refine hc_skip ?_
   refine hq_block_normal ?_
   refine hq_then ?_
   refine hc_region ?_
   refine hl_v rfl rfl rfl (rv_ev rfl) ?_
   refine hl_v rfl rfl rfl (rv_add rfl rfl rfl (by constructor <;> omega)) ?_
   refine hl_v rfl rfl rfl (rv_ev rfl) ?_
   refine hl_less (sx 0 rfl (sx 1 rfl (sx 4 rfl (sx 5 rfl (sx 10 rfl (sx 14 rfl (sx 26 rfl (sub_nil _)))))))) (.refl _) ?_
   refine hl_nil ?_
   exact hq_round1 (j + 1) (by omega) (by omega) (sx 0 rfl (sx 1 rfl (sx 4 rfl (sx 5 rfl (sx 10 rfl (sub_nil _)))))) (.slnil)
 ·
  refine hl_less (sx 0 rfl (sx 1 rfl (sx 4 rfl (sx 5 rfl (sx 10 rfl (sx 14 rfl (sub_nil _))))))) (.refl _) ?_
  refine hl_nil ?_
  refine hq_then ?_
  refine hc_false rfl ?_
  refine hc_exit ?_
  refine hq_then_exit ?_
  refine hq_then_exit ?_
  refine hq_block_exit ?_
  refine hq_then ?_
  refine hc_seq ?_
  refine hc_region ?_
  refine hl_v rfl rfl rfl (rv_ev rfl) ?_
  refine hl_less (sx 0 rfl (sx 1 rfl (sx 4 rfl (sx 5 rfl (sx 10 rfl (sx 14 rfl (sub_nil _))))))) (.refl _) ?_
  refine hl_nil ?_
  refine hq_then ?_
  refine hc_ret ?_
  exact hq_ans rfl rfl rfl
set_option maxHeartbeats 4000000 in
set_option maxRecDepth 100000 in
theorem eqDelays_yes (a b : Td) (w : World) (ha : RdsTd w a) (hb : RdsTd w b) (hs : Same b a) (hz : SzTd a) :
  Calls Try.prog 52 #[.agg #[a.pv, a.qv], .agg #[b.pv, b.qv]] w (Ans w (.bool true)) := by
 have z1 := hz.os
 have z2 := hz.ks
 have z3 := hz.ao
 have z4 := hz.bs
 have q1 := hs.ins
 have q2 := hs.os
 have q3 := hs.ks
 have q4 := hs.ao
 have q5 := hs.bs
 have q6 := hs.oi
 have q7 := hs.ni
 refine calls_hc (N := 17) (args := [.agg #[a.pv, a.qv], .agg #[b.pv, b.qv]]) Try.func52 rfl rfl ?_
 refine hc_less _ (sx 0 rfl (sx 1 rfl (sub_nil _))) (.refl _) ?_
 refine hc_seq ?_
 refine hc_region ?_
 refine hl_box rfl rfl rfl (rq_box rfl rfl) ?_
 intro b1
 refine hl_box rfl rfl rfl (rq_box rfl rfl) ?_
 intro b2
 refine hl_v rfl rfl rfl (rv_ev rfl) ?_
 refine hl_less (sx 0 rfl (sx 1 rfl (sx 2 rfl (sx 3 rfl (sx 4 rfl (sub_nil _)))))) (.refl _) ?_
 refine hl_nil ?_
 refine hq_then ?_
 refine hc_seq ?_
 refine hc_seq ?_
 refine hc_region ?_
 refine hl_v rfl rfl rfl (rv_field (k0 := 0) rfl (by kernel_rfl) rfl) ?_
 refine hl_v rfl rfl rfl (rv_load rfl (by kernel_rfl) rfl (box_cell 1 rfl rfl)) ?_
 refine hl_v rfl rfl rfl (rv_field (k0 := 0) rfl (by kernel_rfl) rfl) ?_
 refine hl_v rfl rfl rfl (rv_load rfl (by kernel_rfl) rfl (box_cell 0 rfl rfl)) ?_
 refine hl_callV rfl rfl rfl (rq_call (by kernel_rfl) rfl (fun w hm => ret_ans (eqIntR_yes _ _ _ _ w (ha.dl.below hm.bel) (hb.dl.below hm.bel) hs.dl hz.dl))) ?_
 refine hl_v rfl rfl rfl (rv_ev rfl) ?_
 refine hl_less (sx 0 rfl (sx 1 rfl (sx 2 rfl (sx 3 rfl (sx 4 rfl (sx 10 rfl (sub_nil _))))))) (.refl _) ?_
 refine hl_nil ?_
 refine hq_then ?_
 refine hc_false rfl ?_
 refine hc_skip ?_
 refine hq_then ?_
 refine hc_seq ?_
 refine hc_seq ?_
 refine hc_region ?_
 refine hl_v rfl rfl rfl (rv_field (k0 := 1) rfl (by kernel_rfl) rfl) ?_
 refine hl_v rfl rfl rfl (rv_load rfl (by kernel_rfl) rfl (box_cell 1 rfl rfl)) ?_
 refine hl_v rfl rfl rfl (rv_field (k0 := 1) rfl (by kernel_rfl) rfl) ?_
 refine hl_v rfl rfl rfl (rv_load rfl (by kernel_rfl) rfl (box_cell 0 rfl rfl)) ?_
 refine hl_callV rfl rfl rfl (rq_call (by kernel_rfl) rfl (fun w hm => ret_ans (eqIntR_yes _ _ _ _ w (ha.ds.below hm.bel) (hb.ds.below hm.bel) hs.ds hz.ds))) ?_
 refine hl_v rfl rfl rfl (rv_ev rfl) ?_
 refine hl_less (sx 0 rfl (sx 1 rfl (sx 2 rfl (sx 3 rfl (sx 4 rfl (sx 10 rfl (sx 16 rfl (sub_nil _)))))))) (.refl _) ?_
 refine hl_nil ?_
 refine hq_then ?_
 refine hc_false rfl ?_
 refine hc_skip ?_
 refine hq_then ?_
 refine hc_seq ?_
 refine hc_region ?_
 refine hl_v rfl rfl rfl (rv_ev rfl) ?_
 refine hl_less (sx 0 rfl (sx 1 rfl (sx 2 rfl (sx 3 rfl (sx 4 rfl (sx 10 rfl (sx 16 rfl (sub_nil _)))))))) (.refl _) ?_
 refine hl_nil ?_
 refine hq_then ?_
 refine hc_ret ?_
 exact hq_ans rfl rfl rfl
set_option maxHeartbeats 4000000 in
set_option maxRecDepth 100000 in
theorem eqLutNet_yes (a b : Td) (w : World) (ha : RdsTd w a) (hb : RdsTd w b) (hs : Same b a) (hz : SzTd a) :
  Calls Try.prog 51 #[.agg #[.int .i64 a.n.ins, a.n.sv, a.n.lv, a.n.ov], .agg #[.int .i64 b.n.ins, b.n.sv, b.n.lv, b.n.ov]] w (Ans w (.bool true)) := by
 have z1 := hz.os
 have z2 := hz.ks
 have z3 := hz.ao
 have z4 := hz.bs
 have q1 := hs.ins
 have q2 := hs.os
 have q3 := hs.ks
 have q4 := hs.ao
 have q5 := hs.bs
 have q6 := hs.oi
 have q7 := hs.ni
 refine calls_hc (N := 28) (args := [.agg #[.int .i64 a.n.ins, a.n.sv, a.n.lv, a.n.ov], .agg #[.int .i64 b.n.ins, b.n.sv, b.n.lv, b.n.ov]]) Try.func51 rfl rfl ?_
 refine hc_less _ (sx 0 rfl (sx 1 rfl (sub_nil _))) (.refl _) ?_
 refine hc_seq ?_
 refine hc_region ?_
 refine hl_box rfl rfl rfl (rq_box rfl rfl) ?_
 intro b1
 refine hl_box rfl rfl rfl (rq_box rfl rfl) ?_
 intro b2
 refine hl_v rfl rfl rfl (rv_ev rfl) ?_
 refine hl_less (sx 0 rfl (sx 1 rfl (sx 2 rfl (sx 3 rfl (sx 4 rfl (sub_nil _)))))) (.refl _) ?_
 refine hl_nil ?_
 refine hq_then ?_
 refine hc_seq ?_
 refine hc_seq ?_
 refine hc_region ?_
 refine hl_v rfl rfl rfl (rv_field (k0 := 0) rfl (by kernel_rfl) rfl) ?_
 refine hl_v rfl rfl rfl (rv_load rfl (by kernel_rfl) rfl (box_cell 1 rfl rfl)) ?_
 refine hl_v rfl rfl rfl (rv_field (k0 := 0) rfl (by kernel_rfl) rfl) ?_
 refine hl_v rfl rfl rfl (rv_load rfl (by kernel_rfl) rfl (box_cell 0 rfl rfl)) ?_
 refine hl_neq rfl rfl rfl rfl rfl rfl (fun h3 => absurd h3 (by omega)) (fun h3 => ?_)
 refine hl_less (sx 0 rfl (sx 1 rfl (sx 2 rfl (sx 3 rfl (sx 4 rfl (sx 9 rfl (sub_nil _))))))) (.refl _) ?_
 refine hl_nil ?_
 refine hq_then ?_
 refine hc_false rfl ?_
 refine hc_skip ?_
 refine hq_then ?_
 refine hc_seq ?_
 refine hc_seq ?_
 refine hc_region ?_
 refine hl_v rfl rfl rfl (rv_field (k0 := 1) rfl (by kernel_rfl) rfl) ?_
 refine hl_v rfl rfl rfl (rv_load rfl (by kernel_rfl) rfl (box_cell 1 rfl rfl)) ?_
 refine hl_v rfl rfl rfl (rv_field (k0 := 1) rfl (by kernel_rfl) rfl) ?_
 refine hl_v rfl rfl rfl (rv_load rfl (by kernel_rfl) rfl (box_cell 0 rfl rfl)) ?_
 refine hl_callV rfl rfl rfl (rq_call (by kernel_rfl) rfl (fun w hm => ret_ans (eqSeqR_yes _ _ _ _ w (ha.n.sq.below hm.bel) (hb.n.sq.below hm.bel) hs.ss hz.ss))) ?_
 refine hl_v rfl rfl rfl (rv_ev rfl) ?_
 refine hl_less (sx 0 rfl (sx 1 rfl (sx 2 rfl (sx 3 rfl (sx 4 rfl (sx 9 rfl (sx 15 rfl (sub_nil _)))))))) (.refl _) ?_
 refine hl_nil ?_
 refine hq_then ?_
 refine hc_false rfl ?_
 refine hc_skip ?_
 refine hq_then ?_
 refine hc_seq ?_
 refine hc_seq ?_
 refine hc_region ?_
 refine hl_v rfl rfl rfl (rv_field (k0 := 2) rfl (by kernel_rfl) rfl) ?_
 refine hl_v rfl rfl rfl (rv_load rfl (by kernel_rfl) rfl (box_cell 1 rfl rfl)) ?_
 refine hl_v rfl rfl rfl (rv_field (k0 := 2) rfl (by kernel_rfl) rfl) ?_
 refine hl_v rfl rfl rfl (rv_load rfl (by kernel_rfl) rfl (box_cell 0 rfl rfl)) ?_
 refine hl_callV rfl rfl rfl (rq_call (by kernel_rfl) rfl (fun w hm => ret_ans (eqLutR_yes _ _ _ _ w (ha.n.lt.below hm.bel) (hb.n.lt.below hm.bel) hs.ls hz.ls))) ?_
 refine hl_v rfl rfl rfl (rv_ev rfl) ?_
 refine hl_less (sx 0 rfl (sx 1 rfl (sx 2 rfl (sx 3 rfl (sx 4 rfl (sx 9 rfl (sx 15 rfl (sx 21 rfl (sub_nil _))))))))) (.refl _) ?_
 refine hl_nil ?_
 refine hq_then ?_
 refine hc_false rfl ?_
 refine hc_skip ?_
 refine hq_then ?_
 refine hc_seq ?_
 refine hc_seq ?_
 refine hc_region ?_
 refine hl_v rfl rfl rfl (rv_field (k0 := 3) rfl (by kernel_rfl) rfl) ?_
 refine hl_v rfl rfl rfl (rv_load rfl (by kernel_rfl) rfl (box_cell 1 rfl rfl)) ?_
 refine hl_v rfl rfl rfl (rv_field (k0 := 3) rfl (by kernel_rfl) rfl) ?_
 refine hl_v rfl rfl rfl (rv_load rfl (by kernel_rfl) rfl (box_cell 0 rfl rfl)) ?_
 refine hl_callV rfl rfl rfl (rq_call (by kernel_rfl) rfl (fun w hm => ret_ans (eqIntS_ans a.n.os b.n.os _ _ w ((rd_old ((ha).n.ou)) w hm) ((rd_old ((hb).n.ou)) w hm) (by omega)))) ?_
 refine hl_bool (fun h4 => ?_) (fun h4 => absurd (((decide_eq_true (by first | rfl | assumption | (symm; assumption)))).symm.trans h4) (by decide))
 refine hl_v rfl rfl rfl (rv_ev rfl) ?_
 refine hl_less (sx 0 rfl (sx 1 rfl (sx 2 rfl (sx 3 rfl (sx 4 rfl (sx 9 rfl (sx 15 rfl (sx 21 rfl (sx 27 rfl (sub_nil _)))))))))) (.refl _) ?_
 refine hl_nil ?_
 refine hq_then ?_
 refine hc_false rfl ?_
 refine hc_skip ?_
 refine hq_then ?_
 refine hc_seq ?_
 refine hc_region ?_
 refine hl_v rfl rfl rfl (rv_ev rfl) ?_
 refine hl_less (sx 0 rfl (sx 1 rfl (sx 2 rfl (sx 3 rfl (sx 4 rfl (sx 9 rfl (sx 15 rfl (sx 21 rfl (sx 27 rfl (sub_nil _)))))))))) (.refl _) ?_
 refine hl_nil ?_
 refine hq_then ?_
 refine hc_ret ?_
 exact hq_ans rfl rfl rfl
set_option maxHeartbeats 4000000 in
set_option maxRecDepth 100000 in
theorem eqTimed_yes (a b : Td) (w : World) (ha : RdsTd w a) (hb : RdsTd w b) (hs : Same b a) (hz : SzTd a) :
  Calls Try.prog 14 #[.agg #[.int .i64 a.n.ins, a.n.sv, a.n.lv, a.n.ov, a.pv, a.qv, a.kv, a.av, a.bv, .int .i64 a.oi, .int .i64 a.ni], .agg #[.int .i64 b.n.ins, b.n.sv, b.n.lv, b.n.ov, b.pv, b.qv, b.kv, b.av, b.bv, .int .i64 b.oi, .int .i64 b.ni]] w (Ans w (.bool true)) := by
 have z1 := hz.os
 have z2 := hz.ks
 have z3 := hz.ao
 have z4 := hz.bs
 have q1 := hs.ins
 have q2 := hs.os
 have q3 := hs.ks
 have q4 := hs.ao
 have q5 := hs.bs
 have q6 := hs.oi
 have q7 := hs.ni
 refine calls_hc (N := 45) (args := [.agg #[.int .i64 a.n.ins, a.n.sv, a.n.lv, a.n.ov, a.pv, a.qv, a.kv, a.av, a.bv, .int .i64 a.oi, .int .i64 a.ni], .agg #[.int .i64 b.n.ins, b.n.sv, b.n.lv, b.n.ov, b.pv, b.qv, b.kv, b.av, b.bv, .int .i64 b.oi, .int .i64 b.ni]]) Try.func14 rfl rfl ?_
 refine hc_less _ (sx 0 rfl (sx 1 rfl (sub_nil _))) (.refl _) ?_
 refine hc_seq ?_
 refine hc_region ?_
 refine hl_box rfl rfl rfl (rq_box rfl rfl) ?_
 intro b1
 refine hl_box rfl rfl rfl (rq_box rfl rfl) ?_
 intro b2
 refine hl_v rfl rfl rfl (rv_ev rfl) ?_
 refine hl_less (sx 0 rfl (sx 1 rfl (sx 2 rfl (sx 3 rfl (sx 4 rfl (sub_nil _)))))) (.refl _) ?_
 refine hl_nil ?_
 refine hq_then ?_
 refine hc_seq ?_
 refine hc_seq ?_
 refine hc_region ?_
 refine hl_v rfl rfl rfl (rv_field (k0 := 0) rfl (by kernel_rfl) rfl) ?_
 refine hl_v rfl rfl rfl (rv_loadN (cs := [.int .i64 a.n.ins, a.n.sv, a.n.lv, a.n.ov]) rfl (by kernel_rfl) (by kernel_rfl) rfl rfl (box_part 1 rfl 0 rfl)) ?_
 refine hl_v rfl rfl rfl (rv_field (k0 := 0) rfl (by kernel_rfl) rfl) ?_
 refine hl_v rfl rfl rfl (rv_loadN (cs := [.int .i64 b.n.ins, b.n.sv, b.n.lv, b.n.ov]) rfl (by kernel_rfl) (by kernel_rfl) rfl rfl (box_part 0 rfl 0 rfl)) ?_
 refine hl_callV rfl rfl rfl (rq_call (by kernel_rfl) rfl (fun w hm => ret_ans (eqLutNet_yes a b w (ha.below hm.bel) (hb.below hm.bel) hs hz))) ?_
 refine hl_v rfl rfl rfl (rv_ev rfl) ?_
 refine hl_less (sx 0 rfl (sx 1 rfl (sx 2 rfl (sx 3 rfl (sx 4 rfl (sx 10 rfl (sub_nil _))))))) (.refl _) ?_
 refine hl_nil ?_
 refine hq_then ?_
 refine hc_false rfl ?_
 refine hc_skip ?_
 refine hq_then ?_
 refine hc_seq ?_
 refine hc_seq ?_
 refine hc_region ?_
 refine hl_v rfl rfl rfl (rv_field (k0 := 4) rfl (by kernel_rfl) rfl) ?_
 refine hl_v rfl rfl rfl (rv_loadN (cs := [a.pv, a.qv]) rfl (by kernel_rfl) (by kernel_rfl) rfl rfl (box_part 1 rfl 4 rfl)) ?_
 refine hl_v rfl rfl rfl (rv_field (k0 := 4) rfl (by kernel_rfl) rfl) ?_
 refine hl_v rfl rfl rfl (rv_loadN (cs := [b.pv, b.qv]) rfl (by kernel_rfl) (by kernel_rfl) rfl rfl (box_part 0 rfl 4 rfl)) ?_
 refine hl_callV rfl rfl rfl (rq_call (by kernel_rfl) rfl (fun w hm => ret_ans (eqDelays_yes a b w (ha.below hm.bel) (hb.below hm.bel) hs hz))) ?_
 refine hl_v rfl rfl rfl (rv_ev rfl) ?_
 refine hl_less (sx 0 rfl (sx 1 rfl (sx 2 rfl (sx 3 rfl (sx 4 rfl (sx 10 rfl (sx 16 rfl (sub_nil _)))))))) (.refl _) ?_
 refine hl_nil ?_
 refine hq_then ?_
 refine hc_false rfl ?_
 refine hc_skip ?_
 refine hq_then ?_
 refine hc_seq ?_
 refine hc_seq ?_
 refine hc_region ?_
 refine hl_v rfl rfl rfl (rv_field (k0 := 6) rfl (by kernel_rfl) rfl) ?_
 refine hl_v rfl rfl rfl (rv_load rfl (by kernel_rfl) rfl (box_cell 1 rfl rfl)) ?_
 refine hl_v rfl rfl rfl (rv_field (k0 := 6) rfl (by kernel_rfl) rfl) ?_
 refine hl_v rfl rfl rfl (rv_load rfl (by kernel_rfl) rfl (box_cell 0 rfl rfl)) ?_
 refine hl_callV rfl rfl rfl (rq_call (by kernel_rfl) rfl (fun w hm => ret_ans (eqIntS_ans a.ks b.ks _ _ w ((rd_old ((ha).ks)) w hm) ((rd_old ((hb).ks)) w hm) (by omega)))) ?_
 refine hl_bool (fun h3 => ?_) (fun h3 => absurd (((decide_eq_true (by first | rfl | assumption | (symm; assumption)))).symm.trans h3) (by decide))
 refine hl_v rfl rfl rfl (rv_ev rfl) ?_
 refine hl_less (sx 0 rfl (sx 1 rfl (sx 2 rfl (sx 3 rfl (sx 4 rfl (sx 10 rfl (sx 16 rfl (sx 22 rfl (sub_nil _))))))))) (.refl _) ?_
 refine hl_nil ?_
 refine hq_then ?_
 refine hc_false rfl ?_
 refine hc_skip ?_
 refine hq_then ?_
 refine hc_seq ?_
 refine hc_seq ?_
 refine hc_region ?_
 refine hl_v rfl rfl rfl (rv_field (k0 := 7) rfl (by kernel_rfl) rfl) ?_
 refine hl_v rfl rfl rfl (rv_load rfl (by kernel_rfl) rfl (box_cell 1 rfl rfl)) ?_
 refine hl_v rfl rfl rfl (rv_field (k0 := 7) rfl (by kernel_rfl) rfl) ?_
 refine hl_v rfl rfl rfl (rv_load rfl (by kernel_rfl) rfl (box_cell 0 rfl rfl)) ?_
 refine hl_callV rfl rfl rfl (rq_call (by kernel_rfl) rfl (fun w hm => ret_ans (eqIntS_ans a.ao b.ao _ _ w ((rd_old ((ha).ao)) w hm) ((rd_old ((hb).ao)) w hm) (by omega)))) ?_
 refine hl_bool (fun h4 => ?_) (fun h4 => absurd (((decide_eq_true (by first | rfl | assumption | (symm; assumption)))).symm.trans h4) (by decide))
 refine hl_v rfl rfl rfl (rv_ev rfl) ?_
 refine hl_less (sx 0 rfl (sx 1 rfl (sx 2 rfl (sx 3 rfl (sx 4 rfl (sx 10 rfl (sx 16 rfl (sx 22 rfl (sx 28 rfl (sub_nil _)))))))))) (.refl _) ?_
 refine hl_nil ?_
 refine hq_then ?_
 refine hc_false rfl ?_
 refine hc_skip ?_
 refine hq_then ?_
 refine hc_seq ?_
 refine hc_seq ?_
 refine hc_region ?_
 refine hl_v rfl rfl rfl (rv_field (k0 := 8) rfl (by kernel_rfl) rfl) ?_
 refine hl_v rfl rfl rfl (rv_load rfl (by kernel_rfl) rfl (box_cell 1 rfl rfl)) ?_
 refine hl_v rfl rfl rfl (rv_field (k0 := 8) rfl (by kernel_rfl) rfl) ?_
 refine hl_v rfl rfl rfl (rv_load rfl (by kernel_rfl) rfl (box_cell 0 rfl rfl)) ?_
 refine hl_callV rfl rfl rfl (rq_call (by kernel_rfl) rfl (fun w hm => ret_ans (eqIntS_ans a.bs b.bs _ _ w ((rd_old ((ha).bs)) w hm) ((rd_old ((hb).bs)) w hm) (by omega)))) ?_
 refine hl_bool (fun h5 => ?_) (fun h5 => absurd (((decide_eq_true (by first | rfl | assumption | (symm; assumption)))).symm.trans h5) (by decide))
 refine hl_v rfl rfl rfl (rv_ev rfl) ?_
 refine hl_less (sx 0 rfl (sx 1 rfl (sx 2 rfl (sx 3 rfl (sx 4 rfl (sx 10 rfl (sx 16 rfl (sx 22 rfl (sx 28 rfl (sx 34 rfl (sub_nil _))))))))))) (.refl _) ?_
 refine hl_nil ?_
 refine hq_then ?_
 refine hc_false rfl ?_
 refine hc_skip ?_
 refine hq_then ?_
 refine hc_seq ?_
 refine hc_seq ?_
 refine hc_region ?_
 refine hl_v rfl rfl rfl (rv_field (k0 := 9) rfl (by kernel_rfl) rfl) ?_
 refine hl_v rfl rfl rfl (rv_load rfl (by kernel_rfl) rfl (box_cell 1 rfl rfl)) ?_
 refine hl_v rfl rfl rfl (rv_field (k0 := 9) rfl (by kernel_rfl) rfl) ?_
 refine hl_v rfl rfl rfl (rv_load rfl (by kernel_rfl) rfl (box_cell 0 rfl rfl)) ?_
 refine hl_neq rfl rfl rfl rfl rfl rfl (fun h6 => absurd h6 (by omega)) (fun h6 => ?_)
 refine hl_less (sx 0 rfl (sx 1 rfl (sx 2 rfl (sx 3 rfl (sx 4 rfl (sx 10 rfl (sx 16 rfl (sx 22 rfl (sx 28 rfl (sx 34 rfl (sx 39 rfl (sub_nil _)))))))))))) (.refl _) ?_
 refine hl_nil ?_
 refine hq_then ?_
 refine hc_false rfl ?_
 refine hc_skip ?_
 refine hq_then ?_
 refine hc_seq ?_
 refine hc_seq ?_
 refine hc_region ?_
 refine hl_v rfl rfl rfl (rv_field (k0 := 10) rfl (by kernel_rfl) rfl) ?_
 refine hl_v rfl rfl rfl (rv_load rfl (by kernel_rfl) rfl (box_cell 1 rfl rfl)) ?_
 refine hl_v rfl rfl rfl (rv_field (k0 := 10) rfl (by kernel_rfl) rfl) ?_
 refine hl_v rfl rfl rfl (rv_load rfl (by kernel_rfl) rfl (box_cell 0 rfl rfl)) ?_
 refine hl_neq rfl rfl rfl rfl rfl rfl (fun h7 => absurd h7 (by omega)) (fun h7 => ?_)
 refine hl_less (sx 0 rfl (sx 1 rfl (sx 2 rfl (sx 3 rfl (sx 4 rfl (sx 10 rfl (sx 16 rfl (sx 22 rfl (sx 28 rfl (sx 34 rfl (sx 39 rfl (sx 44 rfl (sub_nil _))))))))))))) (.refl _) ?_
 refine hl_nil ?_
 refine hq_then ?_
 refine hc_false rfl ?_
 refine hc_skip ?_
 refine hq_then ?_
 refine hc_seq ?_
 refine hc_region ?_
 refine hl_v rfl rfl rfl (rv_ev rfl) ?_
 refine hl_less (sx 0 rfl (sx 1 rfl (sx 2 rfl (sx 3 rfl (sx 4 rfl (sx 10 rfl (sx 16 rfl (sx 22 rfl (sx 28 rfl (sx 34 rfl (sx 39 rfl (sx 44 rfl (sub_nil _))))))))))))) (.refl _) ?_
 refine hl_nil ?_
 refine hq_then ?_
 refine hc_ret ?_
 exact hq_ans rfl rfl rfl
open Go.RowKit
theorem cv_focus {α : Type} {part : α → HP} {w0 : World} {l : List HP} {zs : List α} {j : Nat} {d : α} (h : j < zs.length) : Conv w0 (bigE (zs.map part) :: l) (part (zs.getD j d) :: bigE ((zs.map part).eraseIdx j) :: l) :=
  conv_focus (by rw [List.getElem?_map, getD_at h (d := d)]; rfl)
theorem cv_unfocus {α : Type} {part : α → HP} {w0 : World} {l : List HP} {zs : List α} {j : Nat} {e : α} (h : j < zs.length) : Conv w0 (part e :: bigE ((zs.map part).eraseIdx j) :: l) (bigE ((zs.set j e).map part) :: l) := fun w hm => by
  rw [List.map_set]; exact conv_unfocus (by rw [List.length_map]; exact h) w hm
theorem len_set2 {α : Type} {xs : α → List Int} {zs : List α} {j : Nat} {e d : α} {N : Nat} (hj : j < zs.length) (he : (xs e).length ≤ N) (h : ∀ i, i < zs.length → (xs (zs.getD i d)).length ≤ N) : ∀ i, i < (zs.set j e).length → (xs ((zs.set j e).getD i d)).length ≤ N := fun i hi => by
  rw [List.length_set] at hi
  by_cases hij : i = j
  · subst hij; rw [set_selfG hj]; exact he
  · rw [set_neG (fun h => hij h.symm)]; exact h i hi
set_option maxHeartbeats 4000000 in
set_option maxRecDepth 100000 in
theorem markSeqR_mut (es : List Sq) (k : Int) (v : Value) (w0 : World) (l : List HP) (w : World) (hm0 : Mem w0 (sqsE v es :: l) w) (hk : -100000000000000 ≤ k ∧ k ≤ 100000000000000) (hz : es.length ≤ 1048576 ∧ ∀ s ∈ es, s.xs.length ≤ 1048576) :
  Calls Try.prog 82 #[v, .int .i64 k] w (fun e_ w_ => ∃ v_ p_, e_ = .returned v_ ∧ (fun u_ p_ => ∃ q : Int, u_ = .int .i64 q ∧ k ≤ q ∧ q ≤ k + es.length * 1048579) v_ p_ ∧ Mem w0 (p_ :: l) w_) := by
 obtain ⟨hz1, hz2⟩ := hz
 refine calls_hcM (N := 34) (args := [v, .int .i64 k]) Try.func82 rfl rfl (l := (bigE (es.map sqPart) :: rowE 71 3 v es.length (es.flatMap sqC) :: l)) hm0.unbig ?_
 refine hc_less _ (sx 0 rfl (sx 1 rfl (sub_nil _))) (.refl _) ?_
 refine hc_seq ?_
 refine hc_region ?_
 refine hl_v rfl rfl rfl (rv_ev rfl) ?_
 refine hl_less (sx 0 rfl (sx 1 rfl (sx 4 rfl (sub_nil _)))) (.refl _) ?_
 refine hl_nil ?_
 refine hq_then ?_
 refine hc_seq ?_
 refine hc_seq ?_
 refine hc_region ?_
 refine hl_v rfl rfl rfl (rv_ev rfl) ?_
 refine hl_less (sx 0 rfl (sx 1 rfl (sx 4 rfl (sx 5 rfl (sub_nil _))))) (.refl _) ?_
 refine hl_nil ?_
 refine hq_then ?_
 refine hc_block ?_
 refine hc_loop3 (α := Nat) (β := Int) (γ := List Sq) (fun j q zs => (bigE (zs.map sqPart) :: rowE 71 3 v zs.length (zs.flatMap sqC) :: l)) (fun j q zs => [(0, v), (1, .int .i64 q), (4, .int .i64 0), (5, .int .i64 (j : Int))]) (fun j q zs => j ≤ es.length ∧ zs.length = es.length ∧ (∀ i, i < zs.length → (zs.getD i sq0).xs.length ≤ 1048576) ∧ k ≤ q ∧ q ≤ k + j * 1048579) (fun j q zs => es.length - j) 0 k es ⟨by omega, rfl, fun i hi => hz2 _ (getD_memX hi), by omega, by omega⟩ (sx 0 rfl (sx 1 rfl (sx 4 rfl (sx 5 rfl (sub_nil _))))) ((.cons_cons _ (.cons_cons _ (.refl _)))) ?_
 intro j q zs hi1
 obtain ⟨hj, hzl, hzx, hq1, hq2⟩ := hi1
 refine hc_seq ?_
 refine hc_seq ?_
 refine hc_region ?_
 refine hl_v rfl rfl rfl (rv_ev rfl) ?_
 refine hl_v rfl rfl rfl (rv_ev rfl) ?_
 refine hl_v rfl rfl rfl (rv_len rfl Try.underlying34 rfl (rd_row 1 rfl)) ?_
 refine hl_lss rfl rfl rfl rfl rfl rfl (fun h2 => ?_) (fun h2 => ?_)
 ·
  refine hl_less (sx 0 rfl (sx 1 rfl (sx 4 rfl (sx 5 rfl (sx 9 rfl (sub_nil _)))))) (.refl _) ?_
  refine hl_nil ?_
  refine hq_then ?_
  refine hc_true rfl ?_
  refine hc_skip ?_
  refine hq_then ?_
  refine hc_seq ?_
  refine hc_block ?_
  refine hc_seq ?_
  refine hc_region ?_
  refine hl_v rfl rfl rfl (rv_ev rfl) ?_
  refine hl_v rfl rfl rfl (rv_ev rfl) ?_
  refine hl_v rfl rfl rfl (rv_ev rfl) ?_
  refine hl_v rfl rfl rfl (rv_index (s := 3) rfl Try.underlying34 (by kernel_rfl) rfl rfl (rd_row 1 rfl) (by omega) (by first | omega | (simp only [List.length_set]; omega))) ?_
  refine hl_v rfl rfl rfl (rv_fieldEl (k0 := 0) rfl (by kernel_rfl) rfl (rd_row 1 rfl) (by first | omega | (simp only [List.length_set]; omega))) ?_
  refine hl_storeEl (i := 1) (n' := (zs.set j { zs.getD j sq0 with kd := q }).length) (xs' := ((zs.set j { zs.getD j sq0 with kd := q }).flatMap sqC)) (l' := (bigE (zs.map sqPart) :: rowE 71 3 v ((zs.set j { zs.getD j sq0 with kd := q }).length) ((zs.set j { zs.getD j sq0 with kd := q }).flatMap sqC) :: l)) rfl rfl rfl (by kernel_rfl) rfl rfl rfl rfl (by first | omega | (simp only [List.length_set]; omega)) List.length_set.symm (flat_set sqC 3 (fun _ => rfl) _ sq0 _ (by first | omega | (simp only [List.length_set]; omega)) (by decide) rfl) rfl ?_
  refine hl_less (sx 0 rfl (sx 1 rfl (sx 4 rfl (sx 5 rfl (sx 9 rfl (sub_nil _)))))) (.refl _) ?_
  refine hl_nil ?_
  refine hq_then ?_
  refine hc_seq ?_
  refine hc_region ?_
  refine hl_v rfl rfl rfl (rv_ev rfl) ?_
  refine hl_v rfl rfl rfl (rv_add rfl rfl rfl (by constructor <;> omega)) ?_
  refine hl_v rfl rfl rfl (rv_ev rfl) ?_
  refine hl_less (sx 0 rfl (sx 1 rfl (sx 4 rfl (sx 5 rfl (sx 9 rfl (sub_nil _)))))) (.refl _) ?_
  refine hl_nil ?_
  refine hq_then ?_
  refine hc_seq ?_
  refine hc_region ?_
  refine hl_v rfl rfl rfl (rv_ev rfl) ?_
  refine hl_v rfl rfl rfl (rv_ev rfl) ?_
  refine hl_v rfl rfl rfl (rv_ev rfl) ?_
  refine hl_v rfl rfl rfl (rv_index (s := 3) rfl Try.underlying34 (by kernel_rfl) rfl rfl (rd_row 1 rfl) (by omega) (by first | omega | (simp only [List.length_set]; omega))) ?_
  refine hl_v rfl rfl rfl (rv_fieldEl (k0 := 1) rfl (by kernel_rfl) rfl (rd_row 1 rfl) (by first | omega | (simp only [List.length_set]; omega))) ?_
  refine hl_storeEl (i := 1) (n' := ((zs.set j { zs.getD j sq0 with kd := q }).set j { (zs.set j { zs.getD j sq0 with kd := q }).getD j sq0 with it := q + 1 }).length) (xs' := (((zs.set j { zs.getD j sq0 with kd := q }).set j { (zs.set j { zs.getD j sq0 with kd := q }).getD j sq0 with it := q + 1 }).flatMap sqC)) (l' := (bigE (zs.map sqPart) :: rowE 71 3 v (((zs.set j { zs.getD j sq0 with kd := q }).set j { (zs.set j { zs.getD j sq0 with kd := q }).getD j sq0 with it := q + 1 }).length) (((zs.set j { zs.getD j sq0 with kd := q }).set j { (zs.set j { zs.getD j sq0 with kd := q }).getD j sq0 with it := q + 1 }).flatMap sqC) :: l)) rfl rfl rfl (by kernel_rfl) rfl rfl rfl rfl (by first | omega | (simp only [List.length_set]; omega)) List.length_set.symm (flat_set sqC 3 (fun _ => rfl) _ sq0 _ (by first | omega | (simp only [List.length_set]; omega)) (by decide) rfl) rfl ?_
  refine hl_less (sx 0 rfl (sx 1 rfl (sx 4 rfl (sx 5 rfl (sx 9 rfl (sub_nil _)))))) (.refl _) ?_
  refine hl_nil ?_
  refine hq_then ?_
  refine hc_seq ?_
  refine hc_region ?_
  refine hl_v rfl rfl rfl (rv_ev rfl) ?_
  refine hl_v rfl rfl rfl (rv_add rfl rfl rfl (by constructor <;> omega)) ?_
  refine hl_v rfl rfl rfl (rv_ev rfl) ?_
  refine hl_less (sx 0 rfl (sx 1 rfl (sx 4 rfl (sx 5 rfl (sx 9 rfl (sub_nil _)))))) (.refl _) ?_
  refine hl_nil ?_
  refine hq_then ?_
  refine hc_region ?_
  refine hl_v rfl rfl rfl (rv_ev rfl) ?_
  refine hl_v rfl rfl rfl (rv_ev rfl) ?_
  refine hl_v rfl rfl rfl (rv_index (s := 3) rfl Try.underlying34 (by kernel_rfl) rfl rfl (rd_row 1 rfl) (by omega) (by first | omega | (simp only [List.length_set]; omega))) ?_
  refine hl_v rfl rfl rfl (rv_fieldEl (k0 := 2) rfl (by kernel_rfl) rfl (rd_row 1 rfl) (by first | omega | (simp only [List.length_set]; omega))) ?_
  refine hl_v rfl rfl rfl (rv_loadEl (u := (((zs.set j { zs.getD j sq0 with kd := q }).set j { (zs.set j { zs.getD j sq0 with kd := q }).getD j sq0 with it := q + 1 }).getD j sq0).iv) rfl (by kernel_rfl) rfl (rd_row 1 rfl) ((flat_at sqC 3 (fun _ => rfl) ((zs.set j { zs.getD j sq0 with kd := q }).set j { (zs.set j { zs.getD j sq0 with kd := q }).getD j sq0 with it := q + 1 }) sq0 (show j < _ by first | omega | (simp only [List.length_set]; omega)) (by decide)).trans rfl)) ?_
  refine hl_v rfl rfl rfl (rv_ev rfl) ?_
  have hiv9 : (((zs.set j { zs.getD j sq0 with kd := q }).set j { (zs.set j { zs.getD j sq0 with kd := q }).getD j sq0 with it := q + 1 }).getD j sq0).iv = (zs.getD j sq0).iv := by
   rw [set_selfG (by rw [List.length_set]; omega)]
   show ((zs.set j _).getD j sq0).iv = _
   rw [set_selfG (by omega)]
  rw [hiv9]
  have hxl := hzx j (by omega)
  refine hl_conv (rowE 3 1 ((zs.getD j sq0).iv) (((zs.getD j sq0).xs).length) (((zs.getD j sq0).xs).map (Value.int .i64)) :: bigE ((zs.map sqPart).eraseIdx j) :: rowE 71 3 v (((zs.set j { zs.getD j sq0 with kd := q }).set j { (zs.set j { zs.getD j sq0 with kd := q }).getD j sq0 with it := q + 1 }).length) (((zs.set j { zs.getD j sq0 with kd := q }).set j { (zs.set j { zs.getD j sq0 with kd := q }).getD j sq0 with it := q + 1 }).flatMap sqC) :: l) (cv_focus (part := sqPart) (zs := zs) (d := sq0) (by omega)) ?_
  refine hl_callM (R := (fun u_ p_ => u_ = .int .i64 ((q + 1) + 1 + ((zs.getD j sq0).xs).length) ∧ p_ = rowE 3 1 ((zs.getD j sq0).iv) ((zs.getD j sq0).xs).length ((seqL ((q + 1) + 1) ((zs.getD j sq0).xs).length).map (Value.int .i64)))) 0 rfl rfl (by kernel_rfl) rfl rfl (fun l' w hm => markIntS_mut ((zs.getD j sq0).xs) ((q + 1) + 1) ((zs.getD j sq0).iv) _ _ w hm (by omega) (by omega)) ?_
  intro v3 p4 hR5
  obtain ⟨rfl, rfl⟩ := hR5
  refine hl_eqL (l' := (rowE 3 1 ((zs.getD j sq0).iv) (((zs.getD j sq0).xs).length) ((seqL ((q + 1) + 1) ((zs.getD j sq0).xs).length).map (Value.int .i64)) :: bigE ((zs.map sqPart).eraseIdx j) :: rowE 71 3 v (((zs.set j { zs.getD j sq0 with kd := q }).set j { (zs.set j { zs.getD j sq0 with kd := q }).getD j sq0 with it := q + 1 }).length) (((zs.set j { zs.getD j sq0 with kd := q }).set j { (zs.set j { zs.getD j sq0 with kd := q }).getD j sq0 with it := q + 1 }).flatMap sqC) :: l)) rfl ?_
  refine hl_v rfl rfl rfl (rv_ev rfl) ?_
  refine hl_less (sx 0 rfl (sx 1 rfl (sx 4 rfl (sx 5 rfl (sx 9 rfl (sub_nil _)))))) (.refl _) ?_
  refine hl_nil ?_
  refine hq_block_normal ?_
  refine hq_then ?_
  refine hc_region ?_
  refine hl_v rfl rfl rfl (rv_ev rfl) ?_
  refine hl_v rfl rfl rfl (rv_add rfl rfl rfl (by constructor <;> omega)) ?_
  refine hl_v rfl rfl rfl (rv_ev rfl) ?_
  refine hl_less (sx 0 rfl (sx 1 rfl (sx 4 rfl (sx 5 rfl (sx 9 rfl (sub_nil _)))))) (.refl _) ?_
  refine hl_nil ?_
  have hc1 : ((zs.set j { zs.getD j sq0 with kd := q }).set j { (zs.set j { zs.getD j sq0 with kd := q }).getD j sq0 with it := q + 1 }).flatMap sqC = (zs.set j (Sq.mk q (q + 1) (zs.getD j sq0).iv (seqL ((q + 1) + 1) ((zs.getD j sq0).xs).length))).flatMap sqC := by
   rw [List.set_set]; exact set_flat _ _ _ _ _ (by rw [set_selfG (by omega)]; rfl)
  have hc2 : ((zs.set j { zs.getD j sq0 with kd := q }).set j { (zs.set j { zs.getD j sq0 with kd := q }).getD j sq0 with it := q + 1 }).length = (zs.set j (Sq.mk q (q + 1) (zs.getD j sq0).iv (seqL ((q + 1) + 1) ((zs.getD j sq0).xs).length))).length := by simp only [List.length_set]
  refine hq_conv (bigE ((zs.set j (Sq.mk q (q + 1) (zs.getD j sq0).iv (seqL ((q + 1) + 1) ((zs.getD j sq0).xs).length))).map sqPart) :: rowE 71 3 v ((zs.set j (Sq.mk q (q + 1) (zs.getD j sq0).iv (seqL ((q + 1) + 1) ((zs.getD j sq0).xs).length))).length) ((zs.set j (Sq.mk q (q + 1) (zs.getD j sq0).iv (seqL ((q + 1) + 1) ((zs.getD j sq0).xs).length))).flatMap sqC) :: l) (fun w hm => by have hm2 := cv_unfocus (part := sqPart) (zs := zs) (j := j) (e := (Sq.mk q (q + 1) (zs.getD j sq0).iv (seqL ((q + 1) + 1) ((zs.getD j sq0).xs).length))) (by omega) w (by simpa only [sqPart, seqL_len] using hm); rw [hc1, hc2] at hm2; exact hm2) ?_
  exact hq_round3 (j + 1) _ _ ⟨by omega, by rw [List.length_set]; exact hzl, len_set2 (xs := Sq.xs) (by omega) (by show (seqL _ _).length ≤ _; rw [seqL_len]; exact hxl) hzx, by omega, by omega⟩ (by omega) (sx 0 rfl (sx 1 rfl (sx 4 rfl (sx 5 rfl (sub_nil _))))) ((.cons_cons _ (.cons_cons _ (.refl _))))
 ·
  refine hl_less (sx 0 rfl (sx 1 rfl (sx 4 rfl (sx 5 rfl (sx 9 rfl (sub_nil _)))))) (.refl _) ?_
  refine hl_nil ?_
  refine hq_then ?_
  refine hc_false rfl ?_
  refine hc_exit ?_
  refine hq_then_exit ?_
  refine hq_then_exit ?_
  refine hq_block_exit ?_
  refine hq_then ?_
  refine hc_seq ?_
  refine hc_region ?_
  refine hl_v rfl rfl rfl (rv_ev rfl) ?_
  refine hl_v rfl rfl rfl (rv_ev rfl) ?_
  refine hl_less (sx 0 rfl (sx 1 rfl (sx 4 rfl (sx 5 rfl (sx 9 rfl (sub_nil _)))))) (.refl _) ?_
  refine hl_nil ?_
  refine hq_then ?_
  refine hc_ret ?_
  refine hq_conv (sqsE v zs :: l) (conv_big (ps := [bigE (zs.map sqPart), rowE 71 3 v zs.length (zs.flatMap sqC)])) ?_
  exact hq_retMut (p' := sqsE v zs) rfl rfl (.refl _) ⟨_, rfl, by omega, by omega⟩
set_option maxHeartbeats 4000000 in
set_option maxRecDepth 100000 in
theorem markLutR_mut (es : List Lt) (k : Int) (v : Value) (w0 : World) (l : List HP) (w : World) (hm0 : Mem w0 (ltsE v es :: l) w) (hk : -100000000000000 ≤ k ∧ k ≤ 100000000000000) (hz : es.length ≤ 1048576 ∧ ∀ s ∈ es, s.xs.length ≤ 1048576) :
  Calls Try.prog 83 #[v, .int .i64 k] w (fun e_ w_ => ∃ v_ p_, e_ = .returned v_ ∧ (fun u_ p_ => ∃ q : Int, u_ = .int .i64 q ∧ k ≤ q ∧ q ≤ k + es.length * 1048579) v_ p_ ∧ Mem w0 (p_ :: l) w_) := by
 obtain ⟨hz1, hz2⟩ := hz
 refine calls_hcM (N := 27) (args := [v, .int .i64 k]) Try.func83 rfl rfl (l := (bigE (es.map ltPart) :: rowE 69 2 v es.length (es.flatMap ltC) :: l)) hm0.unbig ?_
 refine hc_less _ (sx 0 rfl (sx 1 rfl (sub_nil _))) (.refl _) ?_
 refine hc_seq ?_
 refine hc_region ?_
 refine hl_v rfl rfl rfl (rv_ev rfl) ?_
 refine hl_less (sx 0 rfl (sx 1 rfl (sx 4 rfl (sub_nil _)))) (.refl _) ?_
 refine hl_nil ?_
 refine hq_then ?_
 refine hc_seq ?_
 refine hc_seq ?_
 refine hc_region ?_
 refine hl_v rfl rfl rfl (rv_ev rfl) ?_
 refine hl_less (sx 0 rfl (sx 1 rfl (sx 4 rfl (sx 5 rfl (sub_nil _))))) (.refl _) ?_
 refine hl_nil ?_
 refine hq_then ?_
 refine hc_block ?_
 refine hc_loop3 (α := Nat) (β := Int) (γ := List Lt) (fun j q zs => (bigE (zs.map ltPart) :: rowE 69 2 v zs.length (zs.flatMap ltC) :: l)) (fun j q zs => [(0, v), (1, .int .i64 q), (4, .int .i64 0), (5, .int .i64 (j : Int))]) (fun j q zs => j ≤ es.length ∧ zs.length = es.length ∧ (∀ i, i < zs.length → (zs.getD i lt0).xs.length ≤ 1048576) ∧ k ≤ q ∧ q ≤ k + j * 1048579) (fun j q zs => es.length - j) 0 k es ⟨by omega, rfl, fun i hi => hz2 _ (getD_memX hi), by omega, by omega⟩ (sx 0 rfl (sx 1 rfl (sx 4 rfl (sx 5 rfl (sub_nil _))))) ((.cons_cons _ (.cons_cons _ (.refl _)))) ?_
 intro j q zs hi1
 obtain ⟨hj, hzl, hzx, hq1, hq2⟩ := hi1
 refine hc_seq ?_
 refine hc_seq ?_
 refine hc_region ?_
 refine hl_v rfl rfl rfl (rv_ev rfl) ?_
 refine hl_v rfl rfl rfl (rv_ev rfl) ?_
 refine hl_v rfl rfl rfl (rv_len rfl Try.underlying35 rfl (rd_row 1 rfl)) ?_
 refine hl_lss rfl rfl rfl rfl rfl rfl (fun h2 => ?_) (fun h2 => ?_)
 ·
  refine hl_less (sx 0 rfl (sx 1 rfl (sx 4 rfl (sx 5 rfl (sx 9 rfl (sub_nil _)))))) (.refl _) ?_
  refine hl_nil ?_
  refine hq_then ?_
  refine hc_true rfl ?_
  refine hc_skip ?_
  refine hq_then ?_
  refine hc_seq ?_
  refine hc_block ?_
  refine hc_seq ?_
  refine hc_region ?_
  refine hl_v rfl rfl rfl (rv_ev rfl) ?_
  refine hl_v rfl rfl rfl (rv_ev rfl) ?_
  refine hl_v rfl rfl rfl (rv_index (s := 2) rfl Try.underlying35 (by kernel_rfl) rfl rfl (rd_row 1 rfl) (by omega) (by first | omega | (simp only [List.length_set]; omega))) ?_
  refine hl_v rfl rfl rfl (rv_fieldEl (k0 := 0) rfl (by kernel_rfl) rfl (rd_row 1 rfl) (by first | omega | (simp only [List.length_set]; omega))) ?_
  refine hl_v rfl rfl rfl (rv_loadEl (u := (zs.getD j lt0).iv) rfl (by kernel_rfl) rfl (rd_row 1 rfl) ((flat_at ltC 2 (fun _ => rfl) zs lt0 (show j < _ by first | omega | (simp only [List.length_set]; omega)) (by decide)).trans rfl)) ?_
  refine hl_v rfl rfl rfl (rv_ev rfl) ?_
  have hxl := hzx j (by omega)
  refine hl_conv (rowE 3 1 ((zs.getD j lt0).iv) (((zs.getD j lt0).xs).length) (((zs.getD j lt0).xs).map (Value.int .i64)) :: bigE ((zs.map ltPart).eraseIdx j) :: rowE 69 2 v zs.length (zs.flatMap ltC) :: l) (cv_focus (part := ltPart) (zs := zs) (d := lt0) (by omega)) ?_
  refine hl_callM (R := (fun u_ p_ => u_ = .int .i64 (q + ((zs.getD j lt0).xs).length) ∧ p_ = rowE 3 1 ((zs.getD j lt0).iv) ((zs.getD j lt0).xs).length ((seqL q ((zs.getD j lt0).xs).length).map (Value.int .i64)))) 0 rfl rfl (by kernel_rfl) rfl rfl (fun l' w hm => markIntS_mut ((zs.getD j lt0).xs) q ((zs.getD j lt0).iv) _ _ w hm (by omega) (by omega)) ?_
  intro v3 p4 hR5
  obtain ⟨rfl, rfl⟩ := hR5
  refine hl_eqL (l' := (rowE 3 1 ((zs.getD j lt0).iv) (((zs.getD j lt0).xs).length) ((seqL q ((zs.getD j lt0).xs).length).map (Value.int .i64)) :: bigE ((zs.map ltPart).eraseIdx j) :: rowE 69 2 v zs.length (zs.flatMap ltC) :: l)) rfl ?_
  refine hl_v rfl rfl rfl (rv_ev rfl) ?_
  refine hl_less (sx 0 rfl (sx 1 rfl (sx 4 rfl (sx 5 rfl (sx 9 rfl (sub_nil _)))))) (.refl _) ?_
  refine hl_nil ?_
  refine hq_then ?_
  refine hc_seq ?_
  refine hc_region ?_
  refine hl_v rfl rfl rfl (rv_ev rfl) ?_
  refine hl_v rfl rfl rfl (rv_ev rfl) ?_
  refine hl_v rfl rfl rfl (rv_ev rfl) ?_
  refine hl_v rfl rfl rfl (rv_index (s := 2) rfl Try.underlying35 (by kernel_rfl) rfl rfl (rd_row 2 rfl) (by omega) (by first | omega | (simp only [List.length_set]; omega))) ?_
  refine hl_v rfl rfl rfl (rv_fieldEl (k0 := 1) rfl (by kernel_rfl) rfl (rd_row 2 rfl) (by first | omega | (simp only [List.length_set]; omega))) ?_
  refine hl_storeEl (i := 2) (n' := (zs.set j { zs.getD j lt0 with ma := q + ((zs.getD j lt0).xs).length }).length) (xs' := ((zs.set j { zs.getD j lt0 with ma := q + ((zs.getD j lt0).xs).length }).flatMap ltC)) (l' := (rowE 3 1 ((zs.getD j lt0).iv) (((zs.getD j lt0).xs).length) ((seqL q ((zs.getD j lt0).xs).length).map (Value.int .i64)) :: bigE ((zs.map ltPart).eraseIdx j) :: rowE 69 2 v ((zs.set j { zs.getD j lt0 with ma := q + ((zs.getD j lt0).xs).length }).length) ((zs.set j { zs.getD j lt0 with ma := q + ((zs.getD j lt0).xs).length }).flatMap ltC) :: l)) rfl rfl rfl (by kernel_rfl) rfl rfl rfl rfl (by first | omega | (simp only [List.length_set]; omega)) List.length_set.symm (flat_set ltC 2 (fun _ => rfl) _ lt0 _ (by first | omega | (simp only [List.length_set]; omega)) (by decide) rfl) rfl ?_
  refine hl_less (sx 0 rfl (sx 1 rfl (sx 4 rfl (sx 5 rfl (sx 9 rfl (sub_nil _)))))) (.refl _) ?_
  refine hl_nil ?_
  refine hq_then ?_
  refine hc_region ?_
  refine hl_v rfl rfl rfl (rv_ev rfl) ?_
  refine hl_v rfl rfl rfl (rv_add rfl rfl rfl (by constructor <;> omega)) ?_
  refine hl_v rfl rfl rfl (rv_ev rfl) ?_
  refine hl_less (sx 0 rfl (sx 1 rfl (sx 4 rfl (sx 5 rfl (sx 9 rfl (sub_nil _)))))) (.refl _) ?_
  refine hl_nil ?_
  refine hq_block_normal ?_
  refine hq_then ?_
  refine hc_region ?_
  refine hl_v rfl rfl rfl (rv_ev rfl) ?_
  refine hl_v rfl rfl rfl (rv_add rfl rfl rfl (by constructor <;> omega)) ?_
  refine hl_v rfl rfl rfl (rv_ev rfl) ?_
  refine hl_less (sx 0 rfl (sx 1 rfl (sx 4 rfl (sx 5 rfl (sx 9 rfl (sub_nil _)))))) (.refl _) ?_
  refine hl_nil ?_
  have hc1 : (zs.set j { zs.getD j lt0 with ma := q + ((zs.getD j lt0).xs).length }).flatMap ltC = (zs.set j (Lt.mk (zs.getD j lt0).iv (seqL q ((zs.getD j lt0).xs).length) (q + (zs.getD j lt0).xs.length))).flatMap ltC := by
   exact set_flat _ _ _ _ _ rfl
  have hc2 : (zs.set j { zs.getD j lt0 with ma := q + ((zs.getD j lt0).xs).length }).length = (zs.set j (Lt.mk (zs.getD j lt0).iv (seqL q ((zs.getD j lt0).xs).length) (q + (zs.getD j lt0).xs.length))).length := by simp only [List.length_set]
  refine hq_conv (bigE ((zs.set j (Lt.mk (zs.getD j lt0).iv (seqL q ((zs.getD j lt0).xs).length) (q + (zs.getD j lt0).xs.length))).map ltPart) :: rowE 69 2 v ((zs.set j (Lt.mk (zs.getD j lt0).iv (seqL q ((zs.getD j lt0).xs).length) (q + (zs.getD j lt0).xs.length))).length) ((zs.set j (Lt.mk (zs.getD j lt0).iv (seqL q ((zs.getD j lt0).xs).length) (q + (zs.getD j lt0).xs.length))).flatMap ltC) :: l) (fun w hm => by have hm2 := cv_unfocus (part := ltPart) (zs := zs) (j := j) (e := (Lt.mk (zs.getD j lt0).iv (seqL q ((zs.getD j lt0).xs).length) (q + (zs.getD j lt0).xs.length))) (by omega) w (by simpa only [ltPart, seqL_len] using hm); rw [hc1, hc2] at hm2; exact hm2) ?_
  exact hq_round3 (j + 1) _ _ ⟨by omega, by rw [List.length_set]; exact hzl, len_set2 (xs := Lt.xs) (by omega) (by show (seqL _ _).length ≤ _; rw [seqL_len]; exact hxl) hzx, by omega, by omega⟩ (by omega) (sx 0 rfl (sx 1 rfl (sx 4 rfl (sx 5 rfl (sub_nil _))))) ((.cons_cons _ (.cons_cons _ (.refl _))))
 ·
  refine hl_less (sx 0 rfl (sx 1 rfl (sx 4 rfl (sx 5 rfl (sx 9 rfl (sub_nil _)))))) (.refl _) ?_
  refine hl_nil ?_
  refine hq_then ?_
  refine hc_false rfl ?_
  refine hc_exit ?_
  refine hq_then_exit ?_
  refine hq_then_exit ?_
  refine hq_block_exit ?_
  refine hq_then ?_
  refine hc_seq ?_
  refine hc_region ?_
  refine hl_v rfl rfl rfl (rv_ev rfl) ?_
  refine hl_v rfl rfl rfl (rv_ev rfl) ?_
  refine hl_less (sx 0 rfl (sx 1 rfl (sx 4 rfl (sx 5 rfl (sx 9 rfl (sub_nil _)))))) (.refl _) ?_
  refine hl_nil ?_
  refine hq_then ?_
  refine hc_ret ?_
  refine hq_conv (ltsE v zs :: l) (conv_big (ps := [bigE (zs.map ltPart), rowE 69 2 v zs.length (zs.flatMap ltC)])) ?_
  exact hq_retMut (p' := ltsE v zs) rfl rfl (.refl _) ⟨_, rfl, by omega, by omega⟩
theorem set_getD_selfG {α : Type} {zs : List α} {j : Nat} {d : α} (hj : j < zs.length) : zs.set j (zs.getD j d) = zs := by
  apply List.ext_getElem? ; intro i
  by_cases h : j = i
  · subst h; rw [List.getElem?_set_self hj, getD_at hj]
  · rw [List.getElem?_set_ne h]
theorem set_ir (zs : List IR) (e : IR) {j : Nat} (hj : j < zs.length) (h : e.v = (zs.getD j ir0).v) : (zs.set j e).flatMap irC = zs.flatMap irC := by
  have h1 := set_flat irC zs j e (zs.getD j ir0) (by show [e.v] = [_]; rw [h])
  rw [h1, set_getD_selfG hj]
set_option maxHeartbeats 4000000 in
set_option maxRecDepth 100000 in
theorem markIntR_mut (es : List IR) (k : Int) (v : Value) (w0 : World) (l : List HP) (w : World) (hm0 : Mem w0 (irsE v es :: l) w) (hk : -100000000000000 ≤ k ∧ k ≤ 100000000000000) (hz : es.length ≤ 1048576 ∧ ∀ s ∈ es, s.xs.length ≤ 1048576) :
  Calls Try.prog 36 #[v, .int .i64 k] w (fun e_ w_ => ∃ v_ p_, e_ = .returned v_ ∧ (fun u_ p_ => ∃ q : Int, u_ = .int .i64 q ∧ k ≤ q ∧ q ≤ k + es.length * 1048579) v_ p_ ∧ Mem w0 (p_ :: l) w_) := by
 obtain ⟨hz1, hz2⟩ := hz
 refine calls_hcM (N := 19) (args := [v, .int .i64 k]) Try.func36 rfl rfl (l := (bigE (es.map irPart) :: rowE 24 1 v es.length (es.flatMap irC) :: l)) hm0.unbig ?_
 refine hc_less _ (sx 0 rfl (sx 1 rfl (sub_nil _))) (.refl _) ?_
 refine hc_seq ?_
 refine hc_region ?_
 refine hl_v rfl rfl rfl (rv_ev rfl) ?_
 refine hl_less (sx 0 rfl (sx 1 rfl (sx 4 rfl (sub_nil _)))) (.refl _) ?_
 refine hl_nil ?_
 refine hq_then ?_
 refine hc_seq ?_
 refine hc_seq ?_
 refine hc_region ?_
 refine hl_v rfl rfl rfl (rv_ev rfl) ?_
 refine hl_less (sx 0 rfl (sx 1 rfl (sx 4 rfl (sx 5 rfl (sub_nil _))))) (.refl _) ?_
 refine hl_nil ?_
 refine hq_then ?_
 refine hc_block ?_
 refine hc_loop3 (α := Nat) (β := Int) (γ := List IR) (fun j q zs => (bigE (zs.map irPart) :: rowE 24 1 v zs.length (zs.flatMap irC) :: l)) (fun j q zs => [(0, v), (1, .int .i64 q), (4, .int .i64 0), (5, .int .i64 (j : Int))]) (fun j q zs => j ≤ es.length ∧ zs.length = es.length ∧ (∀ i, i < zs.length → (zs.getD i ir0).xs.length ≤ 1048576) ∧ k ≤ q ∧ q ≤ k + j * 1048579) (fun j q zs => es.length - j) 0 k es ⟨by omega, rfl, fun i hi => hz2 _ (getD_memX hi), by omega, by omega⟩ (sx 0 rfl (sx 1 rfl (sx 4 rfl (sx 5 rfl (sub_nil _))))) ((.cons_cons _ (.cons_cons _ (.refl _)))) ?_
 intro j q zs hi1
 obtain ⟨hj, hzl, hzx, hq1, hq2⟩ := hi1
 refine hc_seq ?_
 refine hc_seq ?_
 refine hc_region ?_
 refine hl_v rfl rfl rfl (rv_ev rfl) ?_
 refine hl_v rfl rfl rfl (rv_ev rfl) ?_
 refine hl_v rfl rfl rfl (rv_len rfl Try.underlying27 rfl (rd_row 1 rfl)) ?_
 refine hl_lss rfl rfl rfl rfl rfl rfl (fun h2 => ?_) (fun h2 => ?_)
 ·
  refine hl_less (sx 0 rfl (sx 1 rfl (sx 4 rfl (sx 5 rfl (sx 9 rfl (sub_nil _)))))) (.refl _) ?_
  refine hl_nil ?_
  refine hq_then ?_
  refine hc_true rfl ?_
  refine hc_skip ?_
  refine hq_then ?_
  refine hc_seq ?_
  refine hc_block ?_
  refine hc_region ?_
  refine hl_v rfl rfl rfl (rv_ev rfl) ?_
  refine hl_v rfl rfl rfl (rv_ev rfl) ?_
  refine hl_v rfl rfl rfl (rv_index (s := 1) rfl Try.underlying27 (by kernel_rfl) rfl rfl (rd_row 1 rfl) (by omega) (by first | omega | (simp only [List.length_set]; omega))) ?_
  refine hl_v rfl rfl rfl (rv_loadEl (u := (zs.getD j ir0).v) rfl (by kernel_rfl) rfl (rd_row 1 rfl) (flat_one irC (fun r => r.v) (fun _ => rfl) zs ir0 (show j < _ by first | omega | (simp only [List.length_set]; omega)))) ?_
  refine hl_v rfl rfl rfl (rv_ev rfl) ?_
  have hxl := hzx j (by omega)
  refine hl_conv (rowE 3 1 ((zs.getD j ir0).v) (((zs.getD j ir0).xs).length) (((zs.getD j ir0).xs).map (Value.int .i64)) :: bigE ((zs.map irPart).eraseIdx j) :: rowE 24 1 v zs.length (zs.flatMap irC) :: l) (cv_focus (part := irPart) (zs := zs) (d := ir0) (by omega)) ?_
  refine hl_callM (R := (fun u_ p_ => u_ = .int .i64 (q + ((zs.getD j ir0).xs).length) ∧ p_ = rowE 3 1 ((zs.getD j ir0).v) ((zs.getD j ir0).xs).length ((seqL q ((zs.getD j ir0).xs).length).map (Value.int .i64)))) 0 rfl rfl (by kernel_rfl) rfl rfl (fun l' w hm => markIntS_mut ((zs.getD j ir0).xs) q ((zs.getD j ir0).v) _ _ w hm (by omega) (by omega)) ?_
  intro v3 p4 hR5
  obtain ⟨rfl, rfl⟩ := hR5
  refine hl_eqL (l' := (rowE 3 1 ((zs.getD j ir0).v) (((zs.getD j ir0).xs).length) ((seqL q ((zs.getD j ir0).xs).length).map (Value.int .i64)) :: bigE ((zs.map irPart).eraseIdx j) :: rowE 24 1 v zs.length (zs.flatMap irC) :: l)) rfl ?_
  refine hl_v rfl rfl rfl (rv_ev rfl) ?_
  refine hl_less (sx 0 rfl (sx 1 rfl (sx 4 rfl (sx 5 rfl (sx 9 rfl (sub_nil _)))))) (.refl _) ?_
  refine hl_nil ?_
  refine hq_block_normal ?_
  refine hq_then ?_
  refine hc_region ?_
  refine hl_v rfl rfl rfl (rv_ev rfl) ?_
  refine hl_v rfl rfl rfl (rv_add rfl rfl rfl (by constructor <;> omega)) ?_
  refine hl_v rfl rfl rfl (rv_ev rfl) ?_
  refine hl_less (sx 0 rfl (sx 1 rfl (sx 4 rfl (sx 5 rfl (sx 9 rfl (sub_nil _)))))) (.refl _) ?_
  refine hl_nil ?_
  have hc1 : (zs).flatMap irC = (zs.set j (IR.mk (zs.getD j ir0).v (seqL q ((zs.getD j ir0).xs).length))).flatMap irC := by
   exact (set_ir zs (IR.mk (zs.getD j ir0).v (seqL q ((zs.getD j ir0).xs).length)) (by omega) rfl).symm
  have hc2 : (zs).length = (zs.set j (IR.mk (zs.getD j ir0).v (seqL q ((zs.getD j ir0).xs).length))).length := by simp only [List.length_set]
  refine hq_conv (bigE ((zs.set j (IR.mk (zs.getD j ir0).v (seqL q ((zs.getD j ir0).xs).length))).map irPart) :: rowE 24 1 v ((zs.set j (IR.mk (zs.getD j ir0).v (seqL q ((zs.getD j ir0).xs).length))).length) ((zs.set j (IR.mk (zs.getD j ir0).v (seqL q ((zs.getD j ir0).xs).length))).flatMap irC) :: l) (fun w hm => by have hm2 := cv_unfocus (part := irPart) (zs := zs) (j := j) (e := (IR.mk (zs.getD j ir0).v (seqL q ((zs.getD j ir0).xs).length))) (by omega) w (by simpa only [irPart, seqL_len] using hm); rw [hc1, hc2] at hm2; exact hm2) ?_
  exact hq_round3 (j + 1) _ _ ⟨by omega, by rw [List.length_set]; exact hzl, len_set2 (xs := IR.xs) (by omega) (by show (seqL _ _).length ≤ _; rw [seqL_len]; exact hxl) hzx, by omega, by omega⟩ (by omega) (sx 0 rfl (sx 1 rfl (sx 4 rfl (sx 5 rfl (sub_nil _))))) ((.cons_cons _ (.cons_cons _ (.refl _))))
 ·
  refine hl_less (sx 0 rfl (sx 1 rfl (sx 4 rfl (sx 5 rfl (sx 9 rfl (sub_nil _)))))) (.refl _) ?_
  refine hl_nil ?_
  refine hq_then ?_
  refine hc_false rfl ?_
  refine hc_exit ?_
  refine hq_then_exit ?_
  refine hq_then_exit ?_
  refine hq_block_exit ?_
  refine hq_then ?_
  refine hc_seq ?_
  refine hc_region ?_
  refine hl_v rfl rfl rfl (rv_ev rfl) ?_
  refine hl_v rfl rfl rfl (rv_ev rfl) ?_
  refine hl_less (sx 0 rfl (sx 1 rfl (sx 4 rfl (sx 5 rfl (sx 9 rfl (sub_nil _)))))) (.refl _) ?_
  refine hl_nil ?_
  refine hq_then ?_
  refine hc_ret ?_
  refine hq_conv (irsE v zs :: l) (conv_big (ps := [bigE (zs.map irPart), rowE 24 1 v zs.length (zs.flatMap irC)])) ?_
  exact hq_retMut (p' := irsE v zs) rfl rfl (.refl _) ⟨_, rfl, by omega, by omega⟩
set_option maxHeartbeats 4000000 in
set_option maxRecDepth 100000 in
theorem markDelays_mut (dl ds : List IR) (k : Int) (pv qv : Value) (w0 : World) (l : List HP) (w : World) (hm0 : Mem w0 (bigE [irsE pv dl, irsE qv ds] :: l) w) (hk : -10000000000000 ≤ k ∧ k ≤ 50000000000000) (n1 : dl.length ≤ 1048576 ∧ ∀ s ∈ dl, s.xs.length ≤ 1048576) (n2 : ds.length ≤ 1048576 ∧ ∀ s ∈ ds, s.xs.length ≤ 1048576) (o1 : pv.oneCell' = true ∧ qv.oneCell' = true) :
  Calls Try.prog 57 #[.agg #[pv, qv], .int .i64 k] w (fun e_ w_ => ∃ v_ p_, e_ = .returned v_ ∧ (fun u_ p_ => ∃ q : Int, u_ = .int .i64 q ∧ k ≤ q ∧ q ≤ k + 10000000000000) v_ p_ ∧ Mem w0 (p_ :: l) w_) := by
 have n3 := n1.1
 have n4 := n2.1
 refine calls_hcM (N := 14) (args := [.agg #[pv, qv], .int .i64 k]) Try.func57 rfl rfl (l := (irsE pv dl :: irsE qv ds :: l)) hm0.unbig ?_
 refine hc_less _ (sx 0 rfl (sx 1 rfl (sub_nil _))) (.refl _) ?_
 refine hc_seq ?_
 refine hc_region ?_
 refine hl_box rfl rfl rfl (rq_box rfl rfl) ?_
 intro b1
 refine hl_v rfl rfl rfl (rv_ev rfl) ?_
 refine hl_less (sx 0 rfl (sx 1 rfl (sx 2 rfl (sx 4 rfl (sub_nil _))))) (.refl _) ?_
 refine hl_nil ?_
 refine hq_then ?_
 refine hc_seq ?_
 refine hc_region ?_
 refine hl_v rfl rfl rfl (rv_field (k0 := 0) rfl (by kernel_rfl) rfl) ?_
 refine hl_v rfl rfl rfl (rv_load rfl (by kernel_rfl) rfl (box_cell 0 rfl rfl)) ?_
 refine hl_v rfl rfl rfl (rv_ev rfl) ?_
 refine hl_callM (R := (fun u_ p_ => ∃ q : Int, u_ = .int .i64 q ∧ k ≤ q ∧ q ≤ k + dl.length * 1048579)) 1 rfl rfl (by kernel_rfl) rfl rfl (fun l' w hm => markIntR_mut dl k pv _ _ w hm (by omega) n1) ?_
 intro v2 p3 hR4
 obtain ⟨qhR4, rfl, ahR4, bhR4⟩ := hR4
 refine hl_eqL (l' := (boxE b1 #[pv, qv] 38 :: p3 :: irsE qv ds :: l)) rfl ?_
 refine hl_v rfl rfl rfl (rv_ev rfl) ?_
 refine hl_less (sx 0 rfl (sx 1 rfl (sx 2 rfl (sx 4 rfl (sub_nil _))))) (.refl _) ?_
 refine hl_nil ?_
 refine hq_then ?_
 refine hc_seq ?_
 refine hc_region ?_
 refine hl_v rfl rfl rfl (rv_field (k0 := 1) rfl (by kernel_rfl) rfl) ?_
 refine hl_v rfl rfl rfl (rv_load rfl (by kernel_rfl) rfl (box_cell 0 rfl rfl)) ?_
 refine hl_v rfl rfl rfl (rv_ev rfl) ?_
 refine hl_callM (R := (fun u_ p_ => ∃ q : Int, u_ = .int .i64 q ∧ qhR4 ≤ q ∧ q ≤ qhR4 + ds.length * 1048579)) 2 rfl rfl (by kernel_rfl) rfl rfl (fun l' w hm => markIntR_mut ds qhR4 qv _ _ w hm (by omega) n2) ?_
 intro v5 p6 hR7
 obtain ⟨qhR7, rfl, ahR7, bhR7⟩ := hR7
 refine hl_eqL (l' := (boxE b1 #[pv, qv] 38 :: p3 :: p6 :: l)) rfl ?_
 refine hl_v rfl rfl rfl (rv_ev rfl) ?_
 refine hl_less (sx 0 rfl (sx 1 rfl (sx 2 rfl (sx 4 rfl (sub_nil _))))) (.refl _) ?_
 refine hl_nil ?_
 refine hq_then ?_
 refine hc_seq ?_
 refine hc_region ?_
 refine hl_v rfl rfl rfl (rv_ev rfl) ?_
 refine hl_v rfl rfl rfl (rv_ev rfl) ?_
 refine hl_less (sx 0 rfl (sx 1 rfl (sx 2 rfl (sx 4 rfl (sub_nil _))))) (.refl _) ?_
 refine hl_nil ?_
 refine hq_then ?_
 refine hc_ret ?_
 refine hq_conv (bigE [boxE b1 #[pv, qv] 38, p3, p6] :: l) (conv_big (ps := [boxE b1 #[pv, qv] 38, p3, p6])) ?_
 exact hq_retMut (p' := bigE [boxE b1 #[pv, qv] 38, p3, p6]) rfl rfl (.refl _) ⟨_, rfl, by omega, by omega⟩
set_option maxHeartbeats 4000000 in
set_option maxRecDepth 100000 in
theorem markLutNet_mut (n : Ln) (k : Int) (w0 : World) (l : List HP) (w : World) (hm0 : Mem w0 (bigE (lnE n) :: l) w) (hk : -10000000000000 ≤ k ∧ k ≤ 50000000000000) (n1 : n.ss.length ≤ 1048576 ∧ ∀ s ∈ n.ss, s.xs.length ≤ 1048576) (n2 : n.ls.length ≤ 1048576 ∧ ∀ s ∈ n.ls, s.xs.length ≤ 1048576) (n3 : n.os.length ≤ 1048576) (o1 : n.sv.oneCell' = true ∧ n.lv.oneCell' = true ∧ n.ov.oneCell' = true) :
  Calls Try.prog 56 #[.agg #[.int .i64 n.ins, n.sv, n.lv, n.ov], .int .i64 k] w (fun e_ w_ => ∃ v_ p_, e_ = .returned v_ ∧ (fun u_ p_ => ∃ q : Int, u_ = .int .i64 q ∧ k ≤ q ∧ q ≤ k + 10000000000000) v_ p_ ∧ Mem w0 (p_ :: l) w_) := by
 have n4 := n1.1
 have n5 := n2.1
 refine calls_hcM (N := 18) (args := [.agg #[.int .i64 n.ins, n.sv, n.lv, n.ov], .int .i64 k]) Try.func56 rfl rfl (l := (sqsE n.sv n.ss :: ltsE n.lv n.ls :: rowE 3 1 n.ov n.os.length (n.os.map (Value.int .i64)) :: l)) hm0.unbig ?_
 refine hc_less _ (sx 0 rfl (sx 1 rfl (sub_nil _))) (.refl _) ?_
 refine hc_seq ?_
 refine hc_region ?_
 refine hl_box rfl rfl rfl (rq_box rfl rfl) ?_
 intro b1
 refine hl_v rfl rfl rfl (rv_ev rfl) ?_
 refine hl_less (sx 0 rfl (sx 1 rfl (sx 2 rfl (sx 4 rfl (sub_nil _))))) (.refl _) ?_
 refine hl_nil ?_
 refine hq_then ?_
 refine hc_seq ?_
 refine hc_region ?_
 refine hl_v rfl rfl rfl (rv_field (k0 := 1) rfl (by kernel_rfl) rfl) ?_
 refine hl_v rfl rfl rfl (rv_load rfl (by kernel_rfl) rfl (box_cell 0 rfl rfl)) ?_
 refine hl_v rfl rfl rfl (rv_ev rfl) ?_
 refine hl_callM (R := (fun u_ p_ => ∃ q : Int, u_ = .int .i64 q ∧ k ≤ q ∧ q ≤ k + n.ss.length * 1048579)) 1 rfl rfl (by kernel_rfl) rfl rfl (fun l' w hm => markSeqR_mut n.ss k n.sv _ _ w hm (by omega) n1) ?_
 intro v2 p3 hR4
 obtain ⟨qhR4, rfl, ahR4, bhR4⟩ := hR4
 refine hl_eqL (l' := (boxE b1 #[.int .i64 n.ins, n.sv, n.lv, n.ov] 37 :: p3 :: ltsE n.lv n.ls :: rowE 3 1 n.ov n.os.length (n.os.map (Value.int .i64)) :: l)) rfl ?_
 refine hl_v rfl rfl rfl (rv_ev rfl) ?_
 refine hl_less (sx 0 rfl (sx 1 rfl (sx 2 rfl (sx 4 rfl (sub_nil _))))) (.refl _) ?_
 refine hl_nil ?_
 refine hq_then ?_
 refine hc_seq ?_
 refine hc_region ?_
 refine hl_v rfl rfl rfl (rv_field (k0 := 2) rfl (by kernel_rfl) rfl) ?_
 refine hl_v rfl rfl rfl (rv_load rfl (by kernel_rfl) rfl (box_cell 0 rfl rfl)) ?_
 refine hl_v rfl rfl rfl (rv_ev rfl) ?_
 refine hl_callM (R := (fun u_ p_ => ∃ q : Int, u_ = .int .i64 q ∧ qhR4 ≤ q ∧ q ≤ qhR4 + n.ls.length * 1048579)) 2 rfl rfl (by kernel_rfl) rfl rfl (fun l' w hm => markLutR_mut n.ls qhR4 n.lv _ _ w hm (by omega) n2) ?_
 intro v5 p6 hR7
 obtain ⟨qhR7, rfl, ahR7, bhR7⟩ := hR7
 refine hl_eqL (l' := (boxE b1 #[.int .i64 n.ins, n.sv, n.lv, n.ov] 37 :: p3 :: p6 :: rowE 3 1 n.ov n.os.length (n.os.map (Value.int .i64)) :: l)) rfl ?_
 refine hl_v rfl rfl rfl (rv_ev rfl) ?_
 refine hl_less (sx 0 rfl (sx 1 rfl (sx 2 rfl (sx 4 rfl (sub_nil _))))) (.refl _) ?_
 refine hl_nil ?_
 refine hq_then ?_
 refine hc_seq ?_
 refine hc_region ?_
 refine hl_v rfl rfl rfl (rv_field (k0 := 3) rfl (by kernel_rfl) rfl) ?_
 refine hl_v rfl rfl rfl (rv_load rfl (by kernel_rfl) rfl (box_cell 0 rfl rfl)) ?_
 refine hl_v rfl rfl rfl (rv_ev rfl) ?_
 refine hl_callM (R := (fun u_ p_ => u_ = .int .i64 (qhR7 + n.os.length) ∧ p_ = rowE 3 1 n.ov n.os.length ((seqL qhR7 n.os.length).map (Value.int .i64)))) 3 rfl rfl (by kernel_rfl) rfl rfl (fun l' w hm => markIntS_mut n.os qhR7 n.ov _ _ w hm (by omega) (by omega)) ?_
 intro v8 p9 hR10
 obtain ⟨rfl, rfl⟩ := hR10
 refine hl_eqL (l' := (boxE b1 #[.int .i64 n.ins, n.sv, n.lv, n.ov] 37 :: p3 :: p6 :: rowE 3 1 n.ov n.os.length ((seqL qhR7 n.os.length).map (Value.int .i64)) :: l)) rfl ?_
 refine hl_v rfl rfl rfl (rv_ev rfl) ?_
 refine hl_less (sx 0 rfl (sx 1 rfl (sx 2 rfl (sx 4 rfl (sub_nil _))))) (.refl _) ?_
 refine hl_nil ?_
 refine hq_then ?_
 refine hc_seq ?_
 refine hc_region ?_
 refine hl_v rfl rfl rfl (rv_ev rfl) ?_
 refine hl_v rfl rfl rfl (rv_ev rfl) ?_
 refine hl_less (sx 0 rfl (sx 1 rfl (sx 2 rfl (sx 4 rfl (sub_nil _))))) (.refl _) ?_
 refine hl_nil ?_
 refine hq_then ?_
 refine hc_ret ?_
 refine hq_conv (bigE [boxE b1 #[.int .i64 n.ins, n.sv, n.lv, n.ov] 37, p3, p6, rowE 3 1 n.ov n.os.length ((seqL qhR7 n.os.length).map (Value.int .i64))] :: l) (conv_big (ps := [boxE b1 #[.int .i64 n.ins, n.sv, n.lv, n.ov] 37, p3, p6, rowE 3 1 n.ov n.os.length ((seqL qhR7 n.os.length).map (Value.int .i64))])) ?_
 exact hq_retMut (p' := bigE [boxE b1 #[.int .i64 n.ins, n.sv, n.lv, n.ov] 37, p3, p6, rowE 3 1 n.ov n.os.length ((seqL qhR7 n.os.length).map (Value.int .i64))]) rfl rfl (.refl _) ⟨_, rfl, by omega, by omega⟩
set_option maxHeartbeats 4000000 in
set_option maxRecDepth 100000 in
theorem markTimed_mut (x : Td) (k : Int) (w0 : World) (l : List HP) (w : World) (hm0 : Mem w0 (tdE x :: l) w) (hk : 0 ≤ k ∧ k ≤ 10) (hz : SzTd x) (ho : OneTd x) :
  Calls Try.prog 18 #[.agg #[.int .i64 x.n.ins, x.n.sv, x.n.lv, x.n.ov, x.pv, x.qv, x.kv, x.av, x.bv, .int .i64 x.oi, .int .i64 x.ni], .int .i64 k] w (fun e_ w_ => ∃ v_ p_, e_ = .returned v_ ∧ (fun u_ p_ => ∃ q : Int, u_ = .int .i64 q ∧ k ≤ q ∧ q ≤ k + 30000000000000) v_ p_ ∧ Mem w0 (p_ :: l) w_) := by
 have n1 := hz.ks
 have n2 := hz.ao
 have n3 := hz.bs
 refine calls_hcM (N := 26) (args := [.agg #[.int .i64 x.n.ins, x.n.sv, x.n.lv, x.n.ov, x.pv, x.qv, x.kv, x.av, x.bv, .int .i64 x.oi, .int .i64 x.ni], .int .i64 k]) Try.func18 rfl rfl (l := (bigE (lnE x.n) :: bigE [irsE x.pv x.dl, irsE x.qv x.ds] :: rowE 3 1 x.kv x.ks.length (x.ks.map (Value.int .i64)) :: rowE 3 1 x.av x.ao.length (x.ao.map (Value.int .i64)) :: rowE 3 1 x.bv x.bs.length (x.bs.map (Value.int .i64)) :: l)) hm0.unbig ?_
 refine hc_less _ (sx 0 rfl (sx 1 rfl (sub_nil _))) (.refl _) ?_
 refine hc_seq ?_
 refine hc_region ?_
 refine hl_box rfl rfl rfl (rq_box rfl rfl) ?_
 intro b1
 refine hl_v rfl rfl rfl (rv_ev rfl) ?_
 refine hl_less (sx 0 rfl (sx 1 rfl (sx 2 rfl (sx 4 rfl (sub_nil _))))) (.refl _) ?_
 refine hl_nil ?_
 refine hq_then ?_
 refine hc_seq ?_
 refine hc_region ?_
 refine hl_v rfl rfl rfl (rv_field (k0 := 0) rfl (by kernel_rfl) rfl) ?_
 refine hl_v rfl rfl rfl (rv_loadN (cs := [.int .i64 x.n.ins, x.n.sv, x.n.lv, x.n.ov]) rfl (by kernel_rfl) (by kernel_rfl) rfl rfl (box_part 0 rfl 0 rfl)) ?_
 refine hl_v rfl rfl rfl (rv_ev rfl) ?_
 refine hl_callM (R := (fun u_ p_ => ∃ q : Int, u_ = .int .i64 q ∧ k ≤ q ∧ q ≤ k + 10000000000000)) 1 rfl rfl (by kernel_rfl) rfl rfl (fun l' w hm => markLutNet_mut x.n k _ _ w hm (by omega) hz.ss hz.ls hz.os ⟨ho.sv, ho.lv, ho.ov⟩) ?_
 intro v2 p3 hR4
 obtain ⟨qhR4, rfl, ahR4, bhR4⟩ := hR4
 refine hl_eqL (l' := (boxE b1 #[.int .i64 x.n.ins, x.n.sv, x.n.lv, x.n.ov, x.pv, x.qv, x.kv, x.av, x.bv, .int .i64 x.oi, .int .i64 x.ni] 40 :: p3 :: bigE [irsE x.pv x.dl, irsE x.qv x.ds] :: rowE 3 1 x.kv x.ks.length (x.ks.map (Value.int .i64)) :: rowE 3 1 x.av x.ao.length (x.ao.map (Value.int .i64)) :: rowE 3 1 x.bv x.bs.length (x.bs.map (Value.int .i64)) :: l)) rfl ?_
 refine hl_v rfl rfl rfl (rv_ev rfl) ?_
 refine hl_less (sx 0 rfl (sx 1 rfl (sx 2 rfl (sx 4 rfl (sub_nil _))))) (.refl _) ?_
 refine hl_nil ?_
 refine hq_then ?_
 refine hc_seq ?_
 refine hc_region ?_
 refine hl_v rfl rfl rfl (rv_field (k0 := 4) rfl (by kernel_rfl) rfl) ?_
 refine hl_v rfl rfl rfl (rv_loadN (cs := [x.pv, x.qv]) rfl (by kernel_rfl) (by kernel_rfl) rfl rfl (box_part 0 rfl 4 rfl)) ?_
 refine hl_v rfl rfl rfl (rv_ev rfl) ?_
 refine hl_callM (R := (fun u_ p_ => ∃ q : Int, u_ = .int .i64 q ∧ qhR4 ≤ q ∧ q ≤ qhR4 + 10000000000000)) 2 rfl rfl (by kernel_rfl) rfl rfl (fun l' w hm => markDelays_mut x.dl x.ds qhR4 x.pv x.qv _ _ w hm (by omega) hz.dl hz.ds ⟨ho.pv, ho.qv⟩) ?_
 intro v5 p6 hR7
 obtain ⟨qhR7, rfl, ahR7, bhR7⟩ := hR7
 refine hl_eqL (l' := (boxE b1 #[.int .i64 x.n.ins, x.n.sv, x.n.lv, x.n.ov, x.pv, x.qv, x.kv, x.av, x.bv, .int .i64 x.oi, .int .i64 x.ni] 40 :: p3 :: p6 :: rowE 3 1 x.kv x.ks.length (x.ks.map (Value.int .i64)) :: rowE 3 1 x.av x.ao.length (x.ao.map (Value.int .i64)) :: rowE 3 1 x.bv x.bs.length (x.bs.map (Value.int .i64)) :: l)) rfl ?_
 refine hl_v rfl rfl rfl (rv_ev rfl) ?_
 refine hl_less (sx 0 rfl (sx 1 rfl (sx 2 rfl (sx 4 rfl (sub_nil _))))) (.refl _) ?_
 refine hl_nil ?_
 refine hq_then ?_
 refine hc_seq ?_
 refine hc_region ?_
 refine hl_v rfl rfl rfl (rv_field (k0 := 6) rfl (by kernel_rfl) rfl) ?_
 refine hl_v rfl rfl rfl (rv_load rfl (by kernel_rfl) rfl (box_cell 0 rfl rfl)) ?_
 refine hl_v rfl rfl rfl (rv_ev rfl) ?_
 refine hl_callM (R := (fun u_ p_ => u_ = .int .i64 (qhR7 + x.ks.length) ∧ p_ = rowE 3 1 x.kv x.ks.length ((seqL qhR7 x.ks.length).map (Value.int .i64)))) 3 rfl rfl (by kernel_rfl) rfl rfl (fun l' w hm => markIntS_mut x.ks qhR7 x.kv _ _ w hm (by omega) (by omega)) ?_
 intro v8 p9 hR10
 obtain ⟨rfl, rfl⟩ := hR10
 refine hl_eqL (l' := (boxE b1 #[.int .i64 x.n.ins, x.n.sv, x.n.lv, x.n.ov, x.pv, x.qv, x.kv, x.av, x.bv, .int .i64 x.oi, .int .i64 x.ni] 40 :: p3 :: p6 :: rowE 3 1 x.kv x.ks.length ((seqL qhR7 x.ks.length).map (Value.int .i64)) :: rowE 3 1 x.av x.ao.length (x.ao.map (Value.int .i64)) :: rowE 3 1 x.bv x.bs.length (x.bs.map (Value.int .i64)) :: l)) rfl ?_
 refine hl_v rfl rfl rfl (rv_ev rfl) ?_
 refine hl_less (sx 0 rfl (sx 1 rfl (sx 2 rfl (sx 4 rfl (sub_nil _))))) (.refl _) ?_
 refine hl_nil ?_
 refine hq_then ?_
 refine hc_seq ?_
 refine hc_region ?_
 refine hl_v rfl rfl rfl (rv_field (k0 := 7) rfl (by kernel_rfl) rfl) ?_
 refine hl_v rfl rfl rfl (rv_load rfl (by kernel_rfl) rfl (box_cell 0 rfl rfl)) ?_
 refine hl_v rfl rfl rfl (rv_ev rfl) ?_
 refine hl_callM (R := (fun u_ p_ => u_ = .int .i64 (qhR7 + x.ks.length + x.ao.length) ∧ p_ = rowE 3 1 x.av x.ao.length ((seqL (qhR7 + x.ks.length) x.ao.length).map (Value.int .i64)))) 4 rfl rfl (by kernel_rfl) rfl rfl (fun l' w hm => markIntS_mut x.ao (qhR7 + x.ks.length) x.av _ _ w hm (by omega) (by omega)) ?_
 intro v11 p12 hR13
 obtain ⟨rfl, rfl⟩ := hR13
 refine hl_eqL (l' := (boxE b1 #[.int .i64 x.n.ins, x.n.sv, x.n.lv, x.n.ov, x.pv, x.qv, x.kv, x.av, x.bv, .int .i64 x.oi, .int .i64 x.ni] 40 :: p3 :: p6 :: rowE 3 1 x.kv x.ks.length ((seqL qhR7 x.ks.length).map (Value.int .i64)) :: rowE 3 1 x.av x.ao.length ((seqL (qhR7 + x.ks.length) x.ao.length).map (Value.int .i64)) :: rowE 3 1 x.bv x.bs.length (x.bs.map (Value.int .i64)) :: l)) rfl ?_
 refine hl_v rfl rfl rfl (rv_ev rfl) ?_
 refine hl_less (sx 0 rfl (sx 1 rfl (sx 2 rfl (sx 4 rfl (sub_nil _))))) (.refl _) ?_
 refine hl_nil ?_
 refine hq_then ?_
 refine hc_seq ?_
 refine hc_region ?_
 refine hl_v rfl rfl rfl (rv_field (k0 := 8) rfl (by kernel_rfl) rfl) ?_
 refine hl_v rfl rfl rfl (rv_load rfl (by kernel_rfl) rfl (box_cell 0 rfl rfl)) ?_
 refine hl_v rfl rfl rfl (rv_ev rfl) ?_
 refine hl_callM (R := (fun u_ p_ => u_ = .int .i64 (qhR7 + x.ks.length + x.ao.length + x.bs.length) ∧ p_ = rowE 3 1 x.bv x.bs.length ((seqL (qhR7 + x.ks.length + x.ao.length) x.bs.length).map (Value.int .i64)))) 5 rfl rfl (by kernel_rfl) rfl rfl (fun l' w hm => markIntS_mut x.bs (qhR7 + x.ks.length + x.ao.length) x.bv _ _ w hm (by omega) (by omega)) ?_
 intro v14 p15 hR16
 obtain ⟨rfl, rfl⟩ := hR16
 refine hl_eqL (l' := (boxE b1 #[.int .i64 x.n.ins, x.n.sv, x.n.lv, x.n.ov, x.pv, x.qv, x.kv, x.av, x.bv, .int .i64 x.oi, .int .i64 x.ni] 40 :: p3 :: p6 :: rowE 3 1 x.kv x.ks.length ((seqL qhR7 x.ks.length).map (Value.int .i64)) :: rowE 3 1 x.av x.ao.length ((seqL (qhR7 + x.ks.length) x.ao.length).map (Value.int .i64)) :: rowE 3 1 x.bv x.bs.length ((seqL (qhR7 + x.ks.length + x.ao.length) x.bs.length).map (Value.int .i64)) :: l)) rfl ?_
 refine hl_v rfl rfl rfl (rv_ev rfl) ?_
 refine hl_less (sx 0 rfl (sx 1 rfl (sx 2 rfl (sx 4 rfl (sub_nil _))))) (.refl _) ?_
 refine hl_nil ?_
 refine hq_then ?_
 refine hc_seq ?_
 refine hc_region ?_
 refine hl_v rfl rfl rfl (rv_ev rfl) ?_
 refine hl_v rfl rfl rfl (rv_ev rfl) ?_
 refine hl_less (sx 0 rfl (sx 1 rfl (sx 2 rfl (sx 4 rfl (sub_nil _))))) (.refl _) ?_
 refine hl_nil ?_
 refine hq_then ?_
 refine hc_ret ?_
 refine hq_conv (bigE [boxE b1 #[.int .i64 x.n.ins, x.n.sv, x.n.lv, x.n.ov, x.pv, x.qv, x.kv, x.av, x.bv, .int .i64 x.oi, .int .i64 x.ni] 40, p3, p6, rowE 3 1 x.kv x.ks.length ((seqL qhR7 x.ks.length).map (Value.int .i64)), rowE 3 1 x.av x.ao.length ((seqL (qhR7 + x.ks.length) x.ao.length).map (Value.int .i64)), rowE 3 1 x.bv x.bs.length ((seqL (qhR7 + x.ks.length + x.ao.length) x.bs.length).map (Value.int .i64))] :: l) (conv_big (ps := [boxE b1 #[.int .i64 x.n.ins, x.n.sv, x.n.lv, x.n.ov, x.pv, x.qv, x.kv, x.av, x.bv, .int .i64 x.oi, .int .i64 x.ni] 40, p3, p6, rowE 3 1 x.kv x.ks.length ((seqL qhR7 x.ks.length).map (Value.int .i64)), rowE 3 1 x.av x.ao.length ((seqL (qhR7 + x.ks.length) x.ao.length).map (Value.int .i64)), rowE 3 1 x.bv x.bs.length ((seqL (qhR7 + x.ks.length + x.ao.length) x.bs.length).map (Value.int .i64))])) ?_
 exact hq_retMut (p' := bigE [boxE b1 #[.int .i64 x.n.ins, x.n.sv, x.n.lv, x.n.ov, x.pv, x.qv, x.kv, x.av, x.bv, .int .i64 x.oi, .int .i64 x.ni] 40, p3, p6, rowE 3 1 x.kv x.ks.length ((seqL qhR7 x.ks.length).map (Value.int .i64)), rowE 3 1 x.av x.ao.length ((seqL (qhR7 + x.ks.length) x.ao.length).map (Value.int .i64)), rowE 3 1 x.bv x.bs.length ((seqL (qhR7 + x.ks.length + x.ao.length) x.bs.length).map (Value.int .i64))]) rfl rfl (.refl _) ⟨_, rfl, by omega, by omega⟩
def pT (n : Int) : Nat := 2 ^ n.toNat
def qT (n : Int) : Int := 2 ^ (2 ^ n.toNat)
theorem fiveT {n : Int} (h : 0 ≤ n ∧ n ≤ 4) : n = 0 ∨ n = 1 ∨ n = 2 ∨ n = 3 ∨ n = 4 := by omega
theorem pT_rng {n : Int} (h : 0 ≤ n ∧ n ≤ 4) : 1 ≤ pT n ∧ pT n ≤ 16 := by
  rcases fiveT h with rfl | rfl | rfl | rfl | rfl <;> decide
theorem qT_rng {n : Int} (h : 0 ≤ n ∧ n ≤ 4) : 2 ≤ qT n ∧ qT n ≤ 65536 := by
  rcases fiveT h with rfl | rfl | rfl | rfl | rfl <;> decide
theorem wruT {n : Int} (h : 0 ≤ n ∧ n ≤ 4) : IntKind.u64.wrap (1 * 2 ^ n.toNat) = (pT n : Int) := by
  rcases fiveT h with rfl | rfl | rfl | rfl | rfl <;> exact IntWalk.u64_in _ (by decide)
theorem wrqT {n : Int} (h : 0 ≤ n ∧ n ≤ 4) : IntKind.i64.wrap (1 * 2 ^ ((pT n : Int)).toNat) = qT n := by
  rcases fiveT h with rfl | rfl | rfl | rfl | rfl <;> exact IntWalk.i64_in _ (by decide)
def TabP (n b : Int) : Prop := (0 ≤ n ∧ n ≤ 4) ∧ 0 ≤ b ∧ b ≤ qT n - 1
def BelowP (xs : List Int) (m : Int) : Prop := ∀ j, j < xs.length → 0 ≤ xs.getD j 0 ∧ xs.getD j 0 < m
def LiP (xs : List Int) (n m : Int) : Prop := (xs.length : Int) = n ∧ ∀ j, j < xs.length → 0 ≤ xs.getD j 0 ∧ xs.getD j 0 ≤ m
def Ln.fst (n : Ln) : Int := 1 + n.ins + n.ss.length
def Ln.cnt (n : Ln) : Int := 1 + n.ins + n.ss.length + n.ls.length
structure LnSz (n : Ln) : Prop where
  i : 0 ≤ n.ins ∧ n.ins ≤ 20
  s : n.ss.length ≤ 12
  l : n.ls.length ≤ 400
  o : n.os.length ≤ 16
noncomputable def lnN (n : Ln) : Int := if pB (LnSz n) = true then n.cnt else 0
theorem lnN_yes {n : Ln} (h : LnSz n) : lnN n = n.cnt := by unfold lnN; rw [if_pos (pB_yes h)]
theorem lnN_no {n : Ln} (h : ¬ LnSz n) : lnN n = 0 := by unfold lnN; rw [pB_no h]; rfl
theorem lnN_sz {n : Ln} (h : lnN n ≠ 0) : LnSz n := Classical.byContradiction fun hn => h (lnN_no hn)
theorem lnN_pos {n : Ln} (h : LnSz n) : lnN n ≠ 0 := by
  rw [lnN_yes h]; have := h.i; show 1 + n.ins + (n.ss.length : Int) + n.ls.length ≠ 0; omega
def LutP (f : Int) (l : Lt) : Prop := (l.xs.length ≤ 4 ∧ BelowP l.xs f) ∧ TabP l.xs.length l.ma
structure LnOk (n : Ln) : Prop where
  sz : LnSz n
  ou : BelowP n.os n.cnt
  sq : ∀ k, k < n.ss.length → SqOk (n.ss.getD k sq0) ∧ BelowP (n.ss.getD k sq0).xs n.cnt
  lt : ∀ i, i < n.ls.length → LutP (n.fst + i) (n.ls.getD i lt0)
def StR (kd v : Int) : Prop := 0 ≤ v ∧ v ≤ 31 ∧ (kd = 0 → v ≤ 1)
structure StP (n : Ln) (st : List Int) : Prop where
  len : st.length = n.ss.length
  rng : ∀ k, k < n.ss.length → StR (n.ss.getD k sq0).kd (st.getD k 0)
structure StAll (n : Ln) (st : List Int) : Prop where
  ok : LnOk n
  sp : StP n st
structure DlP (rs : List IR) (sz : List Int) : Prop where
  len : rs.length = sz.length
  el : ∀ i, i < rs.length → LiP (rs.getD i ir0).xs (sz.getD i 0) 100
structure TdOk (x : Td) : Prop where
  n : LnOk x.n
  a : StP x.n x.ao
  b : StP x.n x.bs
  k : LiP x.ks x.n.ss.length 50
  dn : x.dl.length = x.n.ls.length
  dl : ∀ i, i < x.n.ls.length → LiP (x.dl.getD i ir0).xs (x.n.ls.getD i lt0).xs.length 100
  sn : x.ds.length = x.n.ss.length
  ds : ∀ i, i < x.n.ss.length → LiP (x.ds.getD i ir0).xs (x.n.ss.getD i sq0).xs.length 100
/-- lengths of rows -/
def lensL {α : Type} (xs : α → List Int) (es : List α) (k : Nat) : List Int := (es.take k).map (fun e => ((xs e).length : Int))
theorem lensL_len {α : Type} (xs : α → List Int) {es : List α} {k : Nat} (h : k ≤ es.length) : (lensL xs es k).length = k := by simp [lensL]; omega
theorem lensL_succ {α : Type} (xs : α → List Int) {es : List α} {k : Nat} (d : α) (h : k < es.length) : lensL xs es k ++ [((xs (es.getD k d)).length : Int)] = lensL xs es (k + 1) := by
  unfold lensL; rw [take_snocG d h, List.map_append]; rfl
theorem lensL_at {α : Type} (xs : α → List Int) {es : List α} {i : Nat} (d : α) (h : i < es.length) : (lensL xs es es.length).getD i 0 = ((xs (es.getD i d)).length : Int) := by
  unfold lensL; rw [List.take_length]
  simp [h]
theorem dl_iff {α : Type} (xs : α → List Int) {rs : List IR} {es : List α} (d : α) : DlP rs (lensL xs es es.length) ↔ (rs.length = es.length ∧ ∀ i, i < es.length → LiP (rs.getD i ir0).xs ((xs (es.getD i d)).length : Int) 100) := by
  have hl := lensL_len xs (es := es) (Nat.le_refl _)
  constructor
  · intro h
    refine ⟨by rw [h.len, hl], fun i hi => ?_⟩
    have := h.el i (by rw [h.len, hl]; exact hi)
    rw [lensL_at xs d hi] at this; exact this
  · rintro ⟨h1, h2⟩
    refine ⟨by rw [hl, h1], fun i hi => ?_⟩
    rw [lensL_at xs d (by omega)]; exact h2 i (by omega)
theorem inR_notL {a b c : Int} (h : inR a b c = false) : ¬ (b ≤ a ∧ a ≤ c) := fun hh => by rw [(inR_iff _ _ _).2 hh] at h; cases h
set_option maxHeartbeats 4000000 in
set_option maxRecDepth 100000 in
theorem l01In_ans (x lo hi : Int) (w : World)  :
  Calls Try.prog 64 #[.int .i64 x, .int .i64 lo, .int .i64 hi] w (Ans w (.bool (inR x lo hi))) := by
 refine calls_hc (N := 15) (args := [.int .i64 x, .int .i64 lo, .int .i64 hi]) Try.func64 rfl rfl ?_
 refine hc_less _ (sx 0 rfl (sx 1 rfl (sx 2 rfl (sub_nil _)))) (.refl _) ?_
 refine hc_seq ?_
 refine hc_region ?_
 refine hl_v rfl rfl rfl (rv_ev rfl) ?_
 refine hl_less (sx 0 rfl (sx 1 rfl (sx 2 rfl (sx 6 rfl (sub_nil _))))) (.refl _) ?_
 refine hl_nil ?_
 refine hq_then ?_
 refine hc_seq ?_
 refine hc_region ?_
 refine hl_v rfl rfl rfl (rv_ev rfl) ?_
 refine hl_v rfl rfl rfl (rv_ev rfl) ?_
 refine hl_geq rfl rfl rfl rfl rfl rfl (fun h1 => ?_) (fun h1 => ?_)
 ·
  refine hl_v rfl rfl rfl (rv_ev rfl) ?_
  refine hl_v rfl rfl rfl (rv_ev rfl) ?_
  refine hl_v rfl rfl rfl (rv_ev rfl) ?_
  refine hl_leq rfl rfl rfl rfl rfl rfl (fun h2 => ?_) (fun h2 => ?_)
  ·
   refine hl_v rfl rfl rfl (rv_ev rfl) ?_
   refine hl_v rfl rfl rfl (rv_ev rfl) ?_
   refine hl_less (sx 0 rfl (sx 1 rfl (sx 2 rfl (sx 6 rfl (sub_nil _))))) (.refl _) ?_
   refine hl_nil ?_
   refine hq_then ?_
   refine hc_ret ?_
   exact hq_ans rfl rfl (congrArg _ (((inR_iff _ _ _).2 (by omega)).symm))
  ·
   refine hl_v rfl rfl rfl (rv_ev rfl) ?_
   refine hl_v rfl rfl rfl (rv_ev rfl) ?_
   refine hl_less (sx 0 rfl (sx 1 rfl (sx 2 rfl (sx 6 rfl (sub_nil _))))) (.refl _) ?_
   refine hl_nil ?_
   refine hq_then ?_
   refine hc_ret ?_
   exact hq_ans rfl rfl (congrArg _ ((Bool.eq_false_iff.2 (fun h => by have := (inR_iff _ _ _).1 h; omega)).symm))
 ·
  refine hl_v rfl rfl rfl (rv_ev rfl) ?_
  refine hl_skip rfl rfl rfl ?_
  refine hl_skip rfl rfl rfl ?_
  refine hl_skip rfl rfl rfl ?_
  refine hl_v rfl rfl rfl (rv_ev rfl) ?_
  refine hl_v rfl rfl rfl (rv_ev rfl) ?_
  refine hl_less (sx 0 rfl (sx 1 rfl (sx 2 rfl (sx 6 rfl (sub_nil _))))) (.refl _) ?_
  refine hl_nil ?_
  refine hq_then ?_
  refine hc_ret ?_
  exact hq_ans rfl rfl (congrArg _ ((Bool.eq_false_iff.2 (fun h => by have := (inR_iff _ _ _).1 h; omega)).symm))
set_option maxHeartbeats 4000000 in
set_option maxRecDepth 100000 in
theorem lutNodes_ans (n : Ln) (w : World) (hr : RdsLn w n) (hsz : LnSz n) :
  Calls Try.prog 54 #[.agg #[.int .i64 n.ins, n.sv, n.lv, n.ov]] w (Ans w (.int .i64 n.cnt)) := by
 have hso := sml hr.ou
 have hss := hr.sq.small
 have hsl := hr.lt.small
 have hcnt : n.cnt = 1 + n.ins + n.ss.length + n.ls.length := rfl
 have hfst : n.fst = 1 + n.ins + n.ss.length := rfl
 obtain ⟨si, s2, s3, s4⟩ := hsz
 refine calls_hc (N := 14) (args := [.agg #[.int .i64 n.ins, n.sv, n.lv, n.ov]]) Try.func54 rfl rfl ?_
 refine hc_less _ (sx 0 rfl (sub_nil _)) (.refl _) ?_
 refine hc_seq ?_
 refine hc_region ?_
 refine hl_box rfl rfl rfl (rq_box rfl rfl) ?_
 intro b1
 refine hl_v rfl rfl rfl (rv_ev rfl) ?_
 refine hl_less (sx 0 rfl (sx 1 rfl (sx 2 rfl (sub_nil _)))) (.refl _) ?_
 refine hl_nil ?_
 refine hq_then ?_
 refine hc_seq ?_
 refine hc_region ?_
 refine hl_v rfl rfl rfl (rv_field (k0 := 0) rfl (by kernel_rfl) rfl) ?_
 refine hl_v rfl rfl rfl (rv_load rfl (by kernel_rfl) rfl (box_cell 0 rfl rfl)) ?_
 refine hl_v rfl rfl rfl (rv_add rfl rfl rfl (by constructor <;> omega)) ?_
 refine hl_v rfl rfl rfl (rv_field (k0 := 1) rfl (by kernel_rfl) rfl) ?_
 refine hl_v rfl rfl rfl (rv_load rfl (by kernel_rfl) rfl (box_cell 0 rfl rfl)) ?_
 refine hl_v rfl rfl rfl (rv_len rfl Try.underlying34 rfl (rd_old ((hr).sq.row))) ?_
 refine hl_v rfl rfl rfl (rv_add rfl rfl rfl (by constructor <;> omega)) ?_
 refine hl_v rfl rfl rfl (rv_field (k0 := 2) rfl (by kernel_rfl) rfl) ?_
 refine hl_v rfl rfl rfl (rv_load rfl (by kernel_rfl) rfl (box_cell 0 rfl rfl)) ?_
 refine hl_v rfl rfl rfl (rv_len rfl Try.underlying35 rfl (rd_old ((hr).lt.row))) ?_
 refine hl_v rfl rfl rfl (rv_add rfl rfl rfl (by constructor <;> omega)) ?_
 refine hl_v rfl rfl rfl (rv_ev rfl) ?_
 refine hl_less (sx 0 rfl (sx 1 rfl (sx 2 rfl (sub_nil _)))) (.refl _) ?_
 refine hl_nil ?_
 refine hq_then ?_
 refine hc_ret ?_
 exact hq_ans rfl rfl rfl
set_option maxHeartbeats 4000000 in
set_option maxRecDepth 100000 in
theorem firstLut_ans (n : Ln) (w : World) (hr : RdsLn w n) (hsz : LnSz n) :
  Calls Try.prog 59 #[.agg #[.int .i64 n.ins, n.sv, n.lv, n.ov]] w (Ans w (.int .i64 n.fst)) := by
 have hso := sml hr.ou
 have hss := hr.sq.small
 have hsl := hr.lt.small
 have hcnt : n.cnt = 1 + n.ins + n.ss.length + n.ls.length := rfl
 have hfst : n.fst = 1 + n.ins + n.ss.length := rfl
 obtain ⟨si, s2, s3, s4⟩ := hsz
 refine calls_hc (N := 10) (args := [.agg #[.int .i64 n.ins, n.sv, n.lv, n.ov]]) Try.func59 rfl rfl ?_
 refine hc_less _ (sx 0 rfl (sub_nil _)) (.refl _) ?_
 refine hc_seq ?_
 refine hc_region ?_
 refine hl_box rfl rfl rfl (rq_box rfl rfl) ?_
 intro b1
 refine hl_v rfl rfl rfl (rv_ev rfl) ?_
 refine hl_less (sx 0 rfl (sx 1 rfl (sx 2 rfl (sub_nil _)))) (.refl _) ?_
 refine hl_nil ?_
 refine hq_then ?_
 refine hc_seq ?_
 refine hc_region ?_
 refine hl_v rfl rfl rfl (rv_field (k0 := 0) rfl (by kernel_rfl) rfl) ?_
 refine hl_v rfl rfl rfl (rv_load rfl (by kernel_rfl) rfl (box_cell 0 rfl rfl)) ?_
 refine hl_v rfl rfl rfl (rv_add rfl rfl rfl (by constructor <;> omega)) ?_
 refine hl_v rfl rfl rfl (rv_field (k0 := 1) rfl (by kernel_rfl) rfl) ?_
 refine hl_v rfl rfl rfl (rv_load rfl (by kernel_rfl) rfl (box_cell 0 rfl rfl)) ?_
 refine hl_v rfl rfl rfl (rv_len rfl Try.underlying34 rfl (rd_old ((hr).sq.row))) ?_
 refine hl_v rfl rfl rfl (rv_add rfl rfl rfl (by constructor <;> omega)) ?_
 refine hl_v rfl rfl rfl (rv_ev rfl) ?_
 refine hl_less (sx 0 rfl (sx 1 rfl (sx 2 rfl (sub_nil _)))) (.refl _) ?_
 refine hl_nil ?_
 refine hq_then ?_
 refine hc_ret ?_
 exact hq_ans rfl rfl rfl
set_option maxHeartbeats 4000000 in
set_option maxRecDepth 100000 in
theorem l20First_ans (n : Ln) (w : World) (hr : RdsLn w n) (hsz : LnSz n) :
  Calls Try.prog 58 #[.agg #[.int .i64 n.ins, n.sv, n.lv, n.ov]] w (Ans w (.int .i64 n.fst)) := by
 have hso := sml hr.ou
 have hss := hr.sq.small
 have hsl := hr.lt.small
 have hcnt : n.cnt = 1 + n.ins + n.ss.length + n.ls.length := rfl
 have hfst : n.fst = 1 + n.ins + n.ss.length := rfl
 obtain ⟨si, s2, s3, s4⟩ := hsz
 refine calls_hc (N := 10) (args := [.agg #[.int .i64 n.ins, n.sv, n.lv, n.ov]]) Try.func58 rfl rfl ?_
 refine hc_less _ (sx 0 rfl (sub_nil _)) (.refl _) ?_
 refine hc_seq ?_
 refine hc_region ?_
 refine hl_box rfl rfl rfl (rq_box rfl rfl) ?_
 intro b1
 refine hl_v rfl rfl rfl (rv_ev rfl) ?_
 refine hl_less (sx 0 rfl (sx 1 rfl (sx 2 rfl (sub_nil _)))) (.refl _) ?_
 refine hl_nil ?_
 refine hq_then ?_
 refine hc_seq ?_
 refine hc_region ?_
 refine hl_v rfl rfl rfl (rv_field (k0 := 0) rfl (by kernel_rfl) rfl) ?_
 refine hl_v rfl rfl rfl (rv_load rfl (by kernel_rfl) rfl (box_cell 0 rfl rfl)) ?_
 refine hl_v rfl rfl rfl (rv_add rfl rfl rfl (by constructor <;> omega)) ?_
 refine hl_v rfl rfl rfl (rv_field (k0 := 1) rfl (by kernel_rfl) rfl) ?_
 refine hl_v rfl rfl rfl (rv_load rfl (by kernel_rfl) rfl (box_cell 0 rfl rfl)) ?_
 refine hl_v rfl rfl rfl (rv_len rfl Try.underlying34 rfl (rd_old ((hr).sq.row))) ?_
 refine hl_v rfl rfl rfl (rv_add rfl rfl rfl (by constructor <;> omega)) ?_
 refine hl_v rfl rfl rfl (rv_ev rfl) ?_
 refine hl_less (sx 0 rfl (sx 1 rfl (sx 2 rfl (sub_nil _)))) (.refl _) ?_
 refine hl_nil ?_
 refine hq_then ?_
 refine hc_ret ?_
 exact hq_ans rfl rfl rfl
set_option maxHeartbeats 4000000 in
set_option maxRecDepth 100000 in
theorem implLutNodes_ans (n : Ln) (w : World) (hr : RdsLn w n) :
  Calls Try.prog 93 #[.agg #[.int .i64 n.ins, n.sv, n.lv, n.ov]] w (Ans w (.int .i64 (lnN n))) := by
 have hso := sml hr.ou
 have hss := hr.sq.small
 have hsl := hr.lt.small
 have hcnt : n.cnt = 1 + n.ins + n.ss.length + n.ls.length := rfl
 have hfst : n.fst = 1 + n.ins + n.ss.length := rfl
 refine calls_hc (N := 27) (args := [.agg #[.int .i64 n.ins, n.sv, n.lv, n.ov]]) Try.func93 rfl rfl ?_
 refine hc_less _ (sx 0 rfl (sub_nil _)) (.refl _) ?_
 refine hc_seq ?_
 refine hc_region ?_
 refine hl_box rfl rfl rfl (rq_box rfl rfl) ?_
 intro b1
 refine hl_v rfl rfl rfl (rv_ev rfl) ?_
 refine hl_less (sx 0 rfl (sx 1 rfl (sx 2 rfl (sub_nil _)))) (.refl _) ?_
 refine hl_nil ?_
 refine hq_then ?_
 refine hc_seq ?_
 refine hc_seq ?_
 refine hc_region ?_
 refine hl_v rfl rfl rfl (rv_field (k0 := 0) rfl (by kernel_rfl) rfl) ?_
 refine hl_v rfl rfl rfl (rv_load rfl (by kernel_rfl) rfl (box_cell 0 rfl rfl)) ?_
 refine hl_callV rfl rfl rfl (rq_call (by kernel_rfl) rfl (fun w hm => ret_ans (ans_of (inRange_any _ _ _ w)))) ?_
 refine hl_bool (fun h2 => ?_) (fun h2 => ?_)
 ·
  obtain ⟨h2a, h2b⟩ := (inR_iff _ _ _).1 h2
  refine hl_v rfl rfl rfl (rv_ev rfl) ?_
  refine hl_v rfl rfl rfl (rv_ev rfl) ?_
  refine hl_v rfl rfl rfl (rv_field (k0 := 1) rfl (by kernel_rfl) rfl) ?_
  refine hl_v rfl rfl rfl (rv_load rfl (by kernel_rfl) rfl (box_cell 0 rfl rfl)) ?_
  refine hl_v rfl rfl rfl (rv_len rfl Try.underlying34 rfl (rd_old ((hr).sq.row))) ?_
  refine hl_gtr rfl rfl rfl rfl rfl rfl (fun h3 => ?_) (fun h3 => ?_)
  ·
   refine hl_v rfl rfl rfl (rv_ev rfl) ?_
   refine hl_v rfl rfl rfl (rv_ev rfl) ?_
   refine hl_skip rfl rfl rfl ?_
   refine hl_skip rfl rfl rfl ?_
   refine hl_skip rfl rfl rfl ?_
   refine hl_skip rfl rfl rfl ?_
   refine hl_v rfl rfl rfl (rv_ev rfl) ?_
   refine hl_v rfl rfl rfl (rv_ev rfl) ?_
   refine hl_skip rfl rfl rfl ?_
   refine hl_skip rfl rfl rfl ?_
   refine hl_skip rfl rfl rfl ?_
   refine hl_skip rfl rfl rfl ?_
   refine hl_v rfl rfl rfl (rv_ev rfl) ?_
   refine hl_less (sx 0 rfl (sx 1 rfl (sx 2 rfl (sx 24 rfl (sub_nil _))))) (.refl _) ?_
   refine hl_nil ?_
   refine hq_then ?_
   refine hc_true rfl ?_
   refine hc_seq ?_
   refine hc_region ?_
   refine hl_v rfl rfl rfl (rv_ev rfl) ?_
   refine hl_less (sx 0 rfl (sx 1 rfl (sx 2 rfl (sx 24 rfl (sub_nil _))))) (.refl _) ?_
   refine hl_nil ?_
   refine hq_then ?_
   refine hc_ret ?_
   refine hq_then_ret ?_
   exact hq_ans rfl rfl (congrArg _ (lnN_no (fun hp => by obtain ⟨si, s2, s3, s4⟩ := hp; omega)).symm)
  ·
   refine hl_v rfl rfl rfl (rv_ev rfl) ?_
   refine hl_v rfl rfl rfl (rv_ev rfl) ?_
   refine hl_v rfl rfl rfl (rv_field (k0 := 2) rfl (by kernel_rfl) rfl) ?_
   refine hl_v rfl rfl rfl (rv_load rfl (by kernel_rfl) rfl (box_cell 0 rfl rfl)) ?_
   refine hl_v rfl rfl rfl (rv_len rfl Try.underlying35 rfl (rd_old ((hr).lt.row))) ?_
   refine hl_gtr rfl rfl rfl rfl rfl rfl (fun h4 => ?_) (fun h4 => ?_)
   ·
    refine hl_v rfl rfl rfl (rv_ev rfl) ?_
    refine hl_v rfl rfl rfl (rv_ev rfl) ?_
    refine hl_skip rfl rfl rfl ?_
    refine hl_skip rfl rfl rfl ?_
    refine hl_skip rfl rfl rfl ?_
    refine hl_skip rfl rfl rfl ?_
    refine hl_v rfl rfl rfl (rv_ev rfl) ?_
    refine hl_less (sx 0 rfl (sx 1 rfl (sx 2 rfl (sx 24 rfl (sub_nil _))))) (.refl _) ?_
    refine hl_nil ?_
    refine hq_then ?_
    refine hc_true rfl ?_
    refine hc_seq ?_
    refine hc_region ?_
    refine hl_v rfl rfl rfl (rv_ev rfl) ?_
    refine hl_less (sx 0 rfl (sx 1 rfl (sx 2 rfl (sx 24 rfl (sub_nil _))))) (.refl _) ?_
    refine hl_nil ?_
    refine hq_then ?_
    refine hc_ret ?_
    refine hq_then_ret ?_
    exact hq_ans rfl rfl (congrArg _ (lnN_no (fun hp => by obtain ⟨si, s2, s3, s4⟩ := hp; omega)).symm)
   ·
    refine hl_v rfl rfl rfl (rv_ev rfl) ?_
    refine hl_v rfl rfl rfl (rv_ev rfl) ?_
    refine hl_v rfl rfl rfl (rv_field (k0 := 3) rfl (by kernel_rfl) rfl) ?_
    refine hl_v rfl rfl rfl (rv_load rfl (by kernel_rfl) rfl (box_cell 0 rfl rfl)) ?_
    refine hl_v rfl rfl rfl (rv_len rfl Try.underlying24 rfl (rd_old ((hr).ou))) ?_
    refine hl_gtr rfl rfl rfl rfl rfl rfl (fun h5 => ?_) (fun h5 => ?_)
    ·
     refine hl_v rfl rfl rfl (rv_ev rfl) ?_
     refine hl_less (sx 0 rfl (sx 1 rfl (sx 2 rfl (sx 24 rfl (sub_nil _))))) (.refl _) ?_
     refine hl_nil ?_
     refine hq_then ?_
     refine hc_true rfl ?_
     refine hc_seq ?_
     refine hc_region ?_
     refine hl_v rfl rfl rfl (rv_ev rfl) ?_
     refine hl_less (sx 0 rfl (sx 1 rfl (sx 2 rfl (sx 24 rfl (sub_nil _))))) (.refl _) ?_
     refine hl_nil ?_
     refine hq_then ?_
     refine hc_ret ?_
     refine hq_then_ret ?_
     exact hq_ans rfl rfl (congrArg _ (lnN_no (fun hp => by obtain ⟨si, s2, s3, s4⟩ := hp; omega)).symm)
    ·
     refine hl_v rfl rfl rfl (rv_ev rfl) ?_
     refine hl_less (sx 0 rfl (sx 1 rfl (sx 2 rfl (sx 24 rfl (sub_nil _))))) (.refl _) ?_
     refine hl_nil ?_
     refine hq_then ?_
     refine hc_false rfl ?_
     refine hc_skip ?_
     refine hq_then ?_
     refine hc_seq ?_
     refine hc_region ?_
     refine hl_v rfl rfl rfl (rv_loadN (cs := [.int .i64 n.ins, n.sv, n.lv, n.ov]) rfl (by kernel_rfl) (by kernel_rfl) rfl rfl (box_part 0 rfl 0 rfl)) ?_
     refine hl_callV rfl rfl rfl (rq_call (by kernel_rfl) rfl (fun w hm => ret_ans (lutNodes_ans n w (hr.below hm.bel) ⟨by omega, by omega, by omega, by omega⟩))) ?_
     refine hl_v rfl rfl rfl (rv_ev rfl) ?_
     refine hl_less (sx 0 rfl (sx 1 rfl (sx 2 rfl (sx 24 rfl (sub_nil _))))) (.refl _) ?_
     refine hl_nil ?_
     refine hq_then ?_
     refine hc_ret ?_
     exact hq_ans rfl rfl (congrArg (Value.int .i64) (show n.cnt = lnN n from (lnN_yes ⟨by omega, by omega, by omega, by omega⟩).symm))
 ·
  have h2a := inR_notL h2
  refine hl_v rfl rfl rfl (rv_ev rfl) ?_
  refine hl_v rfl rfl rfl (rv_ev rfl) ?_
  refine hl_skip rfl rfl rfl ?_
  refine hl_skip rfl rfl rfl ?_
  refine hl_skip rfl rfl rfl ?_
  refine hl_skip rfl rfl rfl ?_
  refine hl_v rfl rfl rfl (rv_ev rfl) ?_
  refine hl_v rfl rfl rfl (rv_ev rfl) ?_
  refine hl_skip rfl rfl rfl ?_
  refine hl_skip rfl rfl rfl ?_
  refine hl_skip rfl rfl rfl ?_
  refine hl_skip rfl rfl rfl ?_
  refine hl_v rfl rfl rfl (rv_ev rfl) ?_
  refine hl_v rfl rfl rfl (rv_ev rfl) ?_
  refine hl_skip rfl rfl rfl ?_
  refine hl_skip rfl rfl rfl ?_
  refine hl_skip rfl rfl rfl ?_
  refine hl_skip rfl rfl rfl ?_
  refine hl_v rfl rfl rfl (rv_ev rfl) ?_
  refine hl_less (sx 0 rfl (sx 1 rfl (sx 2 rfl (sx 24 rfl (sub_nil _))))) (.refl _) ?_
  refine hl_nil ?_
  refine hq_then ?_
  refine hc_true rfl ?_
  refine hc_seq ?_
  refine hc_region ?_
  refine hl_v rfl rfl rfl (rv_ev rfl) ?_
  refine hl_less (sx 0 rfl (sx 1 rfl (sx 2 rfl (sx 24 rfl (sub_nil _))))) (.refl _) ?_
  refine hl_nil ?_
  refine hq_then ?_
  refine hc_ret ?_
  refine hq_then_ret ?_
  exact hq_ans rfl rfl (congrArg _ (lnN_no (fun hp => by obtain ⟨si, s2, s3, s4⟩ := hp; omega)).symm)
set_option maxHeartbeats 4000000 in
set_option maxRecDepth 100000 in
theorem specLutNodes_ans (n : Ln) (w : World) (hr : RdsLn w n) :
  Calls Try.prog 53 #[.agg #[.int .i64 n.ins, n.sv, n.lv, n.ov]] w (Ans w (.int .i64 (lnN n))) := by
 have hso := sml hr.ou
 have hss := hr.sq.small
 have hsl := hr.lt.small
 have hcnt : n.cnt = 1 + n.ins + n.ss.length + n.ls.length := rfl
 have hfst : n.fst = 1 + n.ins + n.ss.length := rfl
 refine calls_hc (N := 36) (args := [.agg #[.int .i64 n.ins, n.sv, n.lv, n.ov]]) Try.func53 rfl rfl ?_
 refine hc_less _ (sx 0 rfl (sub_nil _)) (.refl _) ?_
 refine hc_seq ?_
 refine hc_region ?_
 refine hl_box rfl rfl rfl (rq_box rfl rfl) ?_
 intro b1
 refine hl_v rfl rfl rfl (rv_ev rfl) ?_
 refine hl_less (sx 0 rfl (sx 1 rfl (sx 2 rfl (sub_nil _)))) (.refl _) ?_
 refine hl_nil ?_
 refine hq_then ?_
 refine hc_seq ?_
 refine hc_seq ?_
 refine hc_region ?_
 refine hl_v rfl rfl rfl (rv_field (k0 := 0) rfl (by kernel_rfl) rfl) ?_
 refine hl_v rfl rfl rfl (rv_load rfl (by kernel_rfl) rfl (box_cell 0 rfl rfl)) ?_
 refine hl_callV rfl rfl rfl (rq_call (by kernel_rfl) rfl (fun w hm => ret_ans (l01In_ans n.ins 0 20 w))) ?_
 refine hl_bool (fun h2 => ?_) (fun h2 => ?_)
 ·
  obtain ⟨h2a, h2b⟩ := (inR_iff _ _ _).1 h2
  refine hl_v rfl rfl rfl (rv_ev rfl) ?_
  refine hl_v rfl rfl rfl (rv_ev rfl) ?_
  refine hl_v rfl rfl rfl (rv_field (k0 := 1) rfl (by kernel_rfl) rfl) ?_
  refine hl_v rfl rfl rfl (rv_load rfl (by kernel_rfl) rfl (box_cell 0 rfl rfl)) ?_
  refine hl_v rfl rfl rfl (rv_len rfl Try.underlying34 rfl (rd_old ((hr).sq.row))) ?_
  refine hl_gtr rfl rfl rfl rfl rfl rfl (fun h3 => ?_) (fun h3 => ?_)
  ·
   refine hl_v rfl rfl rfl (rv_ev rfl) ?_
   refine hl_v rfl rfl rfl (rv_ev rfl) ?_
   refine hl_skip rfl rfl rfl ?_
   refine hl_skip rfl rfl rfl ?_
   refine hl_skip rfl rfl rfl ?_
   refine hl_skip rfl rfl rfl ?_
   refine hl_v rfl rfl rfl (rv_ev rfl) ?_
   refine hl_v rfl rfl rfl (rv_ev rfl) ?_
   refine hl_skip rfl rfl rfl ?_
   refine hl_skip rfl rfl rfl ?_
   refine hl_skip rfl rfl rfl ?_
   refine hl_skip rfl rfl rfl ?_
   refine hl_v rfl rfl rfl (rv_ev rfl) ?_
   refine hl_less (sx 0 rfl (sx 1 rfl (sx 2 rfl (sx 24 rfl (sub_nil _))))) (.refl _) ?_
   refine hl_nil ?_
   refine hq_then ?_
   refine hc_true rfl ?_
   refine hc_seq ?_
   refine hc_region ?_
   refine hl_v rfl rfl rfl (rv_ev rfl) ?_
   refine hl_less (sx 0 rfl (sx 1 rfl (sx 2 rfl (sx 24 rfl (sub_nil _))))) (.refl _) ?_
   refine hl_nil ?_
   refine hq_then ?_
   refine hc_ret ?_
   refine hq_then_ret ?_
   exact hq_ans rfl rfl (congrArg _ (lnN_no (fun hp => by obtain ⟨si, s2, s3, s4⟩ := hp; omega)).symm)
  ·
   refine hl_v rfl rfl rfl (rv_ev rfl) ?_
   refine hl_v rfl rfl rfl (rv_ev rfl) ?_
   refine hl_v rfl rfl rfl (rv_field (k0 := 2) rfl (by kernel_rfl) rfl) ?_
   refine hl_v rfl rfl rfl (rv_load rfl (by kernel_rfl) rfl (box_cell 0 rfl rfl)) ?_
   refine hl_v rfl rfl rfl (rv_len rfl Try.underlying35 rfl (rd_old ((hr).lt.row))) ?_
   refine hl_gtr rfl rfl rfl rfl rfl rfl (fun h4 => ?_) (fun h4 => ?_)
   ·
    refine hl_v rfl rfl rfl (rv_ev rfl) ?_
    refine hl_v rfl rfl rfl (rv_ev rfl) ?_
    refine hl_skip rfl rfl rfl ?_
    refine hl_skip rfl rfl rfl ?_
    refine hl_skip rfl rfl rfl ?_
    refine hl_skip rfl rfl rfl ?_
    refine hl_v rfl rfl rfl (rv_ev rfl) ?_
    refine hl_less (sx 0 rfl (sx 1 rfl (sx 2 rfl (sx 24 rfl (sub_nil _))))) (.refl _) ?_
    refine hl_nil ?_
    refine hq_then ?_
    refine hc_true rfl ?_
    refine hc_seq ?_
    refine hc_region ?_
    refine hl_v rfl rfl rfl (rv_ev rfl) ?_
    refine hl_less (sx 0 rfl (sx 1 rfl (sx 2 rfl (sx 24 rfl (sub_nil _))))) (.refl _) ?_
    refine hl_nil ?_
    refine hq_then ?_
    refine hc_ret ?_
    refine hq_then_ret ?_
    exact hq_ans rfl rfl (congrArg _ (lnN_no (fun hp => by obtain ⟨si, s2, s3, s4⟩ := hp; omega)).symm)
   ·
    refine hl_v rfl rfl rfl (rv_ev rfl) ?_
    refine hl_v rfl rfl rfl (rv_ev rfl) ?_
    refine hl_v rfl rfl rfl (rv_field (k0 := 3) rfl (by kernel_rfl) rfl) ?_
    refine hl_v rfl rfl rfl (rv_load rfl (by kernel_rfl) rfl (box_cell 0 rfl rfl)) ?_
    refine hl_v rfl rfl rfl (rv_len rfl Try.underlying24 rfl (rd_old ((hr).ou))) ?_
    refine hl_gtr rfl rfl rfl rfl rfl rfl (fun h5 => ?_) (fun h5 => ?_)
    ·
     refine hl_v rfl rfl rfl (rv_ev rfl) ?_
     refine hl_less (sx 0 rfl (sx 1 rfl (sx 2 rfl (sx 24 rfl (sub_nil _))))) (.refl _) ?_
     refine hl_nil ?_
     refine hq_then ?_
     refine hc_true rfl ?_
     refine hc_seq ?_
     refine hc_region ?_
     refine hl_v rfl rfl rfl (rv_ev rfl) ?_
     refine hl_less (sx 0 rfl (sx 1 rfl (sx 2 rfl (sx 24 rfl (sub_nil _))))) (.refl _) ?_
     refine hl_nil ?_
     refine hq_then ?_
     refine hc_ret ?_
     refine hq_then_ret ?_
     exact hq_ans rfl rfl (congrArg _ (lnN_no (fun hp => by obtain ⟨si, s2, s3, s4⟩ := hp; omega)).symm)
    ·
     refine hl_v rfl rfl rfl (rv_ev rfl) ?_
     refine hl_less (sx 0 rfl (sx 1 rfl (sx 2 rfl (sx 24 rfl (sub_nil _))))) (.refl _) ?_
     refine hl_nil ?_
     refine hq_then ?_
     refine hc_false rfl ?_
     refine hc_skip ?_
     refine hq_then ?_
     refine hc_seq ?_
     refine hc_region ?_
     refine hl_v rfl rfl rfl (rv_field (k0 := 0) rfl (by kernel_rfl) rfl) ?_
     refine hl_v rfl rfl rfl (rv_load rfl (by kernel_rfl) rfl (box_cell 0 rfl rfl)) ?_
     refine hl_v rfl rfl rfl (rv_add rfl rfl rfl (by constructor <;> omega)) ?_
     refine hl_v rfl rfl rfl (rv_field (k0 := 1) rfl (by kernel_rfl) rfl) ?_
     refine hl_v rfl rfl rfl (rv_load rfl (by kernel_rfl) rfl (box_cell 0 rfl rfl)) ?_
     refine hl_v rfl rfl rfl (rv_len rfl Try.underlying34 rfl (rd_old ((hr).sq.row))) ?_
     refine hl_v rfl rfl rfl (rv_add rfl rfl rfl (by constructor <;> omega)) ?_
     refine hl_v rfl rfl rfl (rv_field (k0 := 2) rfl (by kernel_rfl) rfl) ?_
     refine hl_v rfl rfl rfl (rv_load rfl (by kernel_rfl) rfl (box_cell 0 rfl rfl)) ?_
     refine hl_v rfl rfl rfl (rv_len rfl Try.underlying35 rfl (rd_old ((hr).lt.row))) ?_
     refine hl_v rfl rfl rfl (rv_add rfl rfl rfl (by constructor <;> omega)) ?_
     refine hl_v rfl rfl rfl (rv_ev rfl) ?_
     refine hl_less (sx 0 rfl (sx 1 rfl (sx 2 rfl (sx 24 rfl (sub_nil _))))) (.refl _) ?_
     refine hl_nil ?_
     refine hq_then ?_
     refine hc_ret ?_
     exact hq_ans rfl rfl (congrArg (Value.int .i64) (show n.cnt = lnN n from (lnN_yes ⟨by omega, by omega, by omega, by omega⟩).symm))
 ·
  have h2a := inR_notL h2
  refine hl_v rfl rfl rfl (rv_ev rfl) ?_
  refine hl_v rfl rfl rfl (rv_ev rfl) ?_
  refine hl_skip rfl rfl rfl ?_
  refine hl_skip rfl rfl rfl ?_
  refine hl_skip rfl rfl rfl ?_
  refine hl_skip rfl rfl rfl ?_
  refine hl_v rfl rfl rfl (rv_ev rfl) ?_
  refine hl_v rfl rfl rfl (rv_ev rfl) ?_
  refine hl_skip rfl rfl rfl ?_
  refine hl_skip rfl rfl rfl ?_
  refine hl_skip rfl rfl rfl ?_
  refine hl_skip rfl rfl rfl ?_
  refine hl_v rfl rfl rfl (rv_ev rfl) ?_
  refine hl_v rfl rfl rfl (rv_ev rfl) ?_
  refine hl_skip rfl rfl rfl ?_
  refine hl_skip rfl rfl rfl ?_
  refine hl_skip rfl rfl rfl ?_
  refine hl_skip rfl rfl rfl ?_
  refine hl_v rfl rfl rfl (rv_ev rfl) ?_
  refine hl_less (sx 0 rfl (sx 1 rfl (sx 2 rfl (sx 24 rfl (sub_nil _))))) (.refl _) ?_
  refine hl_nil ?_
  refine hq_then ?_
  refine hc_true rfl ?_
  refine hc_seq ?_
  refine hc_region ?_
  refine hl_v rfl rfl rfl (rv_ev rfl) ?_
  refine hl_less (sx 0 rfl (sx 1 rfl (sx 2 rfl (sx 24 rfl (sub_nil _))))) (.refl _) ?_
  refine hl_nil ?_
  refine hq_then ?_
  refine hc_ret ?_
  refine hq_then_ret ?_
  exact hq_ans rfl rfl (congrArg _ (lnN_no (fun hp => by obtain ⟨si, s2, s3, s4⟩ := hp; omega)).symm)
set_option maxHeartbeats 4000000 in
set_option maxRecDepth 100000 in
theorem nodesBelow_ans (xs : List Int) (m : Int) (v : Value) (w : World) (hv : RdsW w v 1 xs.length (xs.map (Value.int .i64))) (hm0 : -1000 ≤ m ∧ m ≤ 1000000) :
  Calls Try.prog 94 #[v, .int .i64 m] w (Ans w (.bool (pB (BelowP xs m)))) := by
 have hsm := sml hv
 refine calls_hc (N := 19) (args := [v, .int .i64 m]) Try.func94 rfl rfl ?_
 refine hc_less _ (sx 0 rfl (sx 1 rfl (sub_nil _))) (.refl _) ?_
 refine hc_seq ?_
 refine hc_region ?_
 refine hl_v rfl rfl rfl (rv_ev rfl) ?_
 refine hl_less (sx 0 rfl (sx 1 rfl (sx 4 rfl (sub_nil _)))) (.refl _) ?_
 refine hl_nil ?_
 refine hq_then ?_
 refine hc_seq ?_
 refine hc_seq ?_
 refine hc_region ?_
 refine hl_v rfl rfl rfl (rv_ev rfl) ?_
 refine hl_v rfl rfl rfl (rv_len rfl Try.underlying24 rfl (rd_old hv)) ?_
 refine hl_v rfl rfl rfl (rv_ev rfl) ?_
 refine hl_less (sx 0 rfl (sx 1 rfl (sx 4 rfl (sx 7 rfl (sx 8 rfl (sx 9 rfl (sub_nil _))))))) (.refl _) ?_
 refine hl_nil ?_
 refine hq_then ?_
 refine hc_block ?_
 refine hc_loop1 (α := Nat) (fun j => []) (fun j => [(0, v), (1, .int .i64 m), (4, .bool false), (7, v), (8, .int .i64 (xs.length : Int)), (9, .int .i64 (j : Int))]) (fun j => j ≤ xs.length ∧ ∀ i, i < j → 0 ≤ xs.getD i 0 ∧ xs.getD i 0 < m) (fun j => xs.length - j) 0 ⟨Nat.zero_le _, fun i hi => absurd hi (by omega)⟩ (sx 0 rfl (sx 1 rfl (sx 4 rfl (sx 7 rfl (sx 8 rfl (sx 9 rfl (sub_nil _))))))) (.slnil) ?_
 intro j hi1
 obtain ⟨hj, hq⟩ := hi1
 refine hc_seq ?_
 refine hc_region ?_
 refine hl_lss rfl rfl rfl rfl rfl rfl (fun h2 => ?_) (fun h2 => ?_)
 ·
  refine hl_less (sx 0 rfl (sx 1 rfl (sx 4 rfl (sx 7 rfl (sx 8 rfl (sx 9 rfl (sx 10 rfl (sub_nil _)))))))) (.refl _) ?_
  refine hl_nil ?_
  refine hq_then ?_
  refine hc_seq ?_
  refine hc_true rfl ?_
  refine hc_skip ?_
  refine hq_then ?_
  refine hc_seq ?_
  refine hc_block ?_
  refine hc_seq ?_
  refine hc_region ?_
  refine hl_v rfl rfl rfl (rv_index (s := 1) rfl Try.underlying24 (by kernel_rfl) rfl rfl (rd_old hv) (by omega) (by first | omega | (simp only [List.length_set]; omega))) ?_
  refine hl_v rfl rfl rfl (rv_loadEl (u := .int .i64 (xs.getD j 0)) rfl (by kernel_rfl) rfl (rd_old hv) (ints_at1 (show _ < xs.length by first | omega | (simp only [List.length_set]; omega)))) ?_
  refine hl_v rfl rfl rfl (rv_ev rfl) ?_
  refine hl_less (sx 0 rfl (sx 1 rfl (sx 4 rfl (sx 6 rfl (sx 7 rfl (sx 8 rfl (sx 9 rfl (sx 10 rfl (sub_nil _))))))))) (.refl _) ?_
  refine hl_nil ?_
  refine hq_then ?_
  refine hc_seq ?_
  refine hc_region ?_
  refine hl_v rfl rfl rfl (rv_ev rfl) ?_
  refine hl_v rfl rfl rfl (rv_ev rfl) ?_
  refine hl_v rfl rfl rfl (rv_sub rfl rfl rfl (by constructor <;> omega)) ?_
  refine hl_callV rfl rfl rfl (rq_call (by kernel_rfl) rfl (fun w hm => ret_ans (ans_of (inRange_any _ _ _ w)))) ?_
  refine hl_bool (fun h3 => ?_) (fun h3 => ?_)
  ·
   obtain ⟨h3a, h3b⟩ := (inR_iff _ _ _).1 h3
   refine hl_v rfl rfl rfl (rv_ev rfl) ?_
   refine hl_less (sx 0 rfl (sx 1 rfl (sx 4 rfl (sx 6 rfl (sx 7 rfl (sx 8 rfl (sx 9 rfl (sx 10 rfl (sx 17 rfl (sub_nil _)))))))))) (.refl _) ?_
   refine hl_nil ?_
   refine hq_then ?_
   refine hc_false rfl ?_
   refine hc_skip ?_
   refine hq_block_normal ?_
   refine hq_then ?_
   refine hc_region ?_
   refine hl_v rfl rfl rfl (rv_add rfl rfl rfl (by constructor <;> omega)) ?_
   refine hl_v rfl rfl rfl (rv_ev rfl) ?_
   refine hl_less (sx 0 rfl (sx 1 rfl (sx 4 rfl (sx 6 rfl (sx 7 rfl (sx 8 rfl (sx 9 rfl (sx 10 rfl (sx 17 rfl (sub_nil _)))))))))) (.refl _) ?_
   refine hl_nil ?_
   exact hq_round1 (j + 1) ⟨by omega, fun i hi => by by_cases e : i = j; (subst e; omega); exact hq i (by omega)⟩ (by omega) (sx 0 rfl (sx 1 rfl (sx 4 rfl (sx 7 rfl (sx 8 rfl (sx 9 rfl (sub_nil _))))))) (.slnil)
  ·
   have h3a := inR_notL h3
   refine hl_v rfl rfl rfl (rv_ev rfl) ?_
   refine hl_less (sx 0 rfl (sx 1 rfl (sx 4 rfl (sx 6 rfl (sx 7 rfl (sx 8 rfl (sx 9 rfl (sx 10 rfl (sx 17 rfl (sub_nil _)))))))))) (.refl _) ?_
   refine hl_nil ?_
   refine hq_then ?_
   refine hc_true rfl ?_
   refine hc_seq ?_
   refine hc_region ?_
   refine hl_v rfl rfl rfl (rv_ev rfl) ?_
   refine hl_less (sx 0 rfl (sx 1 rfl (sx 4 rfl (sx 6 rfl (sx 7 rfl (sx 8 rfl (sx 9 rfl (sx 10 rfl (sx 17 rfl (sub_nil _)))))))))) (.refl _) ?_
   refine hl_nil ?_
   refine hq_then ?_
   refine hc_ret ?_
   refine hq_block_ret ?_
   refine hq_then_ret ?_
   refine hq_then_ret ?_
   refine hq_block_ret ?_
   refine hq_then_ret ?_
   exact hq_ans rfl rfl (congrArg _ (pB_no (fun hp => by first | (have h9 := hp j (by omega); omega))).symm)
 ·
  refine hl_less (sx 0 rfl (sx 1 rfl (sx 4 rfl (sx 7 rfl (sx 8 rfl (sx 9 rfl (sx 10 rfl (sub_nil _)))))))) (.refl _) ?_
  refine hl_nil ?_
  refine hq_then ?_
  refine hc_seq ?_
  refine hc_false rfl ?_
  refine hc_exit ?_
  refine hq_then_exit ?_
  refine hq_then_exit ?_
  refine hq_block_exit ?_
  refine hq_then ?_
  refine hc_seq ?_
  refine hc_region ?_
  refine hl_v rfl rfl rfl (rv_ev rfl) ?_
  refine hl_less (sx 0 rfl (sx 1 rfl (sx 4 rfl (sx 7 rfl (sx 8 rfl (sx 9 rfl (sx 10 rfl (sub_nil _)))))))) (.refl _) ?_
  refine hl_nil ?_
  refine hq_then ?_
  refine hc_ret ?_
  exact hq_ans rfl rfl (congrArg _ (pB_yes (fun i hi => hq i (by omega))).symm)
set_option maxHeartbeats 4000000 in
set_option maxRecDepth 100000 in
theorem l20Below_ans (xs : List Int) (m : Int) (v : Value) (w : World) (hv : RdsW w v 1 xs.length (xs.map (Value.int .i64))) (hm0 : -1000 ≤ m ∧ m ≤ 1000000) :
  Calls Try.prog 89 #[v, .int .i64 m] w (Ans w (.bool (pB (BelowP xs m)))) := by
 have hsm := sml hv
 refine calls_hc (N := 25) (args := [v, .int .i64 m]) Try.func89 rfl rfl ?_
 refine hc_less _ (sx 0 rfl (sx 1 rfl (sub_nil _))) (.refl _) ?_
 refine hc_seq ?_
 refine hc_region ?_
 refine hl_v rfl rfl rfl (rv_ev rfl) ?_
 refine hl_less (sx 0 rfl (sx 1 rfl (sx 4 rfl (sub_nil _)))) (.refl _) ?_
 refine hl_nil ?_
 refine hq_then ?_
 refine hc_seq ?_
 refine hc_seq ?_
 refine hc_region ?_
 refine hl_v rfl rfl rfl (rv_ev rfl) ?_
 refine hl_less (sx 0 rfl (sx 1 rfl (sx 4 rfl (sx 5 rfl (sub_nil _))))) (.refl _) ?_
 refine hl_nil ?_
 refine hq_then ?_
 refine hc_block ?_
 refine hc_loop1 (α := Nat) (fun j => []) (fun j => [(0, v), (1, .int .i64 m), (4, .bool false), (5, .int .i64 (j : Int))]) (fun j => j ≤ xs.length ∧ ∀ i, i < j → 0 ≤ xs.getD i 0 ∧ xs.getD i 0 < m) (fun j => xs.length - j) 0 ⟨Nat.zero_le _, fun i hi => absurd hi (by omega)⟩ (sx 0 rfl (sx 1 rfl (sx 4 rfl (sx 5 rfl (sub_nil _))))) (.slnil) ?_
 intro j hi1
 obtain ⟨hj, hq⟩ := hi1
 refine hc_seq ?_
 refine hc_seq ?_
 refine hc_region ?_
 refine hl_v rfl rfl rfl (rv_ev rfl) ?_
 refine hl_v rfl rfl rfl (rv_ev rfl) ?_
 refine hl_v rfl rfl rfl (rv_len rfl Try.underlying24 rfl (rd_old hv)) ?_
 refine hl_lss rfl rfl rfl rfl rfl rfl (fun h2 => ?_) (fun h2 => ?_)
 ·
  refine hl_less (sx 0 rfl (sx 1 rfl (sx 4 rfl (sx 5 rfl (sx 9 rfl (sub_nil _)))))) (.refl _) ?_
  refine hl_nil ?_
  refine hq_then ?_
  refine hc_true rfl ?_
  refine hc_skip ?_
  refine hq_then ?_
  refine hc_seq ?_
  refine hc_block ?_
  refine hc_seq ?_
  refine hc_region ?_
  refine hl_v rfl rfl rfl (rv_ev rfl) ?_
  refine hl_v rfl rfl rfl (rv_ev rfl) ?_
  refine hl_v rfl rfl rfl (rv_index (s := 1) rfl Try.underlying24 (by kernel_rfl) rfl rfl (rd_old hv) (by omega) (by first | omega | (simp only [List.length_set]; omega))) ?_
  refine hl_v rfl rfl rfl (rv_loadEl (u := .int .i64 (xs.getD j 0)) rfl (by kernel_rfl) rfl (rd_old hv) (ints_at1 (show _ < xs.length by first | omega | (simp only [List.length_set]; omega)))) ?_
  refine hl_lss rfl rfl rfl rfl rfl rfl (fun h3 => ?_) (fun h3 => ?_)
  ·
   refine hl_v rfl rfl rfl (rv_ev rfl) ?_
   refine hl_skip rfl rfl rfl ?_
   refine hl_skip rfl rfl rfl ?_
   refine hl_skip rfl rfl rfl ?_
   refine hl_skip rfl rfl rfl ?_
   refine hl_skip rfl rfl rfl ?_
   refine hl_skip rfl rfl rfl ?_
   refine hl_v rfl rfl rfl (rv_ev rfl) ?_
   refine hl_less (sx 0 rfl (sx 1 rfl (sx 4 rfl (sx 5 rfl (sx 9 rfl (sx 24 rfl (sub_nil _))))))) (.refl _) ?_
   refine hl_nil ?_
   refine hq_then ?_
   refine hc_true rfl ?_
   refine hc_seq ?_
   refine hc_region ?_
   refine hl_v rfl rfl rfl (rv_ev rfl) ?_
   refine hl_less (sx 0 rfl (sx 1 rfl (sx 4 rfl (sx 5 rfl (sx 9 rfl (sx 24 rfl (sub_nil _))))))) (.refl _) ?_
   refine hl_nil ?_
   refine hq_then ?_
   refine hc_ret ?_
   refine hq_block_ret ?_
   refine hq_then_ret ?_
   refine hq_then_ret ?_
   refine hq_block_ret ?_
   refine hq_then_ret ?_
   exact hq_ans rfl rfl (congrArg _ (pB_no (fun hp => by first | (have h9 := hp j (by omega); omega))).symm)
  ·
   refine hl_v rfl rfl rfl (rv_ev rfl) ?_
   refine hl_v rfl rfl rfl (rv_ev rfl) ?_
   refine hl_v rfl rfl rfl (rv_ev rfl) ?_
   refine hl_v rfl rfl rfl (rv_index (s := 1) rfl Try.underlying24 (by kernel_rfl) rfl rfl (rd_old hv) (by omega) (by first | omega | (simp only [List.length_set]; omega))) ?_
   refine hl_v rfl rfl rfl (rv_loadEl (u := .int .i64 (xs.getD j 0)) rfl (by kernel_rfl) rfl (rd_old hv) (ints_at1 (show _ < xs.length by first | omega | (simp only [List.length_set]; omega)))) ?_
   refine hl_v rfl rfl rfl (rv_ev rfl) ?_
   refine hl_geq rfl rfl rfl rfl rfl rfl (fun h4 => ?_) (fun h4 => ?_)
   ·
    refine hl_v rfl rfl rfl (rv_ev rfl) ?_
    refine hl_less (sx 0 rfl (sx 1 rfl (sx 4 rfl (sx 5 rfl (sx 9 rfl (sx 24 rfl (sub_nil _))))))) (.refl _) ?_
    refine hl_nil ?_
    refine hq_then ?_
    refine hc_true rfl ?_
    refine hc_seq ?_
    refine hc_region ?_
    refine hl_v rfl rfl rfl (rv_ev rfl) ?_
    refine hl_less (sx 0 rfl (sx 1 rfl (sx 4 rfl (sx 5 rfl (sx 9 rfl (sx 24 rfl (sub_nil _))))))) (.refl _) ?_
    refine hl_nil ?_
    refine hq_then ?_
    refine hc_ret ?_
    refine hq_block_ret ?_
    refine hq_then_ret ?_
    refine hq_then_ret ?_
    refine hq_block_ret ?_
    refine hq_then_ret ?_
    exact hq_ans rfl rfl (congrArg _ (pB_no (fun hp => by first | (have h9 := hp j (by omega); omega))).symm)
   ·
    refine hl_v rfl rfl rfl (rv_ev rfl) ?_
    refine hl_less (sx 0 rfl (sx 1 rfl (sx 4 rfl (sx 5 rfl (sx 9 rfl (sx 24 rfl (sub_nil _))))))) (.refl _) ?_
    refine hl_nil ?_
    refine hq_then ?_
    refine hc_false rfl ?_
    refine hc_skip ?_
    refine hq_block_normal ?_
    refine hq_then ?_
    refine hc_region ?_
    refine hl_v rfl rfl rfl (rv_ev rfl) ?_
    refine hl_v rfl rfl rfl (rv_add rfl rfl rfl (by constructor <;> omega)) ?_
    refine hl_v rfl rfl rfl (rv_ev rfl) ?_
    refine hl_less (sx 0 rfl (sx 1 rfl (sx 4 rfl (sx 5 rfl (sx 9 rfl (sx 24 rfl (sub_nil _))))))) (.refl _) ?_
    refine hl_nil ?_
    exact hq_round1 (j + 1) ⟨by omega, fun i hi => by by_cases e : i = j; (subst e; omega); exact hq i (by omega)⟩ (by omega) (sx 0 rfl (sx 1 rfl (sx 4 rfl (sx 5 rfl (sub_nil _))))) (.slnil)
 ·
  refine hl_less (sx 0 rfl (sx 1 rfl (sx 4 rfl (sx 5 rfl (sx 9 rfl (sub_nil _)))))) (.refl _) ?_
  refine hl_nil ?_
  refine hq_then ?_
  refine hc_false rfl ?_
  refine hc_exit ?_
  refine hq_then_exit ?_
  refine hq_then_exit ?_
  refine hq_block_exit ?_
  refine hq_then ?_
  refine hc_seq ?_
  refine hc_region ?_
  refine hl_v rfl rfl rfl (rv_ev rfl) ?_
  refine hl_less (sx 0 rfl (sx 1 rfl (sx 4 rfl (sx 5 rfl (sx 9 rfl (sub_nil _)))))) (.refl _) ?_
  refine hl_nil ?_
  refine hq_then ?_
  refine hc_ret ?_
  exact hq_ans rfl rfl (congrArg _ (pB_yes (fun i hi => hq i (by omega))).symm)
set_option maxHeartbeats 4000000 in
set_option maxRecDepth 100000 in
theorem l37List_ans (xs : List Int) (n m : Int) (v : Value) (w : World) (hv : RdsW w v 1 xs.length (xs.map (Value.int .i64))) :
  Calls Try.prog 44 #[v, .int .i64 n, .int .i64 m] w (Ans w (.bool (pB (LiP xs n m)))) := by
 have hsm := sml hv
 refine calls_hc (N := 25) (args := [v, .int .i64 n, .int .i64 m]) Try.func44 rfl rfl ?_
 refine hc_less _ (sx 0 rfl (sx 1 rfl (sx 2 rfl (sub_nil _)))) (.refl _) ?_
 refine hc_seq ?_
 refine hc_region ?_
 refine hl_v rfl rfl rfl (rv_ev rfl) ?_
 refine hl_less (sx 0 rfl (sx 1 rfl (sx 2 rfl (sx 6 rfl (sub_nil _))))) (.refl _) ?_
 refine hl_nil ?_
 refine hq_then ?_
 refine hc_seq ?_
 refine hc_seq ?_
 refine hc_region ?_
 refine hl_v rfl rfl rfl (rv_ev rfl) ?_
 refine hl_less (sx 0 rfl (sx 1 rfl (sx 2 rfl (sx 6 rfl (sx 7 rfl (sub_nil _)))))) (.refl _) ?_
 refine hl_nil ?_
 refine hq_then ?_
 refine hc_block ?_
 refine hc_loop1 (α := Nat) (fun j => []) (fun j => [(0, v), (1, .int .i64 n), (2, .int .i64 m), (6, .bool false), (7, .int .i64 (j : Int))]) (fun j => j ≤ xs.length ∧ ∀ i, i < j → 0 ≤ xs.getD i 0 ∧ xs.getD i 0 ≤ m) (fun j => xs.length - j) 0 ⟨Nat.zero_le _, fun i hi => absurd hi (by omega)⟩ (sx 0 rfl (sx 1 rfl (sx 2 rfl (sx 6 rfl (sx 7 rfl (sub_nil _)))))) (.slnil) ?_
 intro j hi1
 obtain ⟨hj, hq⟩ := hi1
 refine hc_seq ?_
 refine hc_seq ?_
 refine hc_region ?_
 refine hl_v rfl rfl rfl (rv_ev rfl) ?_
 refine hl_v rfl rfl rfl (rv_ev rfl) ?_
 refine hl_v rfl rfl rfl (rv_len rfl Try.underlying24 rfl (rd_old hv)) ?_
 refine hl_lss rfl rfl rfl rfl rfl rfl (fun h2 => ?_) (fun h2 => ?_)
 ·
  refine hl_less (sx 0 rfl (sx 1 rfl (sx 2 rfl (sx 6 rfl (sx 7 rfl (sx 11 rfl (sub_nil _))))))) (.refl _) ?_
  refine hl_nil ?_
  refine hq_then ?_
  refine hc_true rfl ?_
  refine hc_skip ?_
  refine hq_then ?_
  refine hc_seq ?_
  refine hc_block ?_
  refine hc_seq ?_
  refine hc_region ?_
  refine hl_v rfl rfl rfl (rv_ev rfl) ?_
  refine hl_v rfl rfl rfl (rv_ev rfl) ?_
  refine hl_v rfl rfl rfl (rv_index (s := 1) rfl Try.underlying24 (by kernel_rfl) rfl rfl (rd_old hv) (by omega) (by first | omega | (simp only [List.length_set]; omega))) ?_
  refine hl_v rfl rfl rfl (rv_loadEl (u := .int .i64 (xs.getD j 0)) rfl (by kernel_rfl) rfl (rd_old hv) (ints_at1 (show _ < xs.length by first | omega | (simp only [List.length_set]; omega)))) ?_
  refine hl_v rfl rfl rfl (rv_ev rfl) ?_
  refine hl_callV rfl rfl rfl (rq_call (by kernel_rfl) rfl (fun w hm => ret_ans (l01In_ans (xs.getD j 0) 0 m w))) ?_
  refine hl_bool (fun h3 => ?_) (fun h3 => ?_)
  ·
   obtain ⟨h3a, h3b⟩ := (inR_iff _ _ _).1 h3
   refine hl_v rfl rfl rfl (rv_ev rfl) ?_
   refine hl_less (sx 0 rfl (sx 1 rfl (sx 2 rfl (sx 6 rfl (sx 7 rfl (sx 11 rfl (sx 20 rfl (sub_nil _)))))))) (.refl _) ?_
   refine hl_nil ?_
   refine hq_then ?_
   refine hc_false rfl ?_
   refine hc_skip ?_
   refine hq_block_normal ?_
   refine hq_then ?_
   refine hc_region ?_
   refine hl_v rfl rfl rfl (rv_ev rfl) ?_
   refine hl_v rfl rfl rfl (rv_add rfl rfl rfl (by constructor <;> omega)) ?_
   refine hl_v rfl rfl rfl (rv_ev rfl) ?_
   refine hl_less (sx 0 rfl (sx 1 rfl (sx 2 rfl (sx 6 rfl (sx 7 rfl (sx 11 rfl (sx 20 rfl (sub_nil _)))))))) (.refl _) ?_
   refine hl_nil ?_
   exact hq_round1 (j + 1) ⟨by omega, fun i hi => by by_cases e : i = j; (subst e; omega); exact hq i (by omega)⟩ (by omega) (sx 0 rfl (sx 1 rfl (sx 2 rfl (sx 6 rfl (sx 7 rfl (sub_nil _)))))) (.slnil)
  ·
   have h3a := inR_notL h3
   refine hl_v rfl rfl rfl (rv_ev rfl) ?_
   refine hl_less (sx 0 rfl (sx 1 rfl (sx 2 rfl (sx 6 rfl (sx 7 rfl (sx 11 rfl (sx 20 rfl (sub_nil _)))))))) (.refl _) ?_
   refine hl_nil ?_
   refine hq_then ?_
   refine hc_true rfl ?_
   refine hc_seq ?_
   refine hc_region ?_
   refine hl_v rfl rfl rfl (rv_ev rfl) ?_
   refine hl_less (sx 0 rfl (sx 1 rfl (sx 2 rfl (sx 6 rfl (sx 7 rfl (sx 11 rfl (sx 20 rfl (sub_nil _)))))))) (.refl _) ?_
   refine hl_nil ?_
   refine hq_then ?_
   refine hc_ret ?_
   refine hq_block_ret ?_
   refine hq_then_ret ?_
   refine hq_then_ret ?_
   refine hq_block_ret ?_
   refine hq_then_ret ?_
   exact hq_ans rfl rfl (congrArg _ (pB_no (fun hp => by first | (have h9 := hp.1; omega) | (have h9 := hp.2 j (by omega); omega))).symm)
 ·
  refine hl_less (sx 0 rfl (sx 1 rfl (sx 2 rfl (sx 6 rfl (sx 7 rfl (sx 11 rfl (sub_nil _))))))) (.refl _) ?_
  refine hl_nil ?_
  refine hq_then ?_
  refine hc_false rfl ?_
  refine hc_exit ?_
  refine hq_then_exit ?_
  refine hq_then_exit ?_
  refine hq_block_exit ?_
  refine hq_then ?_
  refine hc_seq ?_
  refine hc_region ?_
  refine hl_v rfl rfl rfl (rv_ev rfl) ?_
  refine hl_v rfl rfl rfl (rv_len rfl Try.underlying24 rfl (rd_old hv)) ?_
  refine hl_v rfl rfl rfl (rv_ev rfl) ?_
  refine hl_eql rfl rfl rfl rfl rfl rfl (fun h4 => ?_) (fun h4 => ?_)
  ·
   refine hl_v rfl rfl rfl (rv_ev rfl) ?_
   refine hl_less (sx 0 rfl (sx 1 rfl (sx 2 rfl (sx 6 rfl (sx 7 rfl (sx 11 rfl (sub_nil _))))))) (.refl _) ?_
   refine hl_nil ?_
   refine hq_then ?_
   refine hc_ret ?_
   exact hq_ans rfl rfl (congrArg _ (pB_yes ⟨by omega, fun i hi => hq i (by omega)⟩).symm)
  ·
   refine hl_v rfl rfl rfl (rv_ev rfl) ?_
   refine hl_less (sx 0 rfl (sx 1 rfl (sx 2 rfl (sx 6 rfl (sx 7 rfl (sx 11 rfl (sub_nil _))))))) (.refl _) ?_
   refine hl_nil ?_
   refine hq_then ?_
   refine hc_ret ?_
   exact hq_ans rfl rfl (congrArg _ (pB_no (fun hp => by first | (have h9 := hp.1; omega) | (have h9 := hp.2 j (by omega); omega))).symm)
set_option maxHeartbeats 4000000 in
set_option maxRecDepth 100000 in
theorem seqOk_ans (s : Sq) (w : World) (hx : RdsW w s.iv 1 s.xs.length (s.xs.map (Value.int .i64))) :
  Calls Try.prog 95 #[.agg #[.int .i64 s.kd, .int .i64 s.it, s.iv]] w (Ans w (.bool (pB (SqOk s)))) := by
 refine calls_hc (N := 27) (args := [.agg #[.int .i64 s.kd, .int .i64 s.it, s.iv]]) Try.func95 rfl rfl ?_
 refine hc_less _ (sx 0 rfl (sub_nil _)) (.refl _) ?_
 refine hc_seq ?_
 refine hc_region ?_
 refine hl_box rfl rfl rfl (rq_box rfl rfl) ?_
 intro b1
 refine hl_v rfl rfl rfl (rv_ev rfl) ?_
 refine hl_less (sx 0 rfl (sx 1 rfl (sx 2 rfl (sub_nil _)))) (.refl _) ?_
 refine hl_nil ?_
 refine hq_then ?_
 refine hc_seq ?_
 refine hc_seq ?_
 refine hc_region ?_
 refine hl_v rfl rfl rfl (rv_field (k0 := 0) rfl (by kernel_rfl) rfl) ?_
 refine hl_v rfl rfl rfl (rv_load rfl (by kernel_rfl) rfl (box_cell 0 rfl rfl)) ?_
 refine hl_less (sx 0 rfl (sx 1 rfl (sx 2 rfl (sx 4 rfl (sub_nil _))))) (.refl _) ?_
 refine hl_nil ?_
 refine hq_then ?_
 refine hc_block ?_
 refine hc_seq ?_
 refine hc_region ?_
 refine hl_eql rfl rfl rfl rfl rfl rfl (fun h2 => ?_) (fun h2 => ?_)
 ·
  refine hl_v rfl rfl rfl (rv_ev rfl) ?_
  refine hl_less (sx 0 rfl (sx 1 rfl (sx 2 rfl (sx 4 rfl (sx 5 rfl (sub_nil _)))))) (.refl _) ?_
  refine hl_nil ?_
  refine hq_then ?_
  refine hc_true rfl ?_
  refine hc_seq ?_
  refine hc_region ?_
  refine hl_v rfl rfl rfl (rv_field (k0 := 1) rfl (by kernel_rfl) rfl) ?_
  refine hl_v rfl rfl rfl (rv_load rfl (by kernel_rfl) rfl (box_cell 0 rfl rfl)) ?_
  refine hl_callV rfl rfl rfl (rq_call (by kernel_rfl) rfl (fun w hm => ret_ans (ans_of (inRange_any _ _ _ w)))) ?_
  refine hl_bool (fun h3 => ?_) (fun h3 => ?_)
  ·
   obtain ⟨h3a, h3b⟩ := (inR_iff _ _ _).1 h3
   refine hl_v rfl rfl rfl (rv_ev rfl) ?_
   refine hl_v rfl rfl rfl (rv_field (k0 := 2) rfl (by kernel_rfl) rfl) ?_
   refine hl_v rfl rfl rfl (rv_load rfl (by kernel_rfl) rfl (box_cell 0 rfl rfl)) ?_
   refine hl_v rfl rfl rfl (rv_len rfl Try.underlying24 rfl (rd_old hx)) ?_
   refine hl_eql rfl rfl rfl rfl rfl rfl (fun h4 => ?_) (fun h4 => ?_)
   ·
    refine hl_v rfl rfl rfl (rv_ev rfl) ?_
    refine hl_v rfl rfl rfl (rv_ev rfl) ?_
    refine hl_less (sx 0 rfl (sx 1 rfl (sx 2 rfl (sx 4 rfl (sx 5 rfl (sub_nil _)))))) (.refl _) ?_
    refine hl_nil ?_
    refine hq_then ?_
    refine hc_ret ?_
    refine hq_block_ret ?_
    refine hq_then_ret ?_
    exact hq_ans rfl rfl (congrArg _ (pB_yes ⟨by omega⟩).symm)
   ·
    refine hl_v rfl rfl rfl (rv_ev rfl) ?_
    refine hl_v rfl rfl rfl (rv_ev rfl) ?_
    refine hl_less (sx 0 rfl (sx 1 rfl (sx 2 rfl (sx 4 rfl (sx 5 rfl (sub_nil _)))))) (.refl _) ?_
    refine hl_nil ?_
    refine hq_then ?_
    refine hc_ret ?_
    refine hq_block_ret ?_
    refine hq_then_ret ?_
    exact hq_ans rfl rfl (congrArg _ (pB_no (fun hp => by first | (rcases hp.kind with ⟨a, b, c⟩ | ⟨a, b, c⟩ <;> omega))).symm)
  ·
   have h3a := inR_notL h3
   refine hl_v rfl rfl rfl (rv_ev rfl) ?_
   refine hl_skip rfl rfl rfl ?_
   refine hl_skip rfl rfl rfl ?_
   refine hl_skip rfl rfl rfl ?_
   refine hl_skip rfl rfl rfl ?_
   refine hl_v rfl rfl rfl (rv_ev rfl) ?_
   refine hl_v rfl rfl rfl (rv_ev rfl) ?_
   refine hl_less (sx 0 rfl (sx 1 rfl (sx 2 rfl (sx 4 rfl (sx 5 rfl (sub_nil _)))))) (.refl _) ?_
   refine hl_nil ?_
   refine hq_then ?_
   refine hc_ret ?_
   refine hq_block_ret ?_
   refine hq_then_ret ?_
   exact hq_ans rfl rfl (congrArg _ (pB_no (fun hp => by first | (rcases hp.kind with ⟨a, b, c⟩ | ⟨a, b, c⟩ <;> omega))).symm)
 ·
  refine hl_v rfl rfl rfl (rv_ev rfl) ?_
  refine hl_less (sx 0 rfl (sx 1 rfl (sx 2 rfl (sx 4 rfl (sx 5 rfl (sub_nil _)))))) (.refl _) ?_
  refine hl_nil ?_
  refine hq_then ?_
  refine hc_false rfl ?_
  refine hc_seq ?_
  refine hc_region ?_
  refine hl_eql rfl rfl rfl rfl rfl rfl (fun h5 => ?_) (fun h5 => ?_)
  ·
   refine hl_v rfl rfl rfl (rv_ev rfl) ?_
   refine hl_less (sx 0 rfl (sx 1 rfl (sx 2 rfl (sx 4 rfl (sx 5 rfl (sx 16 rfl (sub_nil _))))))) (.refl _) ?_
   refine hl_nil ?_
   refine hq_then ?_
   refine hc_true rfl ?_
   refine hc_seq ?_
   refine hc_region ?_
   refine hl_v rfl rfl rfl (rv_field (k0 := 1) rfl (by kernel_rfl) rfl) ?_
   refine hl_v rfl rfl rfl (rv_load rfl (by kernel_rfl) rfl (box_cell 0 rfl rfl)) ?_
   refine hl_callV rfl rfl rfl (rq_call (by kernel_rfl) rfl (fun w hm => ret_ans (ans_of (inRange_any _ _ _ w)))) ?_
   refine hl_bool (fun h6 => ?_) (fun h6 => ?_)
   ·
    obtain ⟨h6a, h6b⟩ := (inR_iff _ _ _).1 h6
    refine hl_v rfl rfl rfl (rv_ev rfl) ?_
    refine hl_v rfl rfl rfl (rv_field (k0 := 2) rfl (by kernel_rfl) rfl) ?_
    refine hl_v rfl rfl rfl (rv_load rfl (by kernel_rfl) rfl (box_cell 0 rfl rfl)) ?_
    refine hl_v rfl rfl rfl (rv_len rfl Try.underlying24 rfl (rd_old hx)) ?_
    refine hl_eql rfl rfl rfl rfl rfl rfl (fun h7 => ?_) (fun h7 => ?_)
    ·
     refine hl_v rfl rfl rfl (rv_ev rfl) ?_
     refine hl_v rfl rfl rfl (rv_ev rfl) ?_
     refine hl_less (sx 0 rfl (sx 1 rfl (sx 2 rfl (sx 4 rfl (sx 5 rfl (sx 16 rfl (sub_nil _))))))) (.refl _) ?_
     refine hl_nil ?_
     refine hq_then ?_
     refine hc_ret ?_
     refine hq_block_ret ?_
     refine hq_then_ret ?_
     exact hq_ans rfl rfl (congrArg _ (pB_yes ⟨by omega⟩).symm)
    ·
     refine hl_v rfl rfl rfl (rv_ev rfl) ?_
     refine hl_v rfl rfl rfl (rv_ev rfl) ?_
     refine hl_less (sx 0 rfl (sx 1 rfl (sx 2 rfl (sx 4 rfl (sx 5 rfl (sx 16 rfl (sub_nil _))))))) (.refl _) ?_
     refine hl_nil ?_
     refine hq_then ?_
     refine hc_ret ?_
     refine hq_block_ret ?_
     refine hq_then_ret ?_
     exact hq_ans rfl rfl (congrArg _ (pB_no (fun hp => by first | (rcases hp.kind with ⟨a, b, c⟩ | ⟨a, b, c⟩ <;> omega))).symm)
   ·
    have h6a := inR_notL h6
    refine hl_v rfl rfl rfl (rv_ev rfl) ?_
    refine hl_skip rfl rfl rfl ?_
    refine hl_skip rfl rfl rfl ?_
    refine hl_skip rfl rfl rfl ?_
    refine hl_skip rfl rfl rfl ?_
    refine hl_v rfl rfl rfl (rv_ev rfl) ?_
    refine hl_v rfl rfl rfl (rv_ev rfl) ?_
    refine hl_less (sx 0 rfl (sx 1 rfl (sx 2 rfl (sx 4 rfl (sx 5 rfl (sx 16 rfl (sub_nil _))))))) (.refl _) ?_
    refine hl_nil ?_
    refine hq_then ?_
    refine hc_ret ?_
    refine hq_block_ret ?_
    refine hq_then_ret ?_
    exact hq_ans rfl rfl (congrArg _ (pB_no (fun hp => by first | (rcases hp.kind with ⟨a, b, c⟩ | ⟨a, b, c⟩ <;> omega))).symm)
  ·
   refine hl_v rfl rfl rfl (rv_ev rfl) ?_
   refine hl_less (sx 0 rfl (sx 1 rfl (sx 2 rfl (sx 4 rfl (sx 5 rfl (sx 16 rfl (sub_nil _))))))) (.refl _) ?_
   refine hl_nil ?_
   refine hq_then ?_
   refine hc_false rfl ?_
   refine hc_skip ?_
   refine hq_block_normal ?_
   refine hq_then ?_
   refine hc_seq ?_
   refine hc_region ?_
   refine hl_v rfl rfl rfl (rv_ev rfl) ?_
   refine hl_less (sx 0 rfl (sx 1 rfl (sx 2 rfl (sx 4 rfl (sx 5 rfl (sx 16 rfl (sub_nil _))))))) (.refl _) ?_
   refine hl_nil ?_
   refine hq_then ?_
   refine hc_ret ?_
   exact hq_ans rfl rfl (congrArg _ (pB_no (fun hp => by first | (rcases hp.kind with ⟨a, b, c⟩ | ⟨a, b, c⟩ <;> omega))).symm)
set_option maxHeartbeats 4000000 in
set_option maxRecDepth 100000 in
theorem l02FullT_ans (n : Int) (w : World) (hn : 0 ≤ n ∧ n ≤ 4) :
  Calls Try.prog 100 #[.int .i64 n] w (Ans w (.int .i64 (qT n - 1))) := by
 have hp := pT_rng hn
 have hq := qT_rng hn
 refine calls_hc (N := 7) (args := [.int .i64 n]) Try.func100 rfl rfl ?_
 refine hc_less _ (sx 0 rfl (sub_nil _)) (.refl _) ?_
 refine hc_seq ?_
 refine hc_region ?_
 refine hl_v rfl rfl rfl (rv_ev rfl) ?_
 refine hl_less (sx 0 rfl (sx 2 rfl (sub_nil _))) (.refl _) ?_
 refine hl_nil ?_
 refine hq_then ?_
 refine hc_seq ?_
 refine hc_region ?_
 refine hl_v rfl rfl rfl (rv_ev rfl) ?_
 refine hl_v rfl rfl rfl (rv_shlG (k := .u64) (kk := .i64) (r := (pT n : Int)) rfl rfl rfl rfl (by omega) (wruT hn)) ?_
 refine hl_v rfl rfl rfl (rv_shlG (k := .i64) (kk := .u64) (r := qT n) rfl rfl rfl rfl (by omega) (wrqT (by omega))) ?_
 refine hl_v rfl rfl rfl (rv_sub rfl rfl rfl (by constructor <;> omega)) ?_
 refine hl_v rfl rfl rfl (rv_ev rfl) ?_
 refine hl_less (sx 0 rfl (sx 2 rfl (sub_nil _))) (.refl _) ?_
 refine hl_nil ?_
 refine hq_then ?_
 refine hc_ret ?_
 exact hq_ans rfl rfl rfl
set_option maxHeartbeats 4000000 in
set_option maxRecDepth 100000 in
theorem implTabOk_ans (n b : Int) (w : World)  :
  Calls Try.prog 96 #[.agg #[.int .i64 n, .int .i64 b]] w (Ans w (.bool (pB (TabP n b)))) := by
 refine calls_hc (N := 17) (args := [.agg #[.int .i64 n, .int .i64 b]]) Try.func96 rfl rfl ?_
 refine hc_less _ (sx 0 rfl (sub_nil _)) (.refl _) ?_
 refine hc_seq ?_
 refine hc_region ?_
 refine hl_box rfl rfl rfl (rq_box rfl rfl) ?_
 intro b1
 refine hl_v rfl rfl rfl (rv_ev rfl) ?_
 refine hl_less (sx 0 rfl (sx 1 rfl (sx 2 rfl (sub_nil _)))) (.refl _) ?_
 refine hl_nil ?_
 refine hq_then ?_
 refine hc_seq ?_
 refine hc_region ?_
 refine hl_v rfl rfl rfl (rv_field (k0 := 0) rfl (by kernel_rfl) rfl) ?_
 refine hl_v rfl rfl rfl (rv_load rfl (by kernel_rfl) rfl (box_cell 0 rfl rfl)) ?_
 refine hl_callV rfl rfl rfl (rq_call (by kernel_rfl) rfl (fun w hm => ret_ans (ans_of (inRange_any _ _ _ w)))) ?_
 refine hl_bool (fun h2 => ?_) (fun h2 => ?_)
 ·
  obtain ⟨h2a, h2b⟩ := (inR_iff _ _ _).1 h2
  refine hl_v rfl rfl rfl (rv_ev rfl) ?_
  refine hl_v rfl rfl rfl (rv_field (k0 := 1) rfl (by kernel_rfl) rfl) ?_
  have hpT := pT_rng (n := n) (by omega)
  have hqT := qT_rng (n := n) (by omega)
  refine hl_v rfl rfl rfl (rv_load rfl (by kernel_rfl) rfl (box_cell 0 rfl rfl)) ?_
  refine hl_v rfl rfl rfl (rv_field (k0 := 0) rfl (by kernel_rfl) rfl) ?_
  refine hl_v rfl rfl rfl (rv_load rfl (by kernel_rfl) rfl (box_cell 0 rfl rfl)) ?_
  refine hl_v rfl rfl rfl (rv_conv rfl Try.underlying3 Try.underlying112 rfl (IntWalk.u64_in _ (by omega))) ?_
  refine hl_v rfl rfl rfl (rv_shlG (k := .u64) (kk := .u64) (r := (pT n : Int)) rfl rfl rfl rfl (by omega) (wruT (by omega))) ?_
  refine hl_v rfl rfl rfl (rv_shlG (k := .i64) (kk := .u64) (r := qT n) rfl rfl rfl rfl (by omega) (wrqT (by omega))) ?_
  refine hl_v rfl rfl rfl (rv_sub rfl rfl rfl (by constructor <;> omega)) ?_
  refine hl_callV rfl rfl rfl (rq_call (by kernel_rfl) rfl (fun w hm => ret_ans (ans_of (inRange_any _ _ _ w)))) ?_
  refine hl_bool (fun h3 => ?_) (fun h3 => ?_)
  ·
   obtain ⟨h3a, h3b⟩ := (inR_iff _ _ _).1 h3
   refine hl_v rfl rfl rfl (rv_ev rfl) ?_
   refine hl_v rfl rfl rfl (rv_ev rfl) ?_
   refine hl_less (sx 0 rfl (sx 1 rfl (sx 2 rfl (sub_nil _)))) (.refl _) ?_
   refine hl_nil ?_
   refine hq_then ?_
   refine hc_ret ?_
   exact hq_ans rfl rfl (congrArg _ (pB_yes ⟨by omega, by omega, by omega⟩).symm)
  ·
   have h3a := inR_notL h3
   refine hl_v rfl rfl rfl (rv_ev rfl) ?_
   refine hl_v rfl rfl rfl (rv_ev rfl) ?_
   refine hl_less (sx 0 rfl (sx 1 rfl (sx 2 rfl (sub_nil _)))) (.refl _) ?_
   refine hl_nil ?_
   refine hq_then ?_
   refine hc_ret ?_
   exact hq_ans rfl rfl (congrArg _ (pB_no (fun hp => by first | (obtain ⟨p1, p2, p3⟩ := hp; omega))).symm)
 ·
  have h2a := inR_notL h2
  refine hl_v rfl rfl rfl (rv_ev rfl) ?_
  refine hl_skip rfl rfl rfl ?_
  refine hl_skip rfl rfl rfl ?_
  refine hl_skip rfl rfl rfl ?_
  refine hl_skip rfl rfl rfl ?_
  refine hl_skip rfl rfl rfl ?_
  refine hl_skip rfl rfl rfl ?_
  refine hl_skip rfl rfl rfl ?_
  refine hl_skip rfl rfl rfl ?_
  refine hl_skip rfl rfl rfl ?_
  refine hl_v rfl rfl rfl (rv_ev rfl) ?_
  refine hl_v rfl rfl rfl (rv_ev rfl) ?_
  refine hl_less (sx 0 rfl (sx 1 rfl (sx 2 rfl (sub_nil _)))) (.refl _) ?_
  refine hl_nil ?_
  refine hq_then ?_
  refine hc_ret ?_
  exact hq_ans rfl rfl (congrArg _ (pB_no (fun hp => by first | (obtain ⟨p1, p2, p3⟩ := hp; omega))).symm)
set_option maxHeartbeats 4000000 in
set_option maxRecDepth 100000 in
theorem specTabOk_ans (n b : Int) (w : World)  :
  Calls Try.prog 90 #[.agg #[.int .i64 n, .int .i64 b]] w (Ans w (.bool (pB (TabP n b)))) := by
 refine calls_hc (N := 19) (args := [.agg #[.int .i64 n, .int .i64 b]]) Try.func90 rfl rfl ?_
 refine hc_less _ (sx 0 rfl (sub_nil _)) (.refl _) ?_
 refine hc_seq ?_
 refine hc_region ?_
 refine hl_box rfl rfl rfl (rq_box rfl rfl) ?_
 intro b1
 refine hl_v rfl rfl rfl (rv_ev rfl) ?_
 refine hl_less (sx 0 rfl (sx 1 rfl (sx 2 rfl (sub_nil _)))) (.refl _) ?_
 refine hl_nil ?_
 refine hq_then ?_
 refine hc_seq ?_
 rcases Bool.eq_false_or_eq_true (inR n 0 4) with hb2 | hb2
 ·
  obtain ⟨hb2a, hb2b⟩ := (inR_iff _ _ _).1 hb2
  rcases Bool.eq_false_or_eq_true (decide (0 ≤ b)) with hb3 | hb3
  ·
   have hb3p : 0 ≤ b := of_decide_eq_true hb3
   rcases Bool.eq_false_or_eq_true (decide (b ≤ qT n - 1)) with hb4 | hb4
   ·
    have hb4p : b ≤ qT n - 1 := of_decide_eq_true hb4
    refine hc_draw (by kernel_rfl) 16 [0, 1, 2, 3, 4, 5, 6, 7, 8, 9, 10, 11, 12, 13, 14, 15] (List.take 16 _) (List.drop 16 _) [[], [0], [1], [2], [3], [3, 4], [3, 5], [3, 6], [7], [8], [8, 9], [8], [8, 11], [8, 12], [8, 10, 13], [8, 14]] [3, 4, 5, 6, 7, 8, 9, 10, 11, 12, 13, 14, 15, 16, 17, 18] (fun i_ vs_ v_ p_ => match i_ with | 0 => v_ = .pointer (some ⟨b1, 0 + 0, none⟩) ∧ p_ = [] | 1 => v_ = .int .i64 n ∧ p_ = [] | 2 => v_ = .bool true ∧ p_ = [] | 3 => v_ = .bool true ∧ p_ = [] | 4 => v_ = .pointer (some ⟨b1, 0 + 1, none⟩) ∧ p_ = [] | 5 => v_ = .int .i64 b ∧ p_ = [] | 6 => v_ = .bool true ∧ p_ = [] | 7 => v_ = .bool true ∧ p_ = [] | 8 => v_ = .bool true ∧ p_ = [] | 9 => v_ = .pointer (some ⟨b1, 0 + 1, none⟩) ∧ p_ = [] | 10 => v_ = .int .i64 b ∧ p_ = [] | 11 => v_ = .pointer (some ⟨b1, 0 + 0, none⟩) ∧ p_ = [] | 12 => v_ = .int .i64 n ∧ p_ = [] | 13 => v_ = .int .i64 (qT n - 1) ∧ p_ = [] | 14 => v_ = .bool true ∧ p_ = [] | 15 => v_ = .bool true ∧ p_ = [] | _ => True) (List.take_append_drop 16 _).symm (by kernel_rfl) (by kernel_rfl) rfl rfl ?_ ?_
    ·
     refine ⟨?_, ?_, ?_, ?_, ?_, ?_, ?_, ?_, ?_, ?_, ?_, ?_, ?_, ?_, ?_, ?_, trivial⟩
     ·
      intro vf pf hR
      refine Or.inl ⟨rfl, ?_⟩
      refine rq_less (sx 1 rfl (sub_nil _)) (List.sublist_append_right _ _) ?_
      exact rq_v (rv_field (k0 := 0) rfl (by kernel_rfl) rfl)
     ·
      intro vf pf hR
      have e0 : (vf 0) = .pointer (some ⟨b1, 0 + 0, none⟩) ∧ (pf 0) = [] := hR 0 (by decide)
      refine Or.inl ⟨rfl, ?_⟩
      refine rq_less (sx 3 (congrArg some e0.1) (sub_nil _)) (List.sublist_append_right _ _) ?_
      exact rq_v (rv_load rfl (by kernel_rfl) rfl (box_cell 0 rfl rfl))
     ·
      intro vf pf hR
      have e1 : (vf 1) = .int .i64 n ∧ (pf 1) = [] := hR 1 (by decide)
      refine Or.inl ⟨rfl, ?_⟩
      refine rq_less (sx 4 (congrArg some e1.1) (sub_nil _)) (List.sublist_append_right _ _) ?_
      exact rq_mono (rq_call (by kernel_rfl) rfl (fun w hm => ret_ans (l01In_ans n 0 4 w))) (fun _ _ h => ⟨h.1.trans (congrArg Value.bool hb2), h.2⟩)
     ·
      intro vf pf hR
      have e2 : (vf 2) = .bool true ∧ (pf 2) = [] := hR 2 (by decide)
      refine Or.inl ⟨rfl, ?_⟩
      refine rq_less (sx 5 (congrArg some e2.1) (sub_nil _)) (List.sublist_append_right _ _) ?_
      exact rq_v (rv_ev rfl)
     ·
      intro vf pf hR
      have e3 : (vf 3) = .bool true ∧ (pf 3) = [] := hR 3 (by decide)
      refine Or.inl ⟨want_of (congrArg some e3.1) rfl, ?_⟩
      refine rq_less (sx 1 rfl (sub_nil _)) (List.sublist_append_right _ _) ?_
      exact rq_v (rv_field (k0 := 1) rfl (by kernel_rfl) rfl)
     ·
      intro vf pf hR
      have e3 : (vf 3) = .bool true ∧ (pf 3) = [] := hR 3 (by decide)
      have e4 : (vf 4) = .pointer (some ⟨b1, 0 + 1, none⟩) ∧ (pf 4) = [] := hR 4 (by decide)
      refine Or.inl ⟨want_of (congrArg some e3.1) rfl, ?_⟩
      refine rq_less (sx 7 (congrArg some e4.1) (sub_nil _)) (List.sublist_append_right _ _) ?_
      exact rq_v (rv_load rfl (by kernel_rfl) rfl (box_cell 0 rfl rfl))
     ·
      intro vf pf hR
      have e3 : (vf 3) = .bool true ∧ (pf 3) = [] := hR 3 (by decide)
      have e5 : (vf 5) = .int .i64 b ∧ (pf 5) = [] := hR 5 (by decide)
      refine Or.inl ⟨want_of (congrArg some e3.1) rfl, ?_⟩
      refine rq_less (sx 8 (congrArg some e5.1) (sub_nil _)) (List.sublist_append_right _ _) ?_
      exact rq_mono (rq_v (rv_cmp rfl rfl rfl rfl)) (fun _ _ h => ⟨h.1.trans (congrArg Value.bool hb3), h.2⟩)
     ·
      intro vf pf hR
      have e3 : (vf 3) = .bool true ∧ (pf 3) = [] := hR 3 (by decide)
      have e6 : (vf 6) = .bool true ∧ (pf 6) = [] := hR 6 (by decide)
      refine Or.inl ⟨rfl, ?_⟩
      refine rq_less (sx 6 (congrArg some e3.1) (sx 9 (congrArg some e6.1) (sub_nil _))) (List.sublist_append_right _ _) ?_
      exact rq_v (rv_ev rfl)
     ·
      intro vf pf hR
      have e7 : (vf 7) = .bool true ∧ (pf 7) = [] := hR 7 (by decide)
      refine Or.inl ⟨rfl, ?_⟩
      refine rq_less (sx 10 (congrArg some e7.1) (sub_nil _)) (List.sublist_append_right _ _) ?_
      exact rq_v (rv_ev rfl)
     ·
      intro vf pf hR
      have e8 : (vf 8) = .bool true ∧ (pf 8) = [] := hR 8 (by decide)
      refine Or.inl ⟨want_of (congrArg some e8.1) rfl, ?_⟩
      refine rq_less (sx 1 rfl (sub_nil _)) (List.sublist_append_right _ _) ?_
      exact rq_v (rv_field (k0 := 1) rfl (by kernel_rfl) rfl)
     ·
      intro vf pf hR
      have e8 : (vf 8) = .bool true ∧ (pf 8) = [] := hR 8 (by decide)
      have e9 : (vf 9) = .pointer (some ⟨b1, 0 + 1, none⟩) ∧ (pf 9) = [] := hR 9 (by decide)
      refine Or.inl ⟨want_of (congrArg some e8.1) rfl, ?_⟩
      refine rq_less (sx 12 (congrArg some e9.1) (sub_nil _)) (List.sublist_append_right _ _) ?_
      exact rq_v (rv_load rfl (by kernel_rfl) rfl (box_cell 0 rfl rfl))
     ·
      intro vf pf hR
      have e8 : (vf 8) = .bool true ∧ (pf 8) = [] := hR 8 (by decide)
      refine Or.inl ⟨want_of (congrArg some e8.1) rfl, ?_⟩
      refine rq_less (sx 1 rfl (sub_nil _)) (List.sublist_append_right _ _) ?_
      exact rq_v (rv_field (k0 := 0) rfl (by kernel_rfl) rfl)
     ·
      intro vf pf hR
      have e8 : (vf 8) = .bool true ∧ (pf 8) = [] := hR 8 (by decide)
      have e11 : (vf 11) = .pointer (some ⟨b1, 0 + 0, none⟩) ∧ (pf 11) = [] := hR 11 (by decide)
      refine Or.inl ⟨want_of (congrArg some e8.1) rfl, ?_⟩
      refine rq_less (sx 14 (congrArg some e11.1) (sub_nil _)) (List.sublist_append_right _ _) ?_
      exact rq_v (rv_load rfl (by kernel_rfl) rfl (box_cell 0 rfl rfl))
     ·
      intro vf pf hR
      have e8 : (vf 8) = .bool true ∧ (pf 8) = [] := hR 8 (by decide)
      have e12 : (vf 12) = .int .i64 n ∧ (pf 12) = [] := hR 12 (by decide)
      refine Or.inl ⟨want_of (congrArg some e8.1) rfl, ?_⟩
      refine rq_less (sx 15 (congrArg some e12.1) (sub_nil _)) (List.sublist_append_right _ _) ?_
      exact (rq_call (by kernel_rfl) rfl (fun w hm => ret_ans (l02FullT_ans n w (by omega))))
     ·
      intro vf pf hR
      have e8 : (vf 8) = .bool true ∧ (pf 8) = [] := hR 8 (by decide)
      have e10 : (vf 10) = .int .i64 b ∧ (pf 10) = [] := hR 10 (by decide)
      have e13 : (vf 13) = .int .i64 (qT n - 1) ∧ (pf 13) = [] := hR 13 (by decide)
      refine Or.inl ⟨want_of (congrArg some e8.1) rfl, ?_⟩
      refine rq_less (sx 13 (congrArg some e10.1) (sx 16 (congrArg some e13.1) (sub_nil _))) (List.sublist_append_right _ _) ?_
      exact rq_mono (rq_v (rv_cmp rfl rfl rfl rfl)) (fun _ _ h => ⟨h.1.trans (congrArg Value.bool hb4), h.2⟩)
     ·
      intro vf pf hR
      have e8 : (vf 8) = .bool true ∧ (pf 8) = [] := hR 8 (by decide)
      have e14 : (vf 14) = .bool true ∧ (pf 14) = [] := hR 14 (by decide)
      refine Or.inl ⟨rfl, ?_⟩
      refine rq_less (sx 11 (congrArg some e8.1) (sx 17 (congrArg some e14.1) (sub_nil _))) (List.sublist_append_right _ _) ?_
      exact rq_v (rv_ev rfl)
    ·
     intro vf pf hR
     have e15 : (vf 15) = .bool true ∧ (pf 15) = [] := hR 15 (by decide)
     refine hl_less (l' := [boxE b1 #[.int .i64 n, .int .i64 b] 121]) (sx 0 rfl (sx 1 rfl (sx 2 rfl (sx 18 (congrArg some e15.1) (sub_nil _))))) (List.sublist_append_right _ _) ?_
     simp only [List.drop_succ_cons, List.drop_zero]
     refine hl_v rfl rfl rfl (rv_ev rfl) ?_
     refine hl_less (sx 0 rfl (sx 1 rfl (sx 2 rfl (sub_nil _)))) (.refl _) ?_
     refine hl_nil ?_
     refine hq_then ?_
     refine hc_ret ?_
     exact hq_ans rfl rfl (congrArg _ (pB_yes ⟨by omega, by omega, by omega⟩).symm)
   ·
    have hb4p : ¬ (b ≤ qT n - 1) := of_decide_eq_false hb4
    refine hc_draw (by kernel_rfl) 16 [0, 1, 2, 3, 4, 5, 6, 7, 8, 9, 10, 11, 12, 13, 14, 15] (List.take 16 _) (List.drop 16 _) [[], [0], [1], [2], [3], [3, 4], [3, 5], [3, 6], [7], [8], [8, 9], [8], [8, 11], [8, 12], [8, 10, 13], [8, 14]] [3, 4, 5, 6, 7, 8, 9, 10, 11, 12, 13, 14, 15, 16, 17, 18] (fun i_ vs_ v_ p_ => match i_ with | 0 => v_ = .pointer (some ⟨b1, 0 + 0, none⟩) ∧ p_ = [] | 1 => v_ = .int .i64 n ∧ p_ = [] | 2 => v_ = .bool true ∧ p_ = [] | 3 => v_ = .bool true ∧ p_ = [] | 4 => v_ = .pointer (some ⟨b1, 0 + 1, none⟩) ∧ p_ = [] | 5 => v_ = .int .i64 b ∧ p_ = [] | 6 => v_ = .bool true ∧ p_ = [] | 7 => v_ = .bool true ∧ p_ = [] | 8 => v_ = .bool true ∧ p_ = [] | 9 => v_ = .pointer (some ⟨b1, 0 + 1, none⟩) ∧ p_ = [] | 10 => v_ = .int .i64 b ∧ p_ = [] | 11 => v_ = .pointer (some ⟨b1, 0 + 0, none⟩) ∧ p_ = [] | 12 => v_ = .int .i64 n ∧ p_ = [] | 13 => v_ = .int .i64 (qT n - 1) ∧ p_ = [] | 14 => v_ = .bool false ∧ p_ = [] | 15 => v_ = .bool false ∧ p_ = [] | _ => True) (List.take_append_drop 16 _).symm (by kernel_rfl) (by kernel_rfl) rfl rfl ?_ ?_
    ·
     refine ⟨?_, ?_, ?_, ?_, ?_, ?_, ?_, ?_, ?_, ?_, ?_, ?_, ?_, ?_, ?_, ?_, trivial⟩
     ·
      intro vf pf hR
      refine Or.inl ⟨rfl, ?_⟩
      refine rq_less (sx 1 rfl (sub_nil _)) (List.sublist_append_right _ _) ?_
      exact rq_v (rv_field (k0 := 0) rfl (by kernel_rfl) rfl)
     ·
      intro vf pf hR
      have e0 : (vf 0) = .pointer (some ⟨b1, 0 + 0, none⟩) ∧ (pf 0) = [] := hR 0 (by decide)
      refine Or.inl ⟨rfl, ?_⟩
      refine rq_less (sx 3 (congrArg some e0.1) (sub_nil _)) (List.sublist_append_right _ _) ?_
      exact rq_v (rv_load rfl (by kernel_rfl) rfl (box_cell 0 rfl rfl))
     ·
      intro vf pf hR
      have e1 : (vf 1) = .int .i64 n ∧ (pf 1) = [] := hR 1 (by decide)
      refine Or.inl ⟨rfl, ?_⟩
      refine rq_less (sx 4 (congrArg some e1.1) (sub_nil _)) (List.sublist_append_right _ _) ?_
      exact rq_mono (rq_call (by kernel_rfl) rfl (fun w hm => ret_ans (l01In_ans n 0 4 w))) (fun _ _ h => ⟨h.1.trans (congrArg Value.bool hb2), h.2⟩)
     ·
      intro vf pf hR
      have e2 : (vf 2) = .bool true ∧ (pf 2) = [] := hR 2 (by decide)
      refine Or.inl ⟨rfl, ?_⟩
      refine rq_less (sx 5 (congrArg some e2.1) (sub_nil _)) (List.sublist_append_right _ _) ?_
      exact rq_v (rv_ev rfl)
     ·
      intro vf pf hR
      have e3 : (vf 3) = .bool true ∧ (pf 3) = [] := hR 3 (by decide)
      refine Or.inl ⟨want_of (congrArg some e3.1) rfl, ?_⟩
      refine rq_less (sx 1 rfl (sub_nil _)) (List.sublist_append_right _ _) ?_
      exact rq_v (rv_field (k0 := 1) rfl (by kernel_rfl) rfl)
     ·
      intro vf pf hR
      have e3 : (vf 3) = .bool true ∧ (pf 3) = [] := hR 3 (by decide)
      have e4 : (vf 4) = .pointer (some ⟨b1, 0 + 1, none⟩) ∧ (pf 4) = [] := hR 4 (by decide)
      refine Or.inl ⟨want_of (congrArg some e3.1) rfl, ?_⟩
      refine rq_less (sx 7 (congrArg some e4.1) (sub_nil _)) (List.sublist_append_right _ _) ?_
      exact rq_v (rv_load rfl (by kernel_rfl) rfl (box_cell 0 rfl rfl))
     ·
      intro vf pf hR
      have e3 : (vf 3) = .bool true ∧ (pf 3) = [] := hR 3 (by decide)
      have e5 : (vf 5) = .int .i64 b ∧ (pf 5) = [] := hR 5 (by decide)
      refine Or.inl ⟨want_of (congrArg some e3.1) rfl, ?_⟩
      refine rq_less (sx 8 (congrArg some e5.1) (sub_nil _)) (List.sublist_append_right _ _) ?_
      exact rq_mono (rq_v (rv_cmp rfl rfl rfl rfl)) (fun _ _ h => ⟨h.1.trans (congrArg Value.bool hb3), h.2⟩)
     ·
      intro vf pf hR
      have e3 : (vf 3) = .bool true ∧ (pf 3) = [] := hR 3 (by decide)
      have e6 : (vf 6) = .bool true ∧ (pf 6) = [] := hR 6 (by decide)
      refine Or.inl ⟨rfl, ?_⟩
      refine rq_less (sx 6 (congrArg some e3.1) (sx 9 (congrArg some e6.1) (sub_nil _))) (List.sublist_append_right _ _) ?_
      exact rq_v (rv_ev rfl)
     ·
      intro vf pf hR
      have e7 : (vf 7) = .bool true ∧ (pf 7) = [] := hR 7 (by decide)
      refine Or.inl ⟨rfl, ?_⟩
      refine rq_less (sx 10 (congrArg some e7.1) (sub_nil _)) (List.sublist_append_right _ _) ?_
      exact rq_v (rv_ev rfl)
     ·
      intro vf pf hR
      have e8 : (vf 8) = .bool true ∧ (pf 8) = [] := hR 8 (by decide)
      refine Or.inl ⟨want_of (congrArg some e8.1) rfl, ?_⟩
      refine rq_less (sx 1 rfl (sub_nil _)) (List.sublist_append_right _ _) ?_
      exact rq_v (rv_field (k0 := 1) rfl (by kernel_rfl) rfl)
     ·
      intro vf pf hR
      have e8 : (vf 8) = .bool true ∧ (pf 8) = [] := hR 8 (by decide)
      have e9 : (vf 9) = .pointer (some ⟨b1, 0 + 1, none⟩) ∧ (pf 9) = [] := hR 9 (by decide)
      refine Or.inl ⟨want_of (congrArg some e8.1) rfl, ?_⟩
      refine rq_less (sx 12 (congrArg some e9.1) (sub_nil _)) (List.sublist_append_right _ _) ?_
      exact rq_v (rv_load rfl (by kernel_rfl) rfl (box_cell 0 rfl rfl))
     ·
      intro vf pf hR
      have e8 : (vf 8) = .bool true ∧ (pf 8) = [] := hR 8 (by decide)
      refine Or.inl ⟨want_of (congrArg some e8.1) rfl, ?_⟩
      refine rq_less (sx 1 rfl (sub_nil _)) (List.sublist_append_right _ _) ?_
      exact rq_v (rv_field (k0 := 0) rfl (by kernel_rfl) rfl)
     ·
      intro vf pf hR
      have e8 : (vf 8) = .bool true ∧ (pf 8) = [] := hR 8 (by decide)
      have e11 : (vf 11) = .pointer (some ⟨b1, 0 + 0, none⟩) ∧ (pf 11) = [] := hR 11 (by decide)
      refine Or.inl ⟨want_of (congrArg some e8.1) rfl, ?_⟩
      refine rq_less (sx 14 (congrArg some e11.1) (sub_nil _)) (List.sublist_append_right _ _) ?_
      exact rq_v (rv_load rfl (by kernel_rfl) rfl (box_cell 0 rfl rfl))
     ·
      intro vf pf hR
      have e8 : (vf 8) = .bool true ∧ (pf 8) = [] := hR 8 (by decide)
      have e12 : (vf 12) = .int .i64 n ∧ (pf 12) = [] := hR 12 (by decide)
      refine Or.inl ⟨want_of (congrArg some e8.1) rfl, ?_⟩
      refine rq_less (sx 15 (congrArg some e12.1) (sub_nil _)) (List.sublist_append_right _ _) ?_
      exact (rq_call (by kernel_rfl) rfl (fun w hm => ret_ans (l02FullT_ans n w (by omega))))
     ·
      intro vf pf hR
      have e8 : (vf 8) = .bool true ∧ (pf 8) = [] := hR 8 (by decide)
      have e10 : (vf 10) = .int .i64 b ∧ (pf 10) = [] := hR 10 (by decide)
      have e13 : (vf 13) = .int .i64 (qT n - 1) ∧ (pf 13) = [] := hR 13 (by decide)
      refine Or.inl ⟨want_of (congrArg some e8.1) rfl, ?_⟩
      refine rq_less (sx 13 (congrArg some e10.1) (sx 16 (congrArg some e13.1) (sub_nil _))) (List.sublist_append_right _ _) ?_
      exact rq_mono (rq_v (rv_cmp rfl rfl rfl rfl)) (fun _ _ h => ⟨h.1.trans (congrArg Value.bool hb4), h.2⟩)
     ·
      intro vf pf hR
      have e8 : (vf 8) = .bool true ∧ (pf 8) = [] := hR 8 (by decide)
      have e14 : (vf 14) = .bool false ∧ (pf 14) = [] := hR 14 (by decide)
      refine Or.inl ⟨rfl, ?_⟩
      refine rq_less (sx 11 (congrArg some e8.1) (sx 17 (congrArg some e14.1) (sub_nil _))) (List.sublist_append_right _ _) ?_
      exact rq_v (rv_ev rfl)
    ·
     intro vf pf hR
     have e15 : (vf 15) = .bool false ∧ (pf 15) = [] := hR 15 (by decide)
     refine hl_less (l' := [boxE b1 #[.int .i64 n, .int .i64 b] 121]) (sx 0 rfl (sx 1 rfl (sx 2 rfl (sx 18 (congrArg some e15.1) (sub_nil _))))) (List.sublist_append_right _ _) ?_
     simp only [List.drop_succ_cons, List.drop_zero]
     refine hl_v rfl rfl rfl (rv_ev rfl) ?_
     refine hl_less (sx 0 rfl (sx 1 rfl (sx 2 rfl (sub_nil _)))) (.refl _) ?_
     refine hl_nil ?_
     refine hq_then ?_
     refine hc_ret ?_
     exact hq_ans rfl rfl (congrArg _ (pB_no (fun hp => by first | (obtain ⟨p1, p2, p3⟩ := hp; omega))).symm)
  ·
   have hb3p : ¬ (0 ≤ b) := of_decide_eq_false hb3
   refine hc_draw (by kernel_rfl) 16 [0, 1, 2, 3, 4, 5, 6, 7, 8, 9, 10, 11, 12, 13, 14, 15] (List.take 16 _) (List.drop 16 _) [[], [0], [1], [2], [3], [3, 4], [3, 5], [3, 6], [7], [8], [8], [8], [8], [8], [8], [8, 14]] [3, 4, 5, 6, 7, 8, 9, 10, 11, 12, 13, 14, 15, 16, 17, 18] (fun i_ vs_ v_ p_ => match i_ with | 0 => v_ = .pointer (some ⟨b1, 0 + 0, none⟩) ∧ p_ = [] | 1 => v_ = .int .i64 n ∧ p_ = [] | 2 => v_ = .bool true ∧ p_ = [] | 3 => v_ = .bool true ∧ p_ = [] | 4 => v_ = .pointer (some ⟨b1, 0 + 1, none⟩) ∧ p_ = [] | 5 => v_ = .int .i64 b ∧ p_ = [] | 6 => v_ = .bool false ∧ p_ = [] | 7 => v_ = .bool false ∧ p_ = [] | 8 => v_ = .bool false ∧ p_ = [] | 9 => v_ = undef ∧ p_ = [] | 10 => v_ = undef ∧ p_ = [] | 11 => v_ = undef ∧ p_ = [] | 12 => v_ = undef ∧ p_ = [] | 13 => v_ = undef ∧ p_ = [] | 14 => v_ = undef ∧ p_ = [] | 15 => v_ = .bool false ∧ p_ = [] | _ => True) (List.take_append_drop 16 _).symm (by kernel_rfl) (by kernel_rfl) rfl rfl ?_ ?_
   ·
    refine ⟨?_, ?_, ?_, ?_, ?_, ?_, ?_, ?_, ?_, ?_, ?_, ?_, ?_, ?_, ?_, ?_, trivial⟩
    ·
     intro vf pf hR
     refine Or.inl ⟨rfl, ?_⟩
     refine rq_less (sx 1 rfl (sub_nil _)) (List.sublist_append_right _ _) ?_
     exact rq_v (rv_field (k0 := 0) rfl (by kernel_rfl) rfl)
    ·
     intro vf pf hR
     have e0 : (vf 0) = .pointer (some ⟨b1, 0 + 0, none⟩) ∧ (pf 0) = [] := hR 0 (by decide)
     refine Or.inl ⟨rfl, ?_⟩
     refine rq_less (sx 3 (congrArg some e0.1) (sub_nil _)) (List.sublist_append_right _ _) ?_
     exact rq_v (rv_load rfl (by kernel_rfl) rfl (box_cell 0 rfl rfl))
    ·
     intro vf pf hR
     have e1 : (vf 1) = .int .i64 n ∧ (pf 1) = [] := hR 1 (by decide)
     refine Or.inl ⟨rfl, ?_⟩
     refine rq_less (sx 4 (congrArg some e1.1) (sub_nil _)) (List.sublist_append_right _ _) ?_
     exact rq_mono (rq_call (by kernel_rfl) rfl (fun w hm => ret_ans (l01In_ans n 0 4 w))) (fun _ _ h => ⟨h.1.trans (congrArg Value.bool hb2), h.2⟩)
    ·
     intro vf pf hR
     have e2 : (vf 2) = .bool true ∧ (pf 2) = [] := hR 2 (by decide)
     refine Or.inl ⟨rfl, ?_⟩
     refine rq_less (sx 5 (congrArg some e2.1) (sub_nil _)) (List.sublist_append_right _ _) ?_
     exact rq_v (rv_ev rfl)
    ·
     intro vf pf hR
     have e3 : (vf 3) = .bool true ∧ (pf 3) = [] := hR 3 (by decide)
     refine Or.inl ⟨want_of (congrArg some e3.1) rfl, ?_⟩
     refine rq_less (sx 1 rfl (sub_nil _)) (List.sublist_append_right _ _) ?_
     exact rq_v (rv_field (k0 := 1) rfl (by kernel_rfl) rfl)
    ·
     intro vf pf hR
     have e3 : (vf 3) = .bool true ∧ (pf 3) = [] := hR 3 (by decide)
     have e4 : (vf 4) = .pointer (some ⟨b1, 0 + 1, none⟩) ∧ (pf 4) = [] := hR 4 (by decide)
     refine Or.inl ⟨want_of (congrArg some e3.1) rfl, ?_⟩
     refine rq_less (sx 7 (congrArg some e4.1) (sub_nil _)) (List.sublist_append_right _ _) ?_
     exact rq_v (rv_load rfl (by kernel_rfl) rfl (box_cell 0 rfl rfl))
    ·
     intro vf pf hR
     have e3 : (vf 3) = .bool true ∧ (pf 3) = [] := hR 3 (by decide)
     have e5 : (vf 5) = .int .i64 b ∧ (pf 5) = [] := hR 5 (by decide)
     refine Or.inl ⟨want_of (congrArg some e3.1) rfl, ?_⟩
     refine rq_less (sx 8 (congrArg some e5.1) (sub_nil _)) (List.sublist_append_right _ _) ?_
     exact rq_mono (rq_v (rv_cmp rfl rfl rfl rfl)) (fun _ _ h => ⟨h.1.trans (congrArg Value.bool hb3), h.2⟩)
    ·
     intro vf pf hR
     have e3 : (vf 3) = .bool true ∧ (pf 3) = [] := hR 3 (by decide)
     have e6 : (vf 6) = .bool false ∧ (pf 6) = [] := hR 6 (by decide)
     refine Or.inl ⟨rfl, ?_⟩
     refine rq_less (sx 6 (congrArg some e3.1) (sx 9 (congrArg some e6.1) (sub_nil _))) (List.sublist_append_right _ _) ?_
     exact rq_v (rv_ev rfl)
    ·
     intro vf pf hR
     have e7 : (vf 7) = .bool false ∧ (pf 7) = [] := hR 7 (by decide)
     refine Or.inl ⟨rfl, ?_⟩
     refine rq_less (sx 10 (congrArg some e7.1) (sub_nil _)) (List.sublist_append_right _ _) ?_
     exact rq_v (rv_ev rfl)
    ·
     intro vf pf hR
     have e8 : (vf 8) = .bool false ∧ (pf 8) = [] := hR 8 (by decide)
     exact Or.inr ⟨want_of (congrArg some e8.1) rfl, rfl, rfl⟩
    ·
     intro vf pf hR
     have e8 : (vf 8) = .bool false ∧ (pf 8) = [] := hR 8 (by decide)
     exact Or.inr ⟨want_of (congrArg some e8.1) rfl, rfl, rfl⟩
    ·
     intro vf pf hR
     have e8 : (vf 8) = .bool false ∧ (pf 8) = [] := hR 8 (by decide)
     exact Or.inr ⟨want_of (congrArg some e8.1) rfl, rfl, rfl⟩
    ·
     intro vf pf hR
     have e8 : (vf 8) = .bool false ∧ (pf 8) = [] := hR 8 (by decide)
     exact Or.inr ⟨want_of (congrArg some e8.1) rfl, rfl, rfl⟩
    ·
     intro vf pf hR
     have e8 : (vf 8) = .bool false ∧ (pf 8) = [] := hR 8 (by decide)
     exact Or.inr ⟨want_of (congrArg some e8.1) rfl, rfl, rfl⟩
    ·
     intro vf pf hR
     have e8 : (vf 8) = .bool false ∧ (pf 8) = [] := hR 8 (by decide)
     exact Or.inr ⟨want_of (congrArg some e8.1) rfl, rfl, rfl⟩
    ·
     intro vf pf hR
     have e8 : (vf 8) = .bool false ∧ (pf 8) = [] := hR 8 (by decide)
     have e14 : (vf 14) = undef ∧ (pf 14) = [] := hR 14 (by decide)
     refine Or.inl ⟨rfl, ?_⟩
     refine rq_less (sx 11 (congrArg some e8.1) (sx 17 (congrArg some e14.1) (sub_nil _))) (List.sublist_append_right _ _) ?_
     exact rq_v (rv_ev rfl)
   ·
    intro vf pf hR
    have e15 : (vf 15) = .bool false ∧ (pf 15) = [] := hR 15 (by decide)
    refine hl_less (l' := [boxE b1 #[.int .i64 n, .int .i64 b] 121]) (sx 0 rfl (sx 1 rfl (sx 2 rfl (sx 18 (congrArg some e15.1) (sub_nil _))))) (List.sublist_append_right _ _) ?_
    simp only [List.drop_succ_cons, List.drop_zero]
    refine hl_v rfl rfl rfl (rv_ev rfl) ?_
    refine hl_less (sx 0 rfl (sx 1 rfl (sx 2 rfl (sub_nil _)))) (.refl _) ?_
    refine hl_nil ?_
    refine hq_then ?_
    refine hc_ret ?_
    exact hq_ans rfl rfl (congrArg _ (pB_no (fun hp => by first | (obtain ⟨p1, p2, p3⟩ := hp; omega))).symm)
 ·
  have hb2a := inR_notL hb2
  refine hc_draw (by kernel_rfl) 16 [0, 1, 2, 3, 4, 5, 6, 7, 8, 9, 10, 11, 12, 13, 14, 15] (List.take 16 _) (List.drop 16 _) [[], [0], [1], [2], [3], [3], [3], [3, 6], [7], [8], [8], [8], [8], [8], [8], [8, 14]] [3, 4, 5, 6, 7, 8, 9, 10, 11, 12, 13, 14, 15, 16, 17, 18] (fun i_ vs_ v_ p_ => match i_ with | 0 => v_ = .pointer (some ⟨b1, 0 + 0, none⟩) ∧ p_ = [] | 1 => v_ = .int .i64 n ∧ p_ = [] | 2 => v_ = .bool false ∧ p_ = [] | 3 => v_ = .bool false ∧ p_ = [] | 4 => v_ = undef ∧ p_ = [] | 5 => v_ = undef ∧ p_ = [] | 6 => v_ = undef ∧ p_ = [] | 7 => v_ = .bool false ∧ p_ = [] | 8 => v_ = .bool false ∧ p_ = [] | 9 => v_ = undef ∧ p_ = [] | 10 => v_ = undef ∧ p_ = [] | 11 => v_ = undef ∧ p_ = [] | 12 => v_ = undef ∧ p_ = [] | 13 => v_ = undef ∧ p_ = [] | 14 => v_ = undef ∧ p_ = [] | 15 => v_ = .bool false ∧ p_ = [] | _ => True) (List.take_append_drop 16 _).symm (by kernel_rfl) (by kernel_rfl) rfl rfl ?_ ?_
  ·
   refine ⟨?_, ?_, ?_, ?_, ?_, ?_, ?_, ?_, ?_, ?_, ?_, ?_, ?_, ?_, ?_, ?_, trivial⟩
   ·
    intro vf pf hR
    refine Or.inl ⟨rfl, ?_⟩
    refine rq_less (sx 1 rfl (sub_nil _)) (List.sublist_append_right _ _) ?_
    exact rq_v (rv_field (k0 := 0) rfl (by kernel_rfl) rfl)
   ·
    intro vf pf hR
    have e0 : (vf 0) = .pointer (some ⟨b1, 0 + 0, none⟩) ∧ (pf 0) = [] := hR 0 (by decide)
    refine Or.inl ⟨rfl, ?_⟩
    refine rq_less (sx 3 (congrArg some e0.1) (sub_nil _)) (List.sublist_append_right _ _) ?_
    exact rq_v (rv_load rfl (by kernel_rfl) rfl (box_cell 0 rfl rfl))
   ·
    intro vf pf hR
    have e1 : (vf 1) = .int .i64 n ∧ (pf 1) = [] := hR 1 (by decide)
    refine Or.inl ⟨rfl, ?_⟩
    refine rq_less (sx 4 (congrArg some e1.1) (sub_nil _)) (List.sublist_append_right _ _) ?_
    exact rq_mono (rq_call (by kernel_rfl) rfl (fun w hm => ret_ans (l01In_ans n 0 4 w))) (fun _ _ h => ⟨h.1.trans (congrArg Value.bool hb2), h.2⟩)
   ·
    intro vf pf hR
    have e2 : (vf 2) = .bool false ∧ (pf 2) = [] := hR 2 (by decide)
    refine Or.inl ⟨rfl, ?_⟩
    refine rq_less (sx 5 (congrArg some e2.1) (sub_nil _)) (List.sublist_append_right _ _) ?_
    exact rq_v (rv_ev rfl)
   ·
    intro vf pf hR
    have e3 : (vf 3) = .bool false ∧ (pf 3) = [] := hR 3 (by decide)
    exact Or.inr ⟨want_of (congrArg some e3.1) rfl, rfl, rfl⟩
   ·
    intro vf pf hR
    have e3 : (vf 3) = .bool false ∧ (pf 3) = [] := hR 3 (by decide)
    exact Or.inr ⟨want_of (congrArg some e3.1) rfl, rfl, rfl⟩
   ·
    intro vf pf hR
    have e3 : (vf 3) = .bool false ∧ (pf 3) = [] := hR 3 (by decide)
    exact Or.inr ⟨want_of (congrArg some e3.1) rfl, rfl, rfl⟩
   ·
    intro vf pf hR
    have e3 : (vf 3) = .bool false ∧ (pf 3) = [] := hR 3 (by decide)
    have e6 : (vf 6) = undef ∧ (pf 6) = [] := hR 6 (by decide)
    refine Or.inl ⟨rfl, ?_⟩
    refine rq_less (sx 6 (congrArg some e3.1) (sx 9 (congrArg some e6.1) (sub_nil _))) (List.sublist_append_right _ _) ?_
    exact rq_v (rv_ev rfl)
   ·
    intro vf pf hR
    have e7 : (vf 7) = .bool false ∧ (pf 7) = [] := hR 7 (by decide)
    refine Or.inl ⟨rfl, ?_⟩
    refine rq_less (sx 10 (congrArg some e7.1) (sub_nil _)) (List.sublist_append_right _ _) ?_
    exact rq_v (rv_ev rfl)
   ·
    intro vf pf hR
    have e8 : (vf 8) = .bool false ∧ (pf 8) = [] := hR 8 (by decide)
    exact Or.inr ⟨want_of (congrArg some e8.1) rfl, rfl, rfl⟩
   ·
    intro vf pf hR
    have e8 : (vf 8) = .bool false ∧ (pf 8) = [] := hR 8 (by decide)
    exact Or.inr ⟨want_of (congrArg some e8.1) rfl, rfl, rfl⟩
   ·
    intro vf pf hR
    have e8 : (vf 8) = .bool false ∧ (pf 8) = [] := hR 8 (by decide)
    exact Or.inr ⟨want_of (congrArg some e8.1) rfl, rfl, rfl⟩
   ·
    intro vf pf hR
    have e8 : (vf 8) = .bool false ∧ (pf 8) = [] := hR 8 (by decide)
    exact Or.inr ⟨want_of (congrArg some e8.1) rfl, rfl, rfl⟩
   ·
    intro vf pf hR
    have e8 : (vf 8) = .bool false ∧ (pf 8) = [] := hR 8 (by decide)
    exact Or.inr ⟨want_of (congrArg some e8.1) rfl, rfl, rfl⟩
   ·
    intro vf pf hR
    have e8 : (vf 8) = .bool false ∧ (pf 8) = [] := hR 8 (by decide)
    exact Or.inr ⟨want_of (congrArg some e8.1) rfl, rfl, rfl⟩
   ·
    intro vf pf hR
    have e8 : (vf 8) = .bool false ∧ (pf 8) = [] := hR 8 (by decide)
    have e14 : (vf 14) = undef ∧ (pf 14) = [] := hR 14 (by decide)
    refine Or.inl ⟨rfl, ?_⟩
    refine rq_less (sx 11 (congrArg some e8.1) (sx 17 (congrArg some e14.1) (sub_nil _))) (List.sublist_append_right _ _) ?_
    exact rq_v (rv_ev rfl)
  ·
   intro vf pf hR
   have e15 : (vf 15) = .bool false ∧ (pf 15) = [] := hR 15 (by decide)
   refine hl_less (l' := [boxE b1 #[.int .i64 n, .int .i64 b] 121]) (sx 0 rfl (sx 1 rfl (sx 2 rfl (sx 18 (congrArg some e15.1) (sub_nil _))))) (List.sublist_append_right _ _) ?_
   simp only [List.drop_succ_cons, List.drop_zero]
   refine hl_v rfl rfl rfl (rv_ev rfl) ?_
   refine hl_less (sx 0 rfl (sx 1 rfl (sx 2 rfl (sub_nil _)))) (.refl _) ?_
   refine hl_nil ?_
   refine hq_then ?_
   refine hc_ret ?_
   exact hq_ans rfl rfl (congrArg _ (pB_no (fun hp => by first | (obtain ⟨p1, p2, p3⟩ := hp; omega))).symm)
theorem LutP_len {x : Nat} {b : Int} (h : TabP (x : Int) b) : x ≤ 4 := by have := h.1.2; omega
end Go.Proofs.Ytceebbcoikgocaa
