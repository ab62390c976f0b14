/- Texts of the law FnExactSampledAt, part 5: what it uses. -/
import Derived.Test.YtceebbcoikgocaaSm4
set_option linter.unusedVariables false
set_option linter.unusedSimpArgs false
namespace Go.Proofs.Ytceebbcoikgocaa
open Go.RowKit Go.ChangeShapes
open Go.RowKit
set_option maxHeartbeats 4000000 in
set_option maxRecDepth 100000 in
theorem l37Waves_ret (x : Td) (a : Int) (w : World) (hr : RdsTd w x) (hok : TdOk x) (ha : 0 ≤ a ∧ a ≤ 1100) :
  Calls Try.prog 65 #[.agg #[.int .i64 x.n.ins, x.n.sv, x.n.lv, x.n.ov, x.pv, x.qv, x.kv, x.av, x.bv, .int .i64 x.oi, .int .i64 x.ni], .int .i64 a] w (Ret w (fun v' post => ∃ es : List IR, post = [irsE v' es] ∧ WOk x a.toNat x.n.cnt.toNat x.n.cnt.toNat es)) := by
 have t1 := sml hr.ks
 have t2 := sml hr.ao
 have t3 := sml hr.bs
 have t4 := hr.dl.small
 have t5 := hr.ds.small
 have t6 := hr.n.sq.small
 have t7 := hr.n.lt.small
 have t8 := sml hr.n.ou
 have hcnt : x.n.cnt = 1 + x.n.ins + x.n.ss.length + x.n.ls.length := rfl
 have hfst : x.n.fst = 1 + x.n.ins + x.n.ss.length := rfl
 obtain ⟨ci, cs_, cl, ck, ca, cb, cd, ce⟩ := hok.bnd
 have hi0 := ci.1
 have hi1 := ci.2
 have hvl := vl_len x.n x.ao x.oi x.n.ls.length
 have hov : (ovX x).length = x.n.cnt.toNat := by show (vlL _ _ _ _).length = _; omega
 have hrl : (List.replicate x.n.cnt.toNat ir0).length = x.n.cnt.toNat := List.length_replicate
 have hvl2 := vl_len x.n x.bs x.ni x.n.ls.length
 have hnv : (valT x.n x.bs x.ni).length = x.n.cnt.toNat := by show (vlL _ _ _ _).length = _; omega
 have hov2 : (valT x.n x.ao x.oi).length = x.n.cnt.toNat := hov
 refine calls_hc (N := 145) (args := [.agg #[.int .i64 x.n.ins, x.n.sv, x.n.lv, x.n.ov, x.pv, x.qv, x.kv, x.av, x.bv, .int .i64 x.oi, .int .i64 x.ni], .int .i64 a]) Try.func65 rfl rfl ?_
 refine hc_less _ (sx 0 rfl (sx 1 rfl (sub_nil _))) (.refl _) ?_
 refine hc_seq ?_
 refine hc_region ?_
 refine hl_box rfl rfl rfl (rq_box rfl rfl) ?_
 intro b1
 refine hl_v rfl rfl rfl (rv_ev rfl) ?_
 refine hl_less (sx 0 rfl (sx 1 rfl (sx 2 rfl (sx 4 rfl (sub_nil _))))) (.refl _) ?_
 refine hl_nil ?_
 refine hq_then ?_
 refine hc_seq ?_
 refine hc_region ?_
 refine hl_v rfl rfl rfl (rv_field (k0 := 0) rfl (by kernel_rfl) rfl) ?_
 refine hl_v rfl rfl rfl (rv_loadN (cs := [.int .i64 x.n.ins, x.n.sv, x.n.lv, x.n.ov]) rfl (by kernel_rfl) (by kernel_rfl) rfl rfl (box_part 0 rfl 0 rfl)) ?_
 refine hl_v rfl rfl rfl (rv_field (k0 := 7) rfl (by kernel_rfl) rfl) ?_
 refine hl_v rfl rfl rfl (rv_load rfl (by kernel_rfl) rfl (box_cell 0 rfl rfl)) ?_
 refine hl_v rfl rfl rfl (rv_field (k0 := 9) rfl (by kernel_rfl) rfl) ?_
 refine hl_v rfl rfl rfl (rv_load rfl (by kernel_rfl) rfl (box_cell 0 rfl rfl)) ?_
 refine hl_q rfl rfl rfl (rq_call (by kernel_rfl) rfl (fun w hm => specLutValues_ret x.n x.ao _ x.oi w (hr.n.below hm.bel) (hr.ao.below hm.bel) hok.n hok.a)) ?_
 intro v2 p3 hR4
 subst hR4
 refine hl_v rfl rfl rfl (rv_ev rfl) ?_
 refine hl_less (sx 0 rfl (sx 1 rfl (sx 2 rfl (sx 4 rfl (sx 5 rfl (sub_nil _)))))) (.refl _) ?_
 refine hl_nil ?_
 refine hq_then ?_
 refine hc_seq ?_
 refine hc_region ?_
 refine hl_v rfl rfl rfl (rv_field (k0 := 0) rfl (by kernel_rfl) rfl) ?_
 refine hl_v rfl rfl rfl (rv_loadN (cs := [.int .i64 x.n.ins, x.n.sv, x.n.lv, x.n.ov]) rfl (by kernel_rfl) (by kernel_rfl) rfl rfl (box_part 1 rfl 0 rfl)) ?_
 refine hl_v rfl rfl rfl (rv_field (k0 := 8) rfl (by kernel_rfl) rfl) ?_
 refine hl_v rfl rfl rfl (rv_load rfl (by kernel_rfl) rfl (box_cell 1 rfl rfl)) ?_
 refine hl_v rfl rfl rfl (rv_field (k0 := 10) rfl (by kernel_rfl) rfl) ?_
 refine hl_v rfl rfl rfl (rv_load rfl (by kernel_rfl) rfl (box_cell 1 rfl rfl)) ?_
 refine hl_q rfl rfl rfl (rq_call (by kernel_rfl) rfl (fun w hm => specLutValues_ret x.n x.bs _ x.ni w (hr.n.below hm.bel) (hr.bs.below hm.bel) hok.n hok.b)) ?_
 intro v5 p6 hR7
 subst hR7
 refine hl_v rfl rfl rfl (rv_ev rfl) ?_
 refine hl_less (sx 0 rfl (sx 1 rfl (sx 2 rfl (sx 4 rfl (sx 5 rfl (sx 6 rfl (sub_nil _))))))) (.refl _) ?_
 refine hl_nil ?_
 refine hq_then ?_
 refine hc_seq ?_
 refine hc_region ?_
 refine hl_row rfl rfl rfl (rq_slice0 (s := 1) rfl Try.underlying27 (by kernel_rfl)) ?_
 intro g8
 refine hl_v rfl rfl rfl (rv_ev rfl) ?_
 refine hl_less (sx 0 rfl (sx 1 rfl (sx 2 rfl (sx 4 rfl (sx 5 rfl (sx 6 rfl (sx 7 rfl (sub_nil _)))))))) (.refl _) ?_
 refine hl_nil ?_
 refine hq_then ?_
 refine hc_seq ?_
 refine hc_seq ?_
 refine hc_region ?_
 refine hl_v rfl rfl rfl (rv_ev rfl) ?_
 refine hl_less (sx 0 rfl (sx 1 rfl (sx 2 rfl (sx 4 rfl (sx 5 rfl (sx 6 rfl (sx 7 rfl (sx 8 rfl (sub_nil _))))))))) (.refl _) ?_
 refine hl_nil ?_
 refine hq_then ?_
 refine hc_block ?_
 refine hc_conv [bigE (([] : List IR).map irPart), rowE 24 1 (.slice (some ⟨g8, 0, none⟩) 0 0) 0 ([]), rowE 3 1 v5 ((valT x.n x.bs x.ni).length) ((valT x.n x.bs x.ni).map (Value.int .i64)), rowE 3 1 v2 ((valT x.n x.ao x.oi).length) ((valT x.n x.ao x.oi).map (Value.int .i64)), boxE b1 #[.int .i64 x.n.ins, x.n.sv, x.n.lv, x.n.ov, x.pv, x.qv, x.kv, x.av, x.bv, .int .i64 x.oi, .int .i64 x.ni] 40] (fun w hm => Mem.big (ps := []) hm) ?_
 refine hc_loop3 (α := Nat) (β := Value) (γ := List IR) (fun m u es => [bigE (es.map irPart), rowE 24 1 u es.length (es.flatMap irC), rowE 3 1 v5 ((valT x.n x.bs x.ni).length) ((valT x.n x.bs x.ni).map (Value.int .i64)), rowE 3 1 v2 ((valT x.n x.ao x.oi).length) ((valT x.n x.ao x.oi).map (Value.int .i64)), boxE b1 #[.int .i64 x.n.ins, x.n.sv, x.n.lv, x.n.ov, x.pv, x.qv, x.kv, x.av, x.bv, .int .i64 x.oi, .int .i64 x.ni] 40]) (fun m u es => [(0, .agg #[.int .i64 x.n.ins, x.n.sv, x.n.lv, x.n.ov, x.pv, x.qv, x.kv, x.av, x.bv, .int .i64 x.oi, .int .i64 x.ni]), (1, .int .i64 a), (2, .pointer (some ⟨b1, 0, none⟩)), (4, .slice none 0 0), (5, v2), (6, v5), (7, u), (8, .int .i64 (m : Int))]) (fun m u es => m ≤ x.n.cnt.toNat ∧ WOk x a.toNat m m es) (fun m u es => x.n.cnt.toNat - m) 0 _ [] ⟨by omega, ⟨rfl, fun q hq => absurd hq (by omega)⟩⟩ (sx 0 rfl (sx 1 rfl (sx 2 rfl (sx 4 rfl (sx 5 rfl (sx 6 rfl (sx 7 rfl (sx 8 rfl (sub_nil _))))))))) ((.cons_cons _ (.cons_cons _ (.cons_cons _ (.cons_cons _ (.cons_cons _ .slnil)))))) ?_
 intro m u es hi9
 obtain ⟨hm9, hw⟩ := hi9
 have hel := hw.len
 refine hc_seq ?_
 refine hc_seq ?_
 refine hc_region ?_
 refine hl_v rfl rfl rfl (rv_ev rfl) ?_
 refine hl_v rfl rfl rfl (rv_ev rfl) ?_
 refine hl_v rfl rfl rfl (rv_len rfl Try.underlying24 rfl (rd_row 3 rfl)) ?_
 refine hl_lss rfl rfl rfl rfl rfl rfl (fun h10 => ?_) (fun h10 => ?_)
 ·
  refine hl_less (sx 0 rfl (sx 1 rfl (sx 2 rfl (sx 4 rfl (sx 5 rfl (sx 6 rfl (sx 7 rfl (sx 8 rfl (sx 35 rfl (sub_nil _)))))))))) (.refl _) ?_
  refine hl_nil ?_
  refine hq_then ?_
  refine hc_true rfl ?_
  refine hc_skip ?_
  refine hq_then ?_
  refine hc_seq ?_
  refine hc_block ?_
  refine hc_seq ?_
  refine hc_region ?_
  refine hl_row rfl rfl rfl (rq_slice0 (s := 1) rfl Try.underlying24 (by kernel_rfl)) ?_
  intro g11
  refine hl_v rfl rfl rfl (rv_ev rfl) ?_
  refine hl_less (sx 0 rfl (sx 1 rfl (sx 2 rfl (sx 4 rfl (sx 5 rfl (sx 6 rfl (sx 7 rfl (sx 8 rfl (sx 9 rfl (sx 35 rfl (sub_nil _))))))))))) (.refl _) ?_
  refine hl_nil ?_
  refine hq_then ?_
  refine hc_seq ?_
  refine hc_seq ?_
  refine hc_region ?_
  refine hl_v rfl rfl rfl (rv_ev rfl) ?_
  refine hl_less (sx 0 rfl (sx 1 rfl (sx 2 rfl (sx 4 rfl (sx 5 rfl (sx 6 rfl (sx 7 rfl (sx 8 rfl (sx 9 rfl (sx 10 rfl (sx 35 rfl (sub_nil _)))))))))))) (.refl _) ?_
  refine hl_nil ?_
  refine hq_then ?_
  refine hc_block ?_
  refine hc_loop3 (α := Nat) (β := Value) (γ := List Int) (fun t u2 zs => [rowE 3 1 u2 zs.length (zs.map (Value.int .i64)), bigE (es.map irPart), rowE 24 1 u es.length (es.flatMap irC), rowE 3 1 v5 ((valT x.n x.bs x.ni).length) ((valT x.n x.bs x.ni).map (Value.int .i64)), rowE 3 1 v2 ((valT x.n x.ao x.oi).length) ((valT x.n x.ao x.oi).map (Value.int .i64)), boxE b1 #[.int .i64 x.n.ins, x.n.sv, x.n.lv, x.n.ov, x.pv, x.qv, x.kv, x.av, x.bv, .int .i64 x.oi, .int .i64 x.ni] 40]) (fun t u2 zs => [(0, .agg #[.int .i64 x.n.ins, x.n.sv, x.n.lv, x.n.ov, x.pv, x.qv, x.kv, x.av, x.bv, .int .i64 x.oi, .int .i64 x.ni]), (1, .int .i64 a), (2, .pointer (some ⟨b1, 0, none⟩)), (4, .slice none 0 0), (5, v2), (6, v5), (7, u), (8, .int .i64 (m : Int)), (9, u2), (10, .int .i64 (t : Int)), (35, .bool true)]) (fun t u2 zs => t ≤ a.toNat + 1 ∧ zs = rowW x (wvsL x a.toNat m) m t) (fun t u2 zs => a.toNat + 1 - t) 0 _ [] ⟨by omega, rfl⟩ (sx 0 rfl (sx 1 rfl (sx 2 rfl (sx 4 rfl (sx 5 rfl (sx 6 rfl (sx 7 rfl (sx 8 rfl (sx 9 rfl (sx 10 rfl (sx 35 rfl (sub_nil _)))))))))))) ((.cons_cons _ (.cons_cons _ (.cons_cons _ (.cons_cons _ (.cons_cons _ (.cons_cons _ .slnil))))))) ?_
  intro t u2 zs hi12
  obtain ⟨ht, hz⟩ := hi12
  have hzl : zs.length = t := by rw [hz]; exact rowW_len _ _ _ _
  refine hc_seq ?_
  refine hc_seq ?_
  refine hc_region ?_
  refine hl_v rfl rfl rfl (rv_ev rfl) ?_
  refine hl_v rfl rfl rfl (rv_ev rfl) ?_
  refine hl_leq rfl rfl rfl rfl rfl rfl (fun h13 => ?_) (fun h13 => ?_)
  ·
   refine hl_less (sx 0 rfl (sx 1 rfl (sx 2 rfl (sx 4 rfl (sx 5 rfl (sx 6 rfl (sx 7 rfl (sx 8 rfl (sx 9 rfl (sx 10 rfl (sx 35 rfl (sx 41 rfl (sub_nil _))))))))))))) (.refl _) ?_
   refine hl_nil ?_
   refine hq_then ?_
   refine hc_true rfl ?_
   refine hc_skip ?_
   refine hq_then ?_
   refine hc_seq ?_
   refine hc_block ?_
   refine hc_seq ?_
   refine hc_region ?_
   refine hl_v rfl rfl rfl (rv_ev rfl) ?_
   refine hl_v rfl rfl rfl (rv_ev rfl) ?_
   refine hl_v rfl rfl rfl (rv_index (s := 1) rfl Try.underlying24 (by kernel_rfl) rfl rfl (rd_row 3 rfl) (by omega) (by first | omega | (simp only [List.length_set]; omega))) ?_
   refine hl_v rfl rfl rfl (rv_loadEl (u := .int .i64 ((valT x.n x.bs x.ni).getD m 0)) rfl (by kernel_rfl) rfl (rd_row 3 rfl) (ints_at1 (show _ < (valT x.n x.bs x.ni).length by first | omega | (simp only [List.length_set]; omega)))) ?_
   refine hl_v rfl rfl rfl (rv_ev rfl) ?_
   refine hl_less (sx 0 rfl (sx 1 rfl (sx 2 rfl (sx 4 rfl (sx 5 rfl (sx 6 rfl (sx 7 rfl (sx 8 rfl (sx 9 rfl (sx 10 rfl (sx 11 rfl (sx 35 rfl (sx 41 rfl (sub_nil _)))))))))))))) (.refl _) ?_
   refine hl_nil ?_
   refine hq_then ?_
   refine hc_seq ?_
   refine hc_region ?_
   refine hl_v rfl rfl rfl (rv_ev rfl) ?_
   refine hl_v rfl rfl rfl (rv_sub rfl rfl rfl (by constructor <;> omega)) ?_
   refine hl_v rfl rfl rfl (rv_field (k0 := 0) rfl (by kernel_rfl) rfl) ?_
   refine hl_v rfl rfl rfl (rv_field (k0 := 0) rfl (by kernel_rfl) rfl) ?_
   refine hl_v rfl rfl rfl (rv_load rfl (by kernel_rfl) rfl (box_cell 5 rfl rfl)) ?_
   refine hl_v rfl rfl rfl (rv_sub rfl rfl rfl (by constructor <;> omega)) ?_
   refine hl_v rfl rfl rfl (rv_ev rfl) ?_
   refine hl_less (sx 0 rfl (sx 1 rfl (sx 2 rfl (sx 4 rfl (sx 5 rfl (sx 6 rfl (sx 7 rfl (sx 8 rfl (sx 9 rfl (sx 10 rfl (sx 11 rfl (sx 12 rfl (sx 35 rfl (sx 41 rfl (sub_nil _))))))))))))))) (.refl _) ?_
   refine hl_nil ?_
   refine hq_then ?_
   refine hc_seq ?_
   refine hc_region ?_
   refine hl_v rfl rfl rfl (rv_ev rfl) ?_
   refine hl_v rfl rfl rfl (rv_field (k0 := 0) rfl (by kernel_rfl) rfl) ?_
   refine hl_v rfl rfl rfl (rv_loadN (cs := [.int .i64 x.n.ins, x.n.sv, x.n.lv, x.n.ov]) rfl (by kernel_rfl) (by kernel_rfl) rfl rfl (box_part 5 rfl 0 rfl)) ?_
   refine hl_callV rfl rfl rfl (rq_call (by kernel_rfl) rfl (fun w hm => ret_ans (l20First_ans x.n w (hr.n.below hm.bel) hok.n.sz))) ?_
   refine hl_v rfl rfl rfl (rv_sub rfl rfl rfl (by constructor <;> omega)) ?_
   refine hl_v rfl rfl rfl (rv_ev rfl) ?_
   refine hl_less (sx 0 rfl (sx 1 rfl (sx 2 rfl (sx 4 rfl (sx 5 rfl (sx 6 rfl (sx 7 rfl (sx 8 rfl (sx 9 rfl (sx 10 rfl (sx 11 rfl (sx 12 rfl (sx 13 rfl (sx 35 rfl (sx 41 rfl (sub_nil _)))))))))))))))) (.refl _) ?_
   refine hl_nil ?_
   refine hq_then ?_
   refine hc_seq ?_
   refine hc_seq ?_
   refine hc_region ?_
   refine hl_v rfl rfl rfl (rv_ev rfl) ?_
   refine hl_geq rfl rfl rfl rfl rfl rfl (fun h14 => ?_) (fun h14 => ?_)
   ·
    refine hl_v rfl rfl rfl (rv_ev rfl) ?_
    refine hl_v rfl rfl rfl (rv_ev rfl) ?_
    refine hl_lss rfl rfl rfl rfl rfl rfl (fun h15 => ?_) (fun h15 => ?_)
    ·
     refine hl_v rfl rfl rfl (rv_ev rfl) ?_
     refine hl_v rfl rfl rfl (rv_ev rfl) ?_
     refine hl_v rfl rfl rfl (rv_ev rfl) ?_
     refine hl_v rfl rfl rfl (rv_field (k0 := 6) rfl (by kernel_rfl) rfl) ?_
     refine hl_v rfl rfl rfl (rv_load rfl (by kernel_rfl) rfl (box_cell 5 rfl rfl)) ?_
     refine hl_v rfl rfl rfl (rv_ev rfl) ?_
     refine hl_v rfl rfl rfl (rv_index (s := 1) rfl Try.underlying24 (by kernel_rfl) rfl rfl (rd_old ((hr).ks)) (by omega) (by first | omega | (simp only [List.length_set]; omega))) ?_
     refine hl_v rfl rfl rfl (rv_loadEl (u := .int .i64 (x.ks.getD ((((m : Int) - 1) - x.n.ins).toNat) 0)) rfl (by kernel_rfl) rfl (rd_old ((hr).ks)) (ints_at1 (show _ < x.ks.length by first | omega | (simp only [List.length_set]; omega)))) ?_
     refine hl_lss rfl rfl rfl rfl rfl rfl (fun h16 => ?_) (fun h16 => ?_)
     ·
      refine hl_v rfl rfl rfl (rv_ev rfl) ?_
      refine hl_less (sx 0 rfl (sx 1 rfl (sx 2 rfl (sx 4 rfl (sx 5 rfl (sx 6 rfl (sx 7 rfl (sx 8 rfl (sx 9 rfl (sx 10 rfl (sx 11 rfl (sx 12 rfl (sx 13 rfl (sx 35 rfl (sx 41 rfl (sx 73 rfl (sub_nil _))))))))))))))))) (.refl _) ?_
      refine hl_nil ?_
      refine hq_then ?_
      refine hc_true rfl ?_
      refine hc_region ?_
      refine hl_v rfl rfl rfl (rv_ev rfl) ?_
      refine hl_v rfl rfl rfl (rv_ev rfl) ?_
      refine hl_v rfl rfl rfl (rv_index (s := 1) rfl Try.underlying24 (by kernel_rfl) rfl rfl (rd_row 4 rfl) (by omega) (by first | omega | (simp only [List.length_set]; omega))) ?_
      refine hl_v rfl rfl rfl (rv_loadEl (u := .int .i64 ((valT x.n x.ao x.oi).getD m 0)) rfl (by kernel_rfl) rfl (rd_row 4 rfl) (ints_at1 (show _ < (valT x.n x.ao x.oi).length by first | omega | (simp only [List.length_set]; omega)))) ?_
      refine hl_v rfl rfl rfl (rv_ev rfl) ?_
      refine hl_less (sx 0 rfl (sx 1 rfl (sx 2 rfl (sx 4 rfl (sx 5 rfl (sx 6 rfl (sx 7 rfl (sx 8 rfl (sx 9 rfl (sx 10 rfl (sx 11 rfl (sx 12 rfl (sx 13 rfl (sx 35 rfl (sx 41 rfl (sx 73 rfl (sub_nil _))))))))))))))))) (.refl _) ?_
      refine hl_nil ?_
      refine hq_then ?_
      refine hc_seq ?_
      refine hc_seq ?_
      refine hc_region ?_
      refine hl_v rfl rfl rfl (rv_ev rfl) ?_
      refine hl_geq rfl rfl rfl rfl rfl rfl (fun h17 => ?_) (fun h17 => ?_)
      ·
       refine hl_less (sx 0 rfl (sx 1 rfl (sx 2 rfl (sx 4 rfl (sx 5 rfl (sx 6 rfl (sx 7 rfl (sx 8 rfl (sx 9 rfl (sx 10 rfl (sx 11 rfl (sx 12 rfl (sx 13 rfl (sx 35 rfl (sx 41 rfl (sx 73 rfl (sx 79 rfl (sub_nil _)))))))))))))))))) (.refl _) ?_
       refine hl_nil ?_
       refine hq_then ?_
       refine hc_true rfl ?_
       refine hc_seq ?_
       refine hc_region ?_
       obtain ⟨i, hmi⟩ : ∃ i : Nat, (m : Int) - x.n.fst = (i : Int) := ⟨((m : Int) - x.n.fst).toNat, by omega⟩
       rw [hmi]
       have hil : i < x.n.ls.length := by omega
       have hlt9 := hok.n.lt i hil
       have hx4 := hlt9.1.1
       have hdi : (x.dl.getD i ir0).xs.length = (x.n.ls.getD i lt0).xs.length := by have := (hok.dl i hil).1; omega
       refine hl_v rfl rfl rfl (rv_ev rfl) ?_
       refine hl_less (sx 0 rfl (sx 1 rfl (sx 2 rfl (sx 4 rfl (sx 5 rfl (sx 6 rfl (sx 7 rfl (sx 8 rfl (sx 9 rfl (sx 10 rfl (sx 11 rfl (sx 12 rfl (sx 13 rfl (sx 14 rfl (sx 35 rfl (sx 41 rfl (sx 73 rfl (sx 79 rfl (sub_nil _))))))))))))))))))) (.refl _) ?_
       refine hl_nil ?_
       refine hq_then ?_
       refine hc_seq ?_
       refine hc_seq ?_
       refine hc_region ?_
       refine hl_v rfl rfl rfl (rv_ev rfl) ?_
       refine hl_less (sx 0 rfl (sx 1 rfl (sx 2 rfl (sx 4 rfl (sx 5 rfl (sx 6 rfl (sx 7 rfl (sx 8 rfl (sx 9 rfl (sx 10 rfl (sx 11 rfl (sx 12 rfl (sx 13 rfl (sx 14 rfl (sx 15 rfl (sx 35 rfl (sx 41 rfl (sx 73 rfl (sx 79 rfl (sub_nil _)))))))))))))))))))) (.refl _) ?_
       refine hl_nil ?_
       refine hq_then ?_
       refine hc_block ?_
       refine hc_loop2 (α := Nat) (β := Int) (fun j q => [rowE 3 1 u2 zs.length (zs.map (Value.int .i64)), bigE (es.map irPart), rowE 24 1 u es.length (es.flatMap irC), rowE 3 1 v5 ((valT x.n x.bs x.ni).length) ((valT x.n x.bs x.ni).map (Value.int .i64)), rowE 3 1 v2 ((valT x.n x.ao x.oi).length) ((valT x.n x.ao x.oi).map (Value.int .i64)), boxE b1 #[.int .i64 x.n.ins, x.n.sv, x.n.lv, x.n.ov, x.pv, x.qv, x.kv, x.av, x.bv, .int .i64 x.oi, .int .i64 x.ni] 40]) (fun j q => [(0, .agg #[.int .i64 x.n.ins, x.n.sv, x.n.lv, x.n.ov, x.pv, x.qv, x.kv, x.av, x.bv, .int .i64 x.oi, .int .i64 x.ni]), (1, .int .i64 a), (2, .pointer (some ⟨b1, 0, none⟩)), (4, .slice none 0 0), (5, v2), (6, v5), (7, u), (8, .int .i64 (m : Int)), (9, u2), (10, .int .i64 (t : Int)), (11, .int .i64 ((valT x.n x.ao x.oi).getD m 0)), (12, .int .i64 (((m : Int) - 1) - x.n.ins)), (13, .int .i64 (i : Int)), (14, .int .i64 q), (15, .int .i64 (j : Int)), (35, .bool true), (41, .bool true), (73, .bool true), (79, .bool true)]) (fun j q => j ≤ (x.n.ls.getD i lt0).xs.length ∧ q = pk (lin x (wvsL x a.toNat m) i (t : Int)) j) (fun j q => (x.n.ls.getD i lt0).xs.length - j) 0 0 ⟨Nat.zero_le _, rfl⟩ (sx 0 rfl (sx 1 rfl (sx 2 rfl (sx 4 rfl (sx 5 rfl (sx 6 rfl (sx 7 rfl (sx 8 rfl (sx 9 rfl (sx 10 rfl (sx 11 rfl (sx 12 rfl (sx 13 rfl (sx 14 rfl (sx 15 rfl (sx 35 rfl (sx 41 rfl (sx 73 rfl (sx 79 rfl (sub_nil _)))))))))))))))))))) ((.cons_cons _ (.cons_cons _ (.cons_cons _ (.cons_cons _ (.cons_cons _ (.cons_cons _ .slnil))))))) ?_
       intro j q hi18
       obtain ⟨hj, hq⟩ := hi18
       refine hc_seq ?_
       refine hc_seq ?_
       refine hc_region ?_
       refine hl_v rfl rfl rfl (rv_ev rfl) ?_
       refine hl_v rfl rfl rfl (rv_field (k0 := 0) rfl (by kernel_rfl) rfl) ?_
       refine hl_v rfl rfl rfl (rv_field (k0 := 2) rfl (by kernel_rfl) rfl) ?_
       refine hl_v rfl rfl rfl (rv_load rfl (by kernel_rfl) rfl (box_cell 5 rfl rfl)) ?_
       refine hl_v rfl rfl rfl (rv_ev rfl) ?_
       refine hl_v rfl rfl rfl (rv_index (s := 2) rfl Try.underlying35 (by kernel_rfl) rfl rfl (rd_old ((hr).n.lt.row)) (by omega) (by first | omega | (simp only [List.length_set]; omega))) ?_
       refine hl_v rfl rfl rfl (rv_fieldEl (k0 := 0) rfl (by kernel_rfl) rfl (rd_old ((hr).n.lt.row)) (by first | omega | (simp only [List.length_set]; omega))) ?_
       refine hl_v rfl rfl rfl (rv_loadEl (u := (x.n.ls.getD i lt0).iv) rfl (by kernel_rfl) rfl (rd_old ((hr).n.lt.row)) ((flat_at ltC 2 (fun _ => rfl) x.n.ls lt0 (show i < _ by first | omega | (simp only [List.length_set]; omega)) (by decide)).trans rfl)) ?_
       refine hl_v rfl rfl rfl (rv_len rfl Try.underlying24 rfl (rd_old ((hr).n.lt.at (d := lt0) (k := i) (by omega)))) ?_
       refine hl_lss rfl rfl rfl rfl rfl rfl (fun h19 => ?_) (fun h19 => ?_)
       ·
        refine hl_less (sx 0 rfl (sx 1 rfl (sx 2 rfl (sx 4 rfl (sx 5 rfl (sx 6 rfl (sx 7 rfl (sx 8 rfl (sx 9 rfl (sx 10 rfl (sx 11 rfl (sx 12 rfl (sx 13 rfl (sx 14 rfl (sx 15 rfl (sx 35 rfl (sx 41 rfl (sx 73 rfl (sx 79 rfl (sx 89 rfl (sub_nil _))))))))))))))))))))) (.refl _) ?_
        refine hl_nil ?_
        refine hq_then ?_
        refine hc_true rfl ?_
        refine hc_skip ?_
        refine hq_then ?_
        refine hc_seq ?_
        refine hc_block ?_
        refine hc_seq ?_
        refine hc_region ?_
        refine hl_v rfl rfl rfl (rv_field (k0 := 0) rfl (by kernel_rfl) rfl) ?_
        refine hl_v rfl rfl rfl (rv_field (k0 := 2) rfl (by kernel_rfl) rfl) ?_
        refine hl_v rfl rfl rfl (rv_load rfl (by kernel_rfl) rfl (box_cell 5 rfl rfl)) ?_
        refine hl_v rfl rfl rfl (rv_ev rfl) ?_
        refine hl_v rfl rfl rfl (rv_index (s := 2) rfl Try.underlying35 (by kernel_rfl) rfl rfl (rd_old ((hr).n.lt.row)) (by omega) (by first | omega | (simp only [List.length_set]; omega))) ?_
        refine hl_v rfl rfl rfl (rv_fieldEl (k0 := 0) rfl (by kernel_rfl) rfl (rd_old ((hr).n.lt.row)) (by first | omega | (simp only [List.length_set]; omega))) ?_
        refine hl_v rfl rfl rfl (rv_loadEl (u := (x.n.ls.getD i lt0).iv) rfl (by kernel_rfl) rfl (rd_old ((hr).n.lt.row)) ((flat_at ltC 2 (fun _ => rfl) x.n.ls lt0 (show i < _ by first | omega | (simp only [List.length_set]; omega)) (by decide)).trans rfl)) ?_
        refine hl_v rfl rfl rfl (rv_ev rfl) ?_
        refine hl_v rfl rfl rfl (rv_index (s := 1) rfl Try.underlying24 (by kernel_rfl) rfl rfl (rd_old ((hr).n.lt.at (d := lt0) (k := i) (by omega))) (by omega) (by first | omega | (simp only [List.length_set]; omega))) ?_
        refine hl_v rfl rfl rfl (rv_loadEl (u := .int .i64 (((x.n.ls.getD i lt0).xs).getD j 0)) rfl (by kernel_rfl) rfl (rd_old ((hr).n.lt.at (d := lt0) (k := i) (by omega))) (ints_at1 (show _ < ((x.n.ls.getD i lt0).xs).length by first | omega | (simp only [List.length_set]; omega)))) ?_
        refine hl_v rfl rfl rfl (rv_ev rfl) ?_
        refine hl_less (sx 0 rfl (sx 1 rfl (sx 2 rfl (sx 4 rfl (sx 5 rfl (sx 6 rfl (sx 7 rfl (sx 8 rfl (sx 9 rfl (sx 10 rfl (sx 11 rfl (sx 12 rfl (sx 13 rfl (sx 14 rfl (sx 15 rfl (sx 16 rfl (sx 35 rfl (sx 41 rfl (sx 73 rfl (sx 79 rfl (sx 89 rfl (sub_nil _)))))))))))))))))))))) (.refl _) ?_
        refine hl_nil ?_
        refine hq_then ?_
        have hns := hlt9.1.2 j (by omega)
        have hdj := (hok.dl i hil).2 j (by omega)
        have hbk : (lin x (wvsL x a.toNat m) i (t : Int)) j = 0 ∨ (lin x (wvsL x a.toNat m) i (t : Int)) j = 1 := lin01 hok (by omega) hmi (by omega) j (by omega)
        have hal : ∀ z, z < j → (lin x (wvsL x a.toNat m) i (t : Int)) z = 0 ∨ (lin x (wvsL x a.toNat m) i (t : Int)) z = 1 := fun z hz => lin01 hok (by omega) hmi (by omega) z (by omega)
        have hpr := pk16 (b := (lin x (wvsL x a.toNat m) i (t : Int))) (k := j) hal (by omega)
        have hpw := pow4 (k := j) (by omega)
        have hpw0 : (0 : Int) < 2 ^ j := Int.pow_pos (by decide)
        refine hc_draw (by kernel_rfl) 24 [0, 1, 2, 3, 4, 5, 6, 7, 8, 9, 10, 11, 12, 13, 14, 15, 16, 17, 18, 19, 20, 21, 22, 23] (List.take 24 _) (List.drop 24 _) [[], [], [], [1, 2], [3], [], [], [5, 6], [7], [], [], [10], [11], [], [12, 13], [14], [], [15, 16], [17], [9, 18], [4, 8, 19], [], [20, 21], [0, 22]] [102, 103, 104, 105, 106, 107, 108, 109, 110, 111, 112, 113, 114, 115, 116, 117, 118, 119, 120, 121, 122, 123, 124, 125] (fun i_ vs_ v_ p_ => match i_ with | 0 => v_ = .int .i64 q ∧ p_ = [] | 1 => v_ = u ∧ p_ = [] | 2 => v_ = .int .i64 (((x.n.ls.getD i lt0).xs).getD j 0) ∧ p_ = [] | 3 => v_ = elP u ((((x.n.ls.getD i lt0).xs).getD j 0).toNat * 1) ∧ p_ = [] | 4 => v_ = (es.getD ((((x.n.ls.getD i lt0).xs).getD j 0).toNat) ir0).v ∧ p_ = [] | 5 => v_ = v2 ∧ p_ = [] | 6 => v_ = .int .i64 (((x.n.ls.getD i lt0).xs).getD j 0) ∧ p_ = [] | 7 => v_ = elP v2 ((((x.n.ls.getD i lt0).xs).getD j 0).toNat * 1) ∧ p_ = [] | 8 => v_ = .int .i64 ((valT x.n x.ao x.oi).getD ((((x.n.ls.getD i lt0).xs).getD j 0).toNat) 0) ∧ p_ = [] | 9 => v_ = .int .i64 (t : Int) ∧ p_ = [] | 10 => v_ = .pointer (some ⟨b1, 0 + 4, none⟩) ∧ p_ = [] | 11 => v_ = .pointer (some ⟨b1, 0 + 4 + 0, none⟩) ∧ p_ = [] | 12 => v_ = x.pv ∧ p_ = [] | 13 => v_ = .int .i64 (i : Int) ∧ p_ = [] | 14 => v_ = elP x.pv (((i : Int)).toNat * 1) ∧ p_ = [] | 15 => v_ = (x.dl.getD i ir0).v ∧ p_ = [] | 16 => v_ = .int .i64 (j : Int) ∧ p_ = [] | 17 => v_ = elP ((x.dl.getD i ir0).v) (((j : Int)).toNat * 1) ∧ p_ = [] | 18 => v_ = .int .i64 (((x.dl.getD i ir0).xs).getD j 0) ∧ p_ = [] | 19 => v_ = .int .i64 ((t : Int) - (((x.dl.getD i ir0).xs).getD j 0)) ∧ p_ = [] | 20 => v_ = .int .i64 ((lin x (wvsL x a.toNat m) i (t : Int)) j) ∧ p_ = [] | 21 => v_ = .int .i64 (j : Int) ∧ p_ = [] | 22 => v_ = .int .i64 ((lin x (wvsL x a.toNat m) i (t : Int)) j * 2 ^ j) ∧ p_ = [] | 23 => v_ = .int .i64 (q + ((lin x (wvsL x a.toNat m) i (t : Int)) j * 2 ^ j)) ∧ p_ = [] | _ => True) (List.take_append_drop 24 _).symm (by kernel_rfl) (by kernel_rfl) rfl rfl ?_ ?_
        ·
         refine ⟨?_, ?_, ?_, ?_, ?_, ?_, ?_, ?_, ?_, ?_, ?_, ?_, ?_, ?_, ?_, ?_, ?_, ?_, ?_, ?_, ?_, ?_, ?_, ?_, trivial⟩
         ·
          intro vf pf hR
          refine Or.inl ⟨rfl, ?_⟩
          refine rq_less (sx 14 rfl (sub_nil _)) (List.sublist_append_right _ _) ?_
          exact rq_v (rv_ev rfl)
         ·
          intro vf pf hR
          refine Or.inl ⟨rfl, ?_⟩
          refine rq_less (sx 7 rfl (sub_nil _)) (List.sublist_append_right _ _) ?_
          exact rq_v (rv_ev rfl)
         ·
          intro vf pf hR
          refine Or.inl ⟨rfl, ?_⟩
          refine rq_less (sx 16 rfl (sub_nil _)) (List.sublist_append_right _ _) ?_
          exact rq_v (rv_ev rfl)
         ·
          intro vf pf hR
          have e1 : (vf 1) = u ∧ (pf 1) = [] := hR 1 (by decide)
          have e2 : (vf 2) = .int .i64 (((x.n.ls.getD i lt0).xs).getD j 0) ∧ (pf 2) = [] := hR 2 (by decide)
          refine Or.inl ⟨rfl, ?_⟩
          refine rq_less (sx 103 (congrArg some e1.1) (sx 104 (congrArg some e2.1) (sub_nil _))) (List.sublist_append_right _ _) ?_
          exact rq_v (rv_index (s := 1) rfl Try.underlying27 (by kernel_rfl) rfl rfl (rd_row 2 rfl) (by omega) (by first | omega | (simp only [List.length_set]; omega)))
         ·
          intro vf pf hR
          have e3 : (vf 3) = elP u ((((x.n.ls.getD i lt0).xs).getD j 0).toNat * 1) ∧ (pf 3) = [] := hR 3 (by decide)
          refine Or.inl ⟨rfl, ?_⟩
          refine rq_less (sx 105 (congrArg some e3.1) (sub_nil _)) (List.sublist_append_right _ _) ?_
          exact rq_v (rv_loadEl (u := (es.getD ((((x.n.ls.getD i lt0).xs).getD j 0).toNat) ir0).v) rfl (by kernel_rfl) rfl (rd_row 2 rfl) (flat_one irC (fun r => r.v) (fun _ => rfl) es ir0 (show (((x.n.ls.getD i lt0).xs).getD j 0).toNat < _ by first | omega | (simp only [List.length_set]; omega))))
         ·
          intro vf pf hR
          refine Or.inl ⟨rfl, ?_⟩
          refine rq_less (sx 5 rfl (sub_nil _)) (List.sublist_append_right _ _) ?_
          exact rq_v (rv_ev rfl)
         ·
          intro vf pf hR
          refine Or.inl ⟨rfl, ?_⟩
          refine rq_less (sx 16 rfl (sub_nil _)) (List.sublist_append_right _ _) ?_
          exact rq_v (rv_ev rfl)
         ·
          intro vf pf hR
          have e5 : (vf 5) = v2 ∧ (pf 5) = [] := hR 5 (by decide)
          have e6 : (vf 6) = .int .i64 (((x.n.ls.getD i lt0).xs).getD j 0) ∧ (pf 6) = [] := hR 6 (by decide)
          refine Or.inl ⟨rfl, ?_⟩
          refine rq_less (sx 107 (congrArg some e5.1) (sx 108 (congrArg some e6.1) (sub_nil _))) (List.sublist_append_right _ _) ?_
          exact rq_v (rv_index (s := 1) rfl Try.underlying24 (by kernel_rfl) rfl rfl (rd_row 4 rfl) (by omega) (by first | omega | (simp only [List.length_set]; omega)))
         ·
          intro vf pf hR
          have e7 : (vf 7) = elP v2 ((((x.n.ls.getD i lt0).xs).getD j 0).toNat * 1) ∧ (pf 7) = [] := hR 7 (by decide)
          refine Or.inl ⟨rfl, ?_⟩
          refine rq_less (sx 109 (congrArg some e7.1) (sub_nil _)) (List.sublist_append_right _ _) ?_
          exact rq_v (rv_loadEl (u := .int .i64 ((valT x.n x.ao x.oi).getD ((((x.n.ls.getD i lt0).xs).getD j 0).toNat) 0)) rfl (by kernel_rfl) rfl (rd_row 4 rfl) (ints_at1 (show _ < (valT x.n x.ao x.oi).length by first | omega | (simp only [List.length_set]; omega))))
         ·
          intro vf pf hR
          refine Or.inl ⟨rfl, ?_⟩
          refine rq_less (sx 10 rfl (sub_nil _)) (List.sublist_append_right _ _) ?_
          exact rq_v (rv_ev rfl)
         ·
          intro vf pf hR
          refine Or.inl ⟨rfl, ?_⟩
          refine rq_less (sx 2 rfl (sub_nil _)) (List.sublist_append_right _ _) ?_
          exact rq_v (rv_field (k0 := 4) rfl (by kernel_rfl) rfl)
         ·
          intro vf pf hR
          have e10 : (vf 10) = .pointer (some ⟨b1, 0 + 4, none⟩) ∧ (pf 10) = [] := hR 10 (by decide)
          refine Or.inl ⟨rfl, ?_⟩
          refine rq_less (sx 112 (congrArg some e10.1) (sub_nil _)) (List.sublist_append_right _ _) ?_
          exact rq_v (rv_field (k0 := 0) rfl (by kernel_rfl) rfl)
         ·
          intro vf pf hR
          have e11 : (vf 11) = .pointer (some ⟨b1, 0 + 4 + 0, none⟩) ∧ (pf 11) = [] := hR 11 (by decide)
          refine Or.inl ⟨rfl, ?_⟩
          refine rq_less (sx 113 (congrArg some e11.1) (sub_nil _)) (List.sublist_append_right _ _) ?_
          exact rq_v (rv_load rfl (by kernel_rfl) rfl (box_cell 5 rfl rfl))
         ·
          intro vf pf hR
          refine Or.inl ⟨rfl, ?_⟩
          refine rq_less (sx 13 rfl (sub_nil _)) (List.sublist_append_right _ _) ?_
          exact rq_v (rv_ev rfl)
         ·
          intro vf pf hR
          have e12 : (vf 12) = x.pv ∧ (pf 12) = [] := hR 12 (by decide)
          have e13 : (vf 13) = .int .i64 (i : Int) ∧ (pf 13) = [] := hR 13 (by decide)
          refine Or.inl ⟨rfl, ?_⟩
          refine rq_less (sx 114 (congrArg some e12.1) (sx 115 (congrArg some e13.1) (sub_nil _))) (List.sublist_append_right _ _) ?_
          exact rq_v (rv_index (s := 1) rfl Try.underlying27 (by kernel_rfl) rfl rfl (rd_old ((hr).dl.row)) (by omega) (by first | omega | (simp only [List.length_set]; omega)))
         ·
          intro vf pf hR
          have e14 : (vf 14) = elP x.pv (((i : Int)).toNat * 1) ∧ (pf 14) = [] := hR 14 (by decide)
          refine Or.inl ⟨rfl, ?_⟩
          refine rq_less (sx 116 (congrArg some e14.1) (sub_nil _)) (List.sublist_append_right _ _) ?_
          exact rq_v (rv_loadEl (u := (x.dl.getD i ir0).v) rfl (by kernel_rfl) rfl (rd_old ((hr).dl.row)) (flat_one irC (fun r => r.v) (fun _ => rfl) x.dl ir0 (show i < _ by first | omega | (simp only [List.length_set]; omega))))
         ·
          intro vf pf hR
          refine Or.inl ⟨rfl, ?_⟩
          refine rq_less (sx 15 rfl (sub_nil _)) (List.sublist_append_right _ _) ?_
          exact rq_v (rv_ev rfl)
         ·
          intro vf pf hR
          have e15 : (vf 15) = (x.dl.getD i ir0).v ∧ (pf 15) = [] := hR 15 (by decide)
          have e16 : (vf 16) = .int .i64 (j : Int) ∧ (pf 16) = [] := hR 16 (by decide)
          refine Or.inl ⟨rfl, ?_⟩
          refine rq_less (sx 117 (congrArg some e15.1) (sx 118 (congrArg some e16.1) (sub_nil _))) (List.sublist_append_right _ _) ?_
          exact rq_v (rv_index (s := 1) rfl Try.underlying24 (by kernel_rfl) rfl rfl (rd_old ((hr).dl.at (d := ir0) (k := i) (by omega))) (by omega) (by first | omega | (simp only [List.length_set]; omega)))
         ·
          intro vf pf hR
          have e17 : (vf 17) = elP ((x.dl.getD i ir0).v) (((j : Int)).toNat * 1) ∧ (pf 17) = [] := hR 17 (by decide)
          refine Or.inl ⟨rfl, ?_⟩
          refine rq_less (sx 119 (congrArg some e17.1) (sub_nil _)) (List.sublist_append_right _ _) ?_
          exact rq_v (rv_loadEl (u := .int .i64 (((x.dl.getD i ir0).xs).getD j 0)) rfl (by kernel_rfl) rfl (rd_old ((hr).dl.at (d := ir0) (k := i) (by omega))) (ints_at1 (show _ < ((x.dl.getD i ir0).xs).length by first | omega | (simp only [List.length_set]; omega))))
         ·
          intro vf pf hR
          have e9 : (vf 9) = .int .i64 (t : Int) ∧ (pf 9) = [] := hR 9 (by decide)
          have e18 : (vf 18) = .int .i64 (((x.dl.getD i ir0).xs).getD j 0) ∧ (pf 18) = [] := hR 18 (by decide)
          refine Or.inl ⟨rfl, ?_⟩
          refine rq_less (sx 111 (congrArg some e9.1) (sx 120 (congrArg some e18.1) (sub_nil _))) (List.sublist_append_right _ _) ?_
          exact rq_v (rv_sub rfl rfl rfl (by constructor <;> omega))
         ·
          intro vf pf hR
          have e4 : (vf 4) = (es.getD ((((x.n.ls.getD i lt0).xs).getD j 0).toNat) ir0).v ∧ (pf 4) = [] := hR 4 (by decide)
          have e8 : (vf 8) = .int .i64 ((valT x.n x.ao x.oi).getD ((((x.n.ls.getD i lt0).xs).getD j 0).toNat) 0) ∧ (pf 8) = [] := hR 8 (by decide)
          have e19 : (vf 19) = .int .i64 ((t : Int) - (((x.dl.getD i ir0).xs).getD j 0)) ∧ (pf 19) = [] := hR 19 (by decide)
          refine Or.inl ⟨rfl, ?_⟩
          refine rq_less (sx 106 (congrArg some e4.1) (sx 110 (congrArg some e8.1) (sx 121 (congrArg some e19.1) (sub_nil _)))) (List.sublist_append_right _ _) ?_
          exact (rq_call (by kernel_rfl) rfl (fun w hm => ret_ans (l37At_lin w (rdsIr_sep hm 1 2 rfl rfl) hw rfl rfl rfl (by omega) (by omega))))
         ·
          intro vf pf hR
          refine Or.inl ⟨rfl, ?_⟩
          refine rq_less (sx 15 rfl (sub_nil _)) (List.sublist_append_right _ _) ?_
          exact rq_v (rv_ev rfl)
         ·
          intro vf pf hR
          have e20 : (vf 20) = .int .i64 ((lin x (wvsL x a.toNat m) i (t : Int)) j) ∧ (pf 20) = [] := hR 20 (by decide)
          have e21 : (vf 21) = .int .i64 (j : Int) ∧ (pf 21) = [] := hR 21 (by decide)
          refine Or.inl ⟨rfl, ?_⟩
          refine rq_less (sx 122 (congrArg some e20.1) (sx 123 (congrArg some e21.1) (sub_nil _))) (List.sublist_append_right _ _) ?_
          exact rq_v (rv_shlG (k := .i64) (kk := .i64) (r := (lin x (wvsL x a.toNat m) i (t : Int)) j * 2 ^ j) rfl rfl rfl rfl (by omega) (shl_pk hbk (by omega)))
         ·
          intro vf pf hR
          have e0 : (vf 0) = .int .i64 q ∧ (pf 0) = [] := hR 0 (by decide)
          have e22 : (vf 22) = .int .i64 ((lin x (wvsL x a.toNat m) i (t : Int)) j * 2 ^ j) ∧ (pf 22) = [] := hR 22 (by decide)
          refine Or.inl ⟨rfl, ?_⟩
          refine rq_less (sx 102 (congrArg some e0.1) (sx 124 (congrArg some e22.1) (sub_nil _))) (List.sublist_append_right _ _) ?_
          exact rq_v (rv_add rfl rfl rfl (by rw [hq]; constructor <;> (rcases hbk with e | e <;> rw [e] <;> omega)))
        ·
         intro vf pf hR
         have e23 : (vf 23) = .int .i64 (q + ((lin x (wvsL x a.toNat m) i (t : Int)) j * 2 ^ j)) ∧ (pf 23) = [] := hR 23 (by decide)
         refine hl_less (l' := [rowE 3 1 u2 zs.length (zs.map (Value.int .i64)), bigE (es.map irPart), rowE 24 1 u es.length (es.flatMap irC), rowE 3 1 v5 ((valT x.n x.bs x.ni).length) ((valT x.n x.bs x.ni).map (Value.int .i64)), rowE 3 1 v2 ((valT x.n x.ao x.oi).length) ((valT x.n x.ao x.oi).map (Value.int .i64)), boxE b1 #[.int .i64 x.n.ins, x.n.sv, x.n.lv, x.n.ov, x.pv, x.qv, x.kv, x.av, x.bv, .int .i64 x.oi, .int .i64 x.ni] 40]) (sx 0 rfl (sx 1 rfl (sx 2 rfl (sx 4 rfl (sx 5 rfl (sx 6 rfl (sx 7 rfl (sx 8 rfl (sx 9 rfl (sx 10 rfl (sx 11 rfl (sx 12 rfl (sx 13 rfl (sx 14 rfl (sx 15 rfl (sx 16 rfl (sx 35 rfl (sx 41 rfl (sx 73 rfl (sx 79 rfl (sx 89 rfl (sx 125 (congrArg some e23.1) (sub_nil _))))))))))))))))))))))) (List.sublist_append_right _ _) ?_
         simp only [List.drop_succ_cons, List.drop_zero]
         refine hl_v rfl rfl rfl (rv_ev rfl) ?_
         refine hl_less (sx 0 rfl (sx 1 rfl (sx 2 rfl (sx 4 rfl (sx 5 rfl (sx 6 rfl (sx 7 rfl (sx 8 rfl (sx 9 rfl (sx 10 rfl (sx 11 rfl (sx 12 rfl (sx 13 rfl (sx 14 rfl (sx 15 rfl (sx 16 rfl (sx 35 rfl (sx 41 rfl (sx 73 rfl (sx 79 rfl (sx 89 rfl (sub_nil _)))))))))))))))))))))) (.refl _) ?_
         refine hl_nil ?_
         refine hq_block_normal ?_
         refine hq_then ?_
         refine hc_region ?_
         refine hl_v rfl rfl rfl (rv_ev rfl) ?_
         refine hl_v rfl rfl rfl (rv_add rfl rfl rfl (by constructor <;> omega)) ?_
         refine hl_v rfl rfl rfl (rv_ev rfl) ?_
         refine hl_less (sx 0 rfl (sx 1 rfl (sx 2 rfl (sx 4 rfl (sx 5 rfl (sx 6 rfl (sx 7 rfl (sx 8 rfl (sx 9 rfl (sx 10 rfl (sx 11 rfl (sx 12 rfl (sx 13 rfl (sx 14 rfl (sx 15 rfl (sx 16 rfl (sx 35 rfl (sx 41 rfl (sx 73 rfl (sx 79 rfl (sx 89 rfl (sub_nil _)))))))))))))))))))))) (.refl _) ?_
         refine hl_nil ?_
         exact hq_round2 (j + 1) _ ⟨by omega, by first | rfl | (rw [hq]; rfl)⟩ (by omega) (sx 0 rfl (sx 1 rfl (sx 2 rfl (sx 4 rfl (sx 5 rfl (sx 6 rfl (sx 7 rfl (sx 8 rfl (sx 9 rfl (sx 10 rfl (sx 11 rfl (sx 12 rfl (sx 13 rfl (sx 14 rfl (sx 15 rfl (sx 35 rfl (sx 41 rfl (sx 73 rfl (sx 79 rfl (sub_nil _)))))))))))))))))))) ((.cons_cons _ (.cons_cons _ (.cons_cons _ (.cons_cons _ (.cons_cons _ (.cons_cons _ .slnil)))))))
       ·
        refine hl_less (sx 0 rfl (sx 1 rfl (sx 2 rfl (sx 4 rfl (sx 5 rfl (sx 6 rfl (sx 7 rfl (sx 8 rfl (sx 9 rfl (sx 10 rfl (sx 11 rfl (sx 12 rfl (sx 13 rfl (sx 14 rfl (sx 15 rfl (sx 35 rfl (sx 41 rfl (sx 73 rfl (sx 79 rfl (sx 89 rfl (sub_nil _))))))))))))))))))))) (.refl _) ?_
        refine hl_nil ?_
        refine hq_then ?_
        refine hc_false rfl ?_
        refine hc_exit ?_
        refine hq_then_exit ?_
        refine hq_then_exit ?_
        refine hq_block_exit ?_
        refine hq_then ?_
        refine hc_region ?_
        have hal : ∀ z, z < j → (lin x (wvsL x a.toNat m) i (t : Int)) z = 0 ∨ (lin x (wvsL x a.toNat m) i (t : Int)) z = 1 := fun z hz => lin01 hok (by omega) hmi (by omega) z (by omega)
        have hpr := pk16 (b := (lin x (wvsL x a.toNat m) i (t : Int))) (k := j) hal (by omega)
        refine hl_v rfl rfl rfl (rv_field (k0 := 0) rfl (by kernel_rfl) rfl) ?_
        refine hl_v rfl rfl rfl (rv_field (k0 := 2) rfl (by kernel_rfl) rfl) ?_
        refine hl_v rfl rfl rfl (rv_load rfl (by kernel_rfl) rfl (box_cell 5 rfl rfl)) ?_
        refine hl_v rfl rfl rfl (rv_ev rfl) ?_
        refine hl_v rfl rfl rfl (rv_index (s := 2) rfl Try.underlying35 (by kernel_rfl) rfl rfl (rd_old ((hr).n.lt.row)) (by omega) (by first | omega | (simp only [List.length_set]; omega))) ?_
        refine hl_v rfl rfl rfl (rv_fieldEl (k0 := 1) rfl (by kernel_rfl) rfl (rd_old ((hr).n.lt.row)) (by first | omega | (simp only [List.length_set]; omega))) ?_
        refine hl_v rfl rfl rfl (rv_loadEl (u := .int .i64 ((x.n.ls.getD i lt0).ma)) rfl (by kernel_rfl) rfl (rd_old ((hr).n.lt.row)) ((flat_at ltC 2 (fun _ => rfl) x.n.ls lt0 (show i < _ by first | omega | (simp only [List.length_set]; omega)) (by decide)).trans rfl)) ?_
        refine hl_v rfl rfl rfl (rv_ev rfl) ?_
        refine hl_v rfl rfl rfl (rv_shr rfl rfl rfl (by omega)) ?_
        refine hl_v rfl rfl rfl (rv_bits rfl (by decide) rfl rfl (r := (((x.n.ls.getD i lt0).ma) / 2 ^ (q : Int).toNat) % 2) (andOne _)) ?_
        refine hl_v rfl rfl rfl (rv_ev rfl) ?_
        refine hl_less (sx 0 rfl (sx 1 rfl (sx 2 rfl (sx 4 rfl (sx 5 rfl (sx 6 rfl (sx 7 rfl (sx 8 rfl (sx 9 rfl (sx 10 rfl (sx 11 rfl (sx 12 rfl (sx 13 rfl (sx 14 rfl (sx 15 rfl (sx 35 rfl (sx 41 rfl (sx 73 rfl (sx 79 rfl (sx 89 rfl (sub_nil _))))))))))))))))))))) (.refl _) ?_
        refine hl_nil ?_
        refine hq_then ?_
        refine hc_region ?_
        refine hl_v rfl rfl rfl (rv_ev rfl) ?_
        refine hl_v rfl rfl rfl (rv_ev rfl) ?_
        refine hl_row rfl rfl rfl (rq_buildSlice (z := .int .i64 0) (s := 1) (cs := ([(((x.n.ls.getD i lt0).ma) / 2 ^ (q : Int).toNat) % 2].map (Value.int .i64))) rfl Try.underlying24 (by kernel_rfl) (by decide) rfl (by kernel_rfl) rfl) ?_
        intro g20
        refine hl_append (i := 1) (z := .int .i64 0) (bytes := 8) (n' := (zs ++ ([(((x.n.ls.getD i lt0).ma) / 2 ^ (q : Int).toNat) % 2])).length) (xs' := ((zs ++ ([(((x.n.ls.getD i lt0).ma) / 2 ^ (q : Int).toNat) % 2])).map (Value.int .i64))) (L := fun v21 => [rowE 3 1 (.slice (some ⟨g20, 0, none⟩) 1 1) 1 ([(((x.n.ls.getD i lt0).ma) / 2 ^ (q : Int).toNat) % 2].map (Value.int .i64)), rowE 3 1 v21 ((zs ++ ([(((x.n.ls.getD i lt0).ma) / 2 ^ (q : Int).toNat) % 2])).length) ((zs ++ ([(((x.n.ls.getD i lt0).ma) / 2 ^ (q : Int).toNat) % 2])).map (Value.int .i64)), bigE (es.map irPart), rowE 24 1 u es.length (es.flatMap irC), rowE 3 1 v5 ((valT x.n x.bs x.ni).length) ((valT x.n x.bs x.ni).map (Value.int .i64)), rowE 3 1 v2 ((valT x.n x.ao x.oi).length) ((valT x.n x.ao x.oi).map (Value.int .i64)), boxE b1 #[.int .i64 x.n.ins, x.n.sv, x.n.lv, x.n.ov, x.pv, x.qv, x.kv, x.av, x.bv, .int .i64 x.oi, .int .i64 x.ni] 40]) rfl rfl rfl rfl Try.underlying24 (by kernel_rfl) (by kernel_rfl) rfl rfl rfl (rd_row 0 rfl) (ints_one _) (by first | omega | (simp; omega)) (len_app zs ([(((x.n.ls.getD i lt0).ma) / 2 ^ (q : Int).toNat) % 2])) (ints_app zs ([(((x.n.ls.getD i lt0).ma) / 2 ^ (q : Int).toNat) % 2])) (fun _ => rfl) ?_
        intro v21
        refine hl_v rfl rfl rfl (rv_ev rfl) ?_
        refine hl_less (sx 0 rfl (sx 1 rfl (sx 2 rfl (sx 4 rfl (sx 5 rfl (sx 6 rfl (sx 7 rfl (sx 8 rfl (sx 9 rfl (sx 10 rfl (sx 11 rfl (sx 12 rfl (sx 13 rfl (sx 14 rfl (sx 15 rfl (sx 35 rfl (sx 41 rfl (sx 73 rfl (sx 79 rfl (sx 89 rfl (sub_nil _))))))))))))))))))))) (.refl _) ?_
        refine hl_nil ?_
        refine hq_block_normal ?_
        refine hq_then ?_
        refine hc_region ?_
        refine hl_v rfl rfl rfl (rv_ev rfl) ?_
        refine hl_v rfl rfl rfl (rv_add rfl rfl rfl (by constructor <;> omega)) ?_
        refine hl_v rfl rfl rfl (rv_ev rfl) ?_
        refine hl_less (sx 0 rfl (sx 1 rfl (sx 2 rfl (sx 4 rfl (sx 5 rfl (sx 6 rfl (sx 7 rfl (sx 8 rfl (sx 9 rfl (sx 10 rfl (sx 11 rfl (sx 12 rfl (sx 13 rfl (sx 14 rfl (sx 15 rfl (sx 35 rfl (sx 41 rfl (sx 73 rfl (sx 79 rfl (sx 89 rfl (sub_nil _))))))))))))))))))))) (.refl _) ?_
        refine hl_nil ?_
        have hv9 : (((x.n.ls.getD i lt0).ma) / 2 ^ (q : Int).toNat) % 2 = wvV x (wvsL x a.toNat m) m (t : Int) := by rw [wv_lut x _ _ hmi]; unfold lutV; rw [hq, show j = (x.n.ls.getD i lt0).xs.length by omega]
        exact hq_round3 (t + 1) v21 (zs ++ ([(((x.n.ls.getD i lt0).ma) / 2 ^ (q : Int).toNat) % 2])) ⟨by omega, by rw [hv9, hz]; exact rowW_succ _ _ _ _⟩ (by omega) (sx 0 rfl (sx 1 rfl (sx 2 rfl (sx 4 rfl (sx 5 rfl (sx 6 rfl (sx 7 rfl (sx 8 rfl (sx 9 rfl (sx 10 rfl (sx 35 rfl (sub_nil _)))))))))))) ((.cons _ (.cons_cons _ (.cons_cons _ (.cons_cons _ (.cons_cons _ (.cons_cons _ (.cons_cons _ .slnil))))))))
      ·
       refine hl_less (sx 0 rfl (sx 1 rfl (sx 2 rfl (sx 4 rfl (sx 5 rfl (sx 6 rfl (sx 7 rfl (sx 8 rfl (sx 9 rfl (sx 10 rfl (sx 11 rfl (sx 12 rfl (sx 13 rfl (sx 35 rfl (sx 41 rfl (sx 73 rfl (sx 79 rfl (sub_nil _)))))))))))))))))) (.refl _) ?_
       refine hl_nil ?_
       refine hq_then ?_
       refine hc_false rfl ?_
       refine hc_skip ?_
       refine hq_then ?_
       refine hc_region ?_
       refine hl_v rfl rfl rfl (rv_ev rfl) ?_
       refine hl_v rfl rfl rfl (rv_ev rfl) ?_
       refine hl_row rfl rfl rfl (rq_buildSlice (z := .int .i64 0) (s := 1) (cs := ([(valT x.n x.ao x.oi).getD m 0].map (Value.int .i64))) rfl Try.underlying24 (by kernel_rfl) (by decide) rfl (by kernel_rfl) rfl) ?_
       intro g22
       refine hl_append (i := 1) (z := .int .i64 0) (bytes := 8) (n' := (zs ++ ([(valT x.n x.ao x.oi).getD m 0])).length) (xs' := ((zs ++ ([(valT x.n x.ao x.oi).getD m 0])).map (Value.int .i64))) (L := fun v23 => [rowE 3 1 (.slice (some ⟨g22, 0, none⟩) 1 1) 1 ([(valT x.n x.ao x.oi).getD m 0].map (Value.int .i64)), rowE 3 1 v23 ((zs ++ ([(valT x.n x.ao x.oi).getD m 0])).length) ((zs ++ ([(valT x.n x.ao x.oi).getD m 0])).map (Value.int .i64)), bigE (es.map irPart), rowE 24 1 u es.length (es.flatMap irC), rowE 3 1 v5 ((valT x.n x.bs x.ni).length) ((valT x.n x.bs x.ni).map (Value.int .i64)), rowE 3 1 v2 ((valT x.n x.ao x.oi).length) ((valT x.n x.ao x.oi).map (Value.int .i64)), boxE b1 #[.int .i64 x.n.ins, x.n.sv, x.n.lv, x.n.ov, x.pv, x.qv, x.kv, x.av, x.bv, .int .i64 x.oi, .int .i64 x.ni] 40]) rfl rfl rfl rfl Try.underlying24 (by kernel_rfl) (by kernel_rfl) rfl rfl rfl (rd_row 0 rfl) (ints_one _) (by first | omega | (simp; omega)) (len_app zs ([(valT x.n x.ao x.oi).getD m 0])) (ints_app zs ([(valT x.n x.ao x.oi).getD m 0])) (fun _ => rfl) ?_
       intro v23
       refine hl_v rfl rfl rfl (rv_ev rfl) ?_
       refine hl_less (sx 0 rfl (sx 1 rfl (sx 2 rfl (sx 4 rfl (sx 5 rfl (sx 6 rfl (sx 7 rfl (sx 8 rfl (sx 9 rfl (sx 10 rfl (sx 11 rfl (sx 12 rfl (sx 13 rfl (sx 35 rfl (sx 41 rfl (sx 73 rfl (sx 79 rfl (sub_nil _)))))))))))))))))) (.refl _) ?_
       refine hl_nil ?_
       refine hq_block_normal ?_
       refine hq_then ?_
       refine hc_region ?_
       refine hl_v rfl rfl rfl (rv_ev rfl) ?_
       refine hl_v rfl rfl rfl (rv_add rfl rfl rfl (by constructor <;> omega)) ?_
       refine hl_v rfl rfl rfl (rv_ev rfl) ?_
       refine hl_less (sx 0 rfl (sx 1 rfl (sx 2 rfl (sx 4 rfl (sx 5 rfl (sx 6 rfl (sx 7 rfl (sx 8 rfl (sx 9 rfl (sx 10 rfl (sx 11 rfl (sx 12 rfl (sx 13 rfl (sx 35 rfl (sx 41 rfl (sx 73 rfl (sx 79 rfl (sub_nil _)))))))))))))))))) (.refl _) ?_
       refine hl_nil ?_
       have hv9 : (valT x.n x.ao x.oi).getD m 0 = wvV x (wvsL x a.toNat m) m (t : Int) := by unfold wvV; rw [if_pos (by omega), if_pos ⟨by omega, by omega⟩]
       exact hq_round3 (t + 1) v23 (zs ++ ([(valT x.n x.ao x.oi).getD m 0])) ⟨by omega, by rw [hv9, hz]; exact rowW_succ _ _ _ _⟩ (by omega) (sx 0 rfl (sx 1 rfl (sx 2 rfl (sx 4 rfl (sx 5 rfl (sx 6 rfl (sx 7 rfl (sx 8 rfl (sx 9 rfl (sx 10 rfl (sx 35 rfl (sub_nil _)))))))))))) ((.cons _ (.cons_cons _ (.cons_cons _ (.cons_cons _ (.cons_cons _ (.cons_cons _ (.cons_cons _ .slnil))))))))
     ·
      refine hl_v rfl rfl rfl (rv_ev rfl) ?_
      refine hl_less (sx 0 rfl (sx 1 rfl (sx 2 rfl (sx 4 rfl (sx 5 rfl (sx 6 rfl (sx 7 rfl (sx 8 rfl (sx 9 rfl (sx 10 rfl (sx 11 rfl (sx 12 rfl (sx 13 rfl (sx 35 rfl (sx 41 rfl (sx 73 rfl (sub_nil _))))))))))))))))) (.refl _) ?_
      refine hl_nil ?_
      refine hq_then ?_
      refine hc_false rfl ?_
      refine hc_skip ?_
      refine hq_then ?_
      refine hc_seq ?_
      refine hc_seq ?_
      refine hc_region ?_
      refine hl_v rfl rfl rfl (rv_ev rfl) ?_
      refine hl_geq rfl rfl rfl rfl rfl rfl (fun h24 => ?_) (fun h24 => ?_)
      ·
       refine hl_less (sx 0 rfl (sx 1 rfl (sx 2 rfl (sx 4 rfl (sx 5 rfl (sx 6 rfl (sx 7 rfl (sx 8 rfl (sx 9 rfl (sx 10 rfl (sx 11 rfl (sx 12 rfl (sx 13 rfl (sx 35 rfl (sx 41 rfl (sx 73 rfl (sx 79 rfl (sub_nil _)))))))))))))))))) (.refl _) ?_
       refine hl_nil ?_
       refine hq_then ?_
       refine hc_true rfl ?_
       refine hc_seq ?_
       refine hc_region ?_
       obtain ⟨i, hmi⟩ : ∃ i : Nat, (m : Int) - x.n.fst = (i : Int) := ⟨((m : Int) - x.n.fst).toNat, by omega⟩
       rw [hmi]
       have hil : i < x.n.ls.length := by omega
       have hlt9 := hok.n.lt i hil
       have hx4 := hlt9.1.1
       have hdi : (x.dl.getD i ir0).xs.length = (x.n.ls.getD i lt0).xs.length := by have := (hok.dl i hil).1; omega
       refine hl_v rfl rfl rfl (rv_ev rfl) ?_
       refine hl_less (sx 0 rfl (sx 1 rfl (sx 2 rfl (sx 4 rfl (sx 5 rfl (sx 6 rfl (sx 7 rfl (sx 8 rfl (sx 9 rfl (sx 10 rfl (sx 11 rfl (sx 12 rfl (sx 13 rfl (sx 14 rfl (sx 35 rfl (sx 41 rfl (sx 73 rfl (sx 79 rfl (sub_nil _))))))))))))))))))) (.refl _) ?_
       refine hl_nil ?_
       refine hq_then ?_
       refine hc_seq ?_
       refine hc_seq ?_
       refine hc_region ?_
       refine hl_v rfl rfl rfl (rv_ev rfl) ?_
       refine hl_less (sx 0 rfl (sx 1 rfl (sx 2 rfl (sx 4 rfl (sx 5 rfl (sx 6 rfl (sx 7 rfl (sx 8 rfl (sx 9 rfl (sx 10 rfl (sx 11 rfl (sx 12 rfl (sx 13 rfl (sx 14 rfl (sx 15 rfl (sx 35 rfl (sx 41 rfl (sx 73 rfl (sx 79 rfl (sub_nil _)))))))))))))))))))) (.refl _) ?_
       refine hl_nil ?_
       refine hq_then ?_
       refine hc_block ?_
       refine hc_loop2 (α := Nat) (β := Int) (fun j q => [rowE 3 1 u2 zs.length (zs.map (Value.int .i64)), bigE (es.map irPart), rowE 24 1 u es.length (es.flatMap irC), rowE 3 1 v5 ((valT x.n x.bs x.ni).length) ((valT x.n x.bs x.ni).map (Value.int .i64)), rowE 3 1 v2 ((valT x.n x.ao x.oi).length) ((valT x.n x.ao x.oi).map (Value.int .i64)), boxE b1 #[.int .i64 x.n.ins, x.n.sv, x.n.lv, x.n.ov, x.pv, x.qv, x.kv, x.av, x.bv, .int .i64 x.oi, .int .i64 x.ni] 40]) (fun j q => [(0, .agg #[.int .i64 x.n.ins, x.n.sv, x.n.lv, x.n.ov, x.pv, x.qv, x.kv, x.av, x.bv, .int .i64 x.oi, .int .i64 x.ni]), (1, .int .i64 a), (2, .pointer (some ⟨b1, 0, none⟩)), (4, .slice none 0 0), (5, v2), (6, v5), (7, u), (8, .int .i64 (m : Int)), (9, u2), (10, .int .i64 (t : Int)), (11, .int .i64 ((valT x.n x.bs x.ni).getD m 0)), (12, .int .i64 (((m : Int) - 1) - x.n.ins)), (13, .int .i64 (i : Int)), (14, .int .i64 q), (15, .int .i64 (j : Int)), (35, .bool true), (41, .bool true), (73, .bool false), (79, .bool true)]) (fun j q => j ≤ (x.n.ls.getD i lt0).xs.length ∧ q = pk (lin x (wvsL x a.toNat m) i (t : Int)) j) (fun j q => (x.n.ls.getD i lt0).xs.length - j) 0 0 ⟨Nat.zero_le _, rfl⟩ (sx 0 rfl (sx 1 rfl (sx 2 rfl (sx 4 rfl (sx 5 rfl (sx 6 rfl (sx 7 rfl (sx 8 rfl (sx 9 rfl (sx 10 rfl (sx 11 rfl (sx 12 rfl (sx 13 rfl (sx 14 rfl (sx 15 rfl (sx 35 rfl (sx 41 rfl (sx 73 rfl (sx 79 rfl (sub_nil _)))))))))))))))))))) ((.cons_cons _ (.cons_cons _ (.cons_cons _ (.cons_cons _ (.cons_cons _ (.cons_cons _ .slnil))))))) ?_
       intro j q hi25
       obtain ⟨hj, hq⟩ := hi25
       refine hc_seq ?_
       refine hc_seq ?_
       refine hc_region ?_
       refine hl_v rfl rfl rfl (rv_ev rfl) ?_
       refine hl_v rfl rfl rfl (rv_field (k0 := 0) rfl (by kernel_rfl) rfl) ?_
       refine hl_v rfl rfl rfl (rv_field (k0 := 2) rfl (by kernel_rfl) rfl) ?_
       refine hl_v rfl rfl rfl (rv_load rfl (by kernel_rfl) rfl (box_cell 5 rfl rfl)) ?_
       refine hl_v rfl rfl rfl (rv_ev rfl) ?_
       refine hl_v rfl rfl rfl (rv_index (s := 2) rfl Try.underlying35 (by kernel_rfl) rfl rfl (rd_old ((hr).n.lt.row)) (by omega) (by first | omega | (simp only [List.length_set]; omega))) ?_
       refine hl_v rfl rfl rfl (rv_fieldEl (k0 := 0) rfl (by kernel_rfl) rfl (rd_old ((hr).n.lt.row)) (by first | omega | (simp only [List.length_set]; omega))) ?_
       refine hl_v rfl rfl rfl (rv_loadEl (u := (x.n.ls.getD i lt0).iv) rfl (by kernel_rfl) rfl (rd_old ((hr).n.lt.row)) ((flat_at ltC 2 (fun _ => rfl) x.n.ls lt0 (show i < _ by first | omega | (simp only [List.length_set]; omega)) (by decide)).trans rfl)) ?_
       refine hl_v rfl rfl rfl (rv_len rfl Try.underlying24 rfl (rd_old ((hr).n.lt.at (d := lt0) (k := i) (by omega)))) ?_
       refine hl_lss rfl rfl rfl rfl rfl rfl (fun h26 => ?_) (fun h26 => ?_)
       ·
        refine hl_less (sx 0 rfl (sx 1 rfl (sx 2 rfl (sx 4 rfl (sx 5 rfl (sx 6 rfl (sx 7 rfl (sx 8 rfl (sx 9 rfl (sx 10 rfl (sx 11 rfl (sx 12 rfl (sx 13 rfl (sx 14 rfl (sx 15 rfl (sx 35 rfl (sx 41 rfl (sx 73 rfl (sx 79 rfl (sx 89 rfl (sub_nil _))))))))))))))))))))) (.refl _) ?_
        refine hl_nil ?_
        refine hq_then ?_
        refine hc_true rfl ?_
        refine hc_skip ?_
        refine hq_then ?_
        refine hc_seq ?_
        refine hc_block ?_
        refine hc_seq ?_
        refine hc_region ?_
        refine hl_v rfl rfl rfl (rv_field (k0 := 0) rfl (by kernel_rfl) rfl) ?_
        refine hl_v rfl rfl rfl (rv_field (k0 := 2) rfl (by kernel_rfl) rfl) ?_
        refine hl_v rfl rfl rfl (rv_load rfl (by kernel_rfl) rfl (box_cell 5 rfl rfl)) ?_
        refine hl_v rfl rfl rfl (rv_ev rfl) ?_
        refine hl_v rfl rfl rfl (rv_index (s := 2) rfl Try.underlying35 (by kernel_rfl) rfl rfl (rd_old ((hr).n.lt.row)) (by omega) (by first | omega | (simp only [List.length_set]; omega))) ?_
        refine hl_v rfl rfl rfl (rv_fieldEl (k0 := 0) rfl (by kernel_rfl) rfl (rd_old ((hr).n.lt.row)) (by first | omega | (simp only [List.length_set]; omega))) ?_
        refine hl_v rfl rfl rfl (rv_loadEl (u := (x.n.ls.getD i lt0).iv) rfl (by kernel_rfl) rfl (rd_old ((hr).n.lt.row)) ((flat_at ltC 2 (fun _ => rfl) x.n.ls lt0 (show i < _ by first | omega | (simp only [List.length_set]; omega)) (by decide)).trans rfl)) ?_
        refine hl_v rfl rfl rfl (rv_ev rfl) ?_
        refine hl_v rfl rfl rfl (rv_index (s := 1) rfl Try.underlying24 (by kernel_rfl) rfl rfl (rd_old ((hr).n.lt.at (d := lt0) (k := i) (by omega))) (by omega) (by first | omega | (simp only [List.length_set]; omega))) ?_
        refine hl_v rfl rfl rfl (rv_loadEl (u := .int .i64 (((x.n.ls.getD i lt0).xs).getD j 0)) rfl (by kernel_rfl) rfl (rd_old ((hr).n.lt.at (d := lt0) (k := i) (by omega))) (ints_at1 (show _ < ((x.n.ls.getD i lt0).xs).length by first | omega | (simp only [List.length_set]; omega)))) ?_
        refine hl_v rfl rfl rfl (rv_ev rfl) ?_
        refine hl_less (sx 0 rfl (sx 1 rfl (sx 2 rfl (sx 4 rfl (sx 5 rfl (sx 6 rfl (sx 7 rfl (sx 8 rfl (sx 9 rfl (sx 10 rfl (sx 11 rfl (sx 12 rfl (sx 13 rfl (sx 14 rfl (sx 15 rfl (sx 16 rfl (sx 35 rfl (sx 41 rfl (sx 73 rfl (sx 79 rfl (sx 89 rfl (sub_nil _)))))))))))))))))))))) (.refl _) ?_
        refine hl_nil ?_
        refine hq_then ?_
        have hns := hlt9.1.2 j (by omega)
        have hdj := (hok.dl i hil).2 j (by omega)
        have hbk : (lin x (wvsL x a.toNat m) i (t : Int)) j = 0 ∨ (lin x (wvsL x a.toNat m) i (t : Int)) j = 1 := lin01 hok (by omega) hmi (by omega) j (by omega)
        have hal : ∀ z, z < j → (lin x (wvsL x a.toNat m) i (t : Int)) z = 0 ∨ (lin x (wvsL x a.toNat m) i (t : Int)) z = 1 := fun z hz => lin01 hok (by omega) hmi (by omega) z (by omega)
        have hpr := pk16 (b := (lin x (wvsL x a.toNat m) i (t : Int))) (k := j) hal (by omega)
        have hpw := pow4 (k := j) (by omega)
        have hpw0 : (0 : Int) < 2 ^ j := Int.pow_pos (by decide)
        refine hc_draw (by kernel_rfl) 24 [0, 1, 2, 3, 4, 5, 6, 7, 8, 9, 10, 11, 12, 13, 14, 15, 16, 17, 18, 19, 20, 21, 22, 23] (List.take 24 _) (List.drop 24 _) [[], [], [], [1, 2], [3], [], [], [5, 6], [7], [], [], [10], [11], [], [12, 13], [14], [], [15, 16], [17], [9, 18], [4, 8, 19], [], [20, 21], [0, 22]] [102, 103, 104, 105, 106, 107, 108, 109, 110, 111, 112, 113, 114, 115, 116, 117, 118, 119, 120, 121, 122, 123, 124, 125] (fun i_ vs_ v_ p_ => match i_ with | 0 => v_ = .int .i64 q ∧ p_ = [] | 1 => v_ = u ∧ p_ = [] | 2 => v_ = .int .i64 (((x.n.ls.getD i lt0).xs).getD j 0) ∧ p_ = [] | 3 => v_ = elP u ((((x.n.ls.getD i lt0).xs).getD j 0).toNat * 1) ∧ p_ = [] | 4 => v_ = (es.getD ((((x.n.ls.getD i lt0).xs).getD j 0).toNat) ir0).v ∧ p_ = [] | 5 => v_ = v2 ∧ p_ = [] | 6 => v_ = .int .i64 (((x.n.ls.getD i lt0).xs).getD j 0) ∧ p_ = [] | 7 => v_ = elP v2 ((((x.n.ls.getD i lt0).xs).getD j 0).toNat * 1) ∧ p_ = [] | 8 => v_ = .int .i64 ((valT x.n x.ao x.oi).getD ((((x.n.ls.getD i lt0).xs).getD j 0).toNat) 0) ∧ p_ = [] | 9 => v_ = .int .i64 (t : Int) ∧ p_ = [] | 10 => v_ = .pointer (some ⟨b1, 0 + 4, none⟩) ∧ p_ = [] | 11 => v_ = .pointer (some ⟨b1, 0 + 4 + 0, none⟩) ∧ p_ = [] | 12 => v_ = x.pv ∧ p_ = [] | 13 => v_ = .int .i64 (i : Int) ∧ p_ = [] | 14 => v_ = elP x.pv (((i : Int)).toNat * 1) ∧ p_ = [] | 15 => v_ = (x.dl.getD i ir0).v ∧ p_ = [] | 16 => v_ = .int .i64 (j : Int) ∧ p_ = [] | 17 => v_ = elP ((x.dl.getD i ir0).v) (((j : Int)).toNat * 1) ∧ p_ = [] | 18 => v_ = .int .i64 (((x.dl.getD i ir0).xs).getD j 0) ∧ p_ = [] | 19 => v_ = .int .i64 ((t : Int) - (((x.dl.getD i ir0).xs).getD j 0)) ∧ p_ = [] | 20 => v_ = .int .i64 ((lin x (wvsL x a.toNat m) i (t : Int)) j) ∧ p_ = [] | 21 => v_ = .int .i64 (j : Int) ∧ p_ = [] | 22 => v_ = .int .i64 ((lin x (wvsL x a.toNat m) i (t : Int)) j * 2 ^ j) ∧ p_ = [] | 23 => v_ = .int .i64 (q + ((lin x (wvsL x a.toNat m) i (t : Int)) j * 2 ^ j)) ∧ p_ = [] | _ => True) (List.take_append_drop 24 _).symm (by kernel_rfl) (by kernel_rfl) rfl rfl ?_ ?_
        ·
         refine ⟨?_, ?_, ?_, ?_, ?_, ?_, ?_, ?_, ?_, ?_, ?_, ?_, ?_, ?_, ?_, ?_, ?_, ?_, ?_, ?_, ?_, ?_, ?_, ?_, trivial⟩
         ·
          intro vf pf hR
          refine Or.inl ⟨rfl, ?_⟩
          refine rq_less (sx 14 rfl (sub_nil _)) (List.sublist_append_right _ _) ?_
          exact rq_v (rv_ev rfl)
         ·
          intro vf pf hR
          refine Or.inl ⟨rfl, ?_⟩
          refine rq_less (sx 7 rfl (sub_nil _)) (List.sublist_append_right _ _) ?_
          exact rq_v (rv_ev rfl)
         ·
          intro vf pf hR
          refine Or.inl ⟨rfl, ?_⟩
          refine rq_less (sx 16 rfl (sub_nil _)) (List.sublist_append_right _ _) ?_
          exact rq_v (rv_ev rfl)
         ·
          intro vf pf hR
          have e1 : (vf 1) = u ∧ (pf 1) = [] := hR 1 (by decide)
          have e2 : (vf 2) = .int .i64 (((x.n.ls.getD i lt0).xs).getD j 0) ∧ (pf 2) = [] := hR 2 (by decide)
          refine Or.inl ⟨rfl, ?_⟩
          refine rq_less (sx 103 (congrArg some e1.1) (sx 104 (congrArg some e2.1) (sub_nil _))) (List.sublist_append_right _ _) ?_
          exact rq_v (rv_index (s := 1) rfl Try.underlying27 (by kernel_rfl) rfl rfl (rd_row 2 rfl) (by omega) (by first | omega | (simp only [List.length_set]; omega)))
         ·
          intro vf pf hR
          have e3 : (vf 3) = elP u ((((x.n.ls.getD i lt0).xs).getD j 0).toNat * 1) ∧ (pf 3) = [] := hR 3 (by decide)
          refine Or.inl ⟨rfl, ?_⟩
          refine rq_less (sx 105 (congrArg some e3.1) (sub_nil _)) (List.sublist_append_right _ _) ?_
          exact rq_v (rv_loadEl (u := (es.getD ((((x.n.ls.getD i lt0).xs).getD j 0).toNat) ir0).v) rfl (by kernel_rfl) rfl (rd_row 2 rfl) (flat_one irC (fun r => r.v) (fun _ => rfl) es ir0 (show (((x.n.ls.getD i lt0).xs).getD j 0).toNat < _ by first | omega | (simp only [List.length_set]; omega))))
         ·
          intro vf pf hR
          refine Or.inl ⟨rfl, ?_⟩
          refine rq_less (sx 5 rfl (sub_nil _)) (List.sublist_append_right _ _) ?_
          exact rq_v (rv_ev rfl)
         ·
          intro vf pf hR
          refine Or.inl ⟨rfl, ?_⟩
          refine rq_less (sx 16 rfl (sub_nil _)) (List.sublist_append_right _ _) ?_
          exact rq_v (rv_ev rfl)
         ·
          intro vf pf hR
          have e5 : (vf 5) = v2 ∧ (pf 5) = [] := hR 5 (by decide)
          have e6 : (vf 6) = .int .i64 (((x.n.ls.getD i lt0).xs).getD j 0) ∧ (pf 6) = [] := hR 6 (by decide)
          refine Or.inl ⟨rfl, ?_⟩
          refine rq_less (sx 107 (congrArg some e5.1) (sx 108 (congrArg some e6.1) (sub_nil _))) (List.sublist_append_right _ _) ?_
          exact rq_v (rv_index (s := 1) rfl Try.underlying24 (by kernel_rfl) rfl rfl (rd_row 4 rfl) (by omega) (by first | omega | (simp only [List.length_set]; omega)))
         ·
          intro vf pf hR
          have e7 : (vf 7) = elP v2 ((((x.n.ls.getD i lt0).xs).getD j 0).toNat * 1) ∧ (pf 7) = [] := hR 7 (by decide)
          refine Or.inl ⟨rfl, ?_⟩
          refine rq_less (sx 109 (congrArg some e7.1) (sub_nil _)) (List.sublist_append_right _ _) ?_
          exact rq_v (rv_loadEl (u := .int .i64 ((valT x.n x.ao x.oi).getD ((((x.n.ls.getD i lt0).xs).getD j 0).toNat) 0)) rfl (by kernel_rfl) rfl (rd_row 4 rfl) (ints_at1 (show _ < (valT x.n x.ao x.oi).length by first | omega | (simp only [List.length_set]; omega))))
         ·
          intro vf pf hR
          refine Or.inl ⟨rfl, ?_⟩
          refine rq_less (sx 10 rfl (sub_nil _)) (List.sublist_append_right _ _) ?_
          exact rq_v (rv_ev rfl)
         ·
          intro vf pf hR
          refine Or.inl ⟨rfl, ?_⟩
          refine rq_less (sx 2 rfl (sub_nil _)) (List.sublist_append_right _ _) ?_
          exact rq_v (rv_field (k0 := 4) rfl (by kernel_rfl) rfl)
         ·
          intro vf pf hR
          have e10 : (vf 10) = .pointer (some ⟨b1, 0 + 4, none⟩) ∧ (pf 10) = [] := hR 10 (by decide)
          refine Or.inl ⟨rfl, ?_⟩
          refine rq_less (sx 112 (congrArg some e10.1) (sub_nil _)) (List.sublist_append_right _ _) ?_
          exact rq_v (rv_field (k0 := 0) rfl (by kernel_rfl) rfl)
         ·
          intro vf pf hR
          have e11 : (vf 11) = .pointer (some ⟨b1, 0 + 4 + 0, none⟩) ∧ (pf 11) = [] := hR 11 (by decide)
          refine Or.inl ⟨rfl, ?_⟩
          refine rq_less (sx 113 (congrArg some e11.1) (sub_nil _)) (List.sublist_append_right _ _) ?_
          exact rq_v (rv_load rfl (by kernel_rfl) rfl (box_cell 5 rfl rfl))
         ·
          intro vf pf hR
          refine Or.inl ⟨rfl, ?_⟩
          refine rq_less (sx 13 rfl (sub_nil _)) (List.sublist_append_right _ _) ?_
          exact rq_v (rv_ev rfl)
         ·
          intro vf pf hR
          have e12 : (vf 12) = x.pv ∧ (pf 12) = [] := hR 12 (by decide)
          have e13 : (vf 13) = .int .i64 (i : Int) ∧ (pf 13) = [] := hR 13 (by decide)
          refine Or.inl ⟨rfl, ?_⟩
          refine rq_less (sx 114 (congrArg some e12.1) (sx 115 (congrArg some e13.1) (sub_nil _))) (List.sublist_append_right _ _) ?_
          exact rq_v (rv_index (s := 1) rfl Try.underlying27 (by kernel_rfl) rfl rfl (rd_old ((hr).dl.row)) (by omega) (by first | omega | (simp only [List.length_set]; omega)))
         ·
          intro vf pf hR
          have e14 : (vf 14) = elP x.pv (((i : Int)).toNat * 1) ∧ (pf 14) = [] := hR 14 (by decide)
          refine Or.inl ⟨rfl, ?_⟩
          refine rq_less (sx 116 (congrArg some e14.1) (sub_nil _)) (List.sublist_append_right _ _) ?_
          exact rq_v (rv_loadEl (u := (x.dl.getD i ir0).v) rfl (by kernel_rfl) rfl (rd_old ((hr).dl.row)) (flat_one irC (fun r => r.v) (fun _ => rfl) x.dl ir0 (show i < _ by first | omega | (simp only [List.length_set]; omega))))
         ·
          intro vf pf hR
          refine Or.inl ⟨rfl, ?_⟩
          refine rq_less (sx 15 rfl (sub_nil _)) (List.sublist_append_right _ _) ?_
          exact rq_v (rv_ev rfl)
         ·
          intro vf pf hR
          have e15 : (vf 15) = (x.dl.getD i ir0).v ∧ (pf 15) = [] := hR 15 (by decide)
          have e16 : (vf 16) = .int .i64 (j : Int) ∧ (pf 16) = [] := hR 16 (by decide)
          refine Or.inl ⟨rfl, ?_⟩
          refine rq_less (sx 117 (congrArg some e15.1) (sx 118 (congrArg some e16.1) (sub_nil _))) (List.sublist_append_right _ _) ?_
          exact rq_v (rv_index (s := 1) rfl Try.underlying24 (by kernel_rfl) rfl rfl (rd_old ((hr).dl.at (d := ir0) (k := i) (by omega))) (by omega) (by first | omega | (simp only [List.length_set]; omega)))
         ·
          intro vf pf hR
          have e17 : (vf 17) = elP ((x.dl.getD i ir0).v) (((j : Int)).toNat * 1) ∧ (pf 17) = [] := hR 17 (by decide)
          refine Or.inl ⟨rfl, ?_⟩
          refine rq_less (sx 119 (congrArg some e17.1) (sub_nil _)) (List.sublist_append_right _ _) ?_
          exact rq_v (rv_loadEl (u := .int .i64 (((x.dl.getD i ir0).xs).getD j 0)) rfl (by kernel_rfl) rfl (rd_old ((hr).dl.at (d := ir0) (k := i) (by omega))) (ints_at1 (show _ < ((x.dl.getD i ir0).xs).length by first | omega | (simp only [List.length_set]; omega))))
         ·
          intro vf pf hR
          have e9 : (vf 9) = .int .i64 (t : Int) ∧ (pf 9) = [] := hR 9 (by decide)
          have e18 : (vf 18) = .int .i64 (((x.dl.getD i ir0).xs).getD j 0) ∧ (pf 18) = [] := hR 18 (by decide)
          refine Or.inl ⟨rfl, ?_⟩
          refine rq_less (sx 111 (congrArg some e9.1) (sx 120 (congrArg some e18.1) (sub_nil _))) (List.sublist_append_right _ _) ?_
          exact rq_v (rv_sub rfl rfl rfl (by constructor <;> omega))
         ·
          intro vf pf hR
          have e4 : (vf 4) = (es.getD ((((x.n.ls.getD i lt0).xs).getD j 0).toNat) ir0).v ∧ (pf 4) = [] := hR 4 (by decide)
          have e8 : (vf 8) = .int .i64 ((valT x.n x.ao x.oi).getD ((((x.n.ls.getD i lt0).xs).getD j 0).toNat) 0) ∧ (pf 8) = [] := hR 8 (by decide)
          have e19 : (vf 19) = .int .i64 ((t : Int) - (((x.dl.getD i ir0).xs).getD j 0)) ∧ (pf 19) = [] := hR 19 (by decide)
          refine Or.inl ⟨rfl, ?_⟩
          refine rq_less (sx 106 (congrArg some e4.1) (sx 110 (congrArg some e8.1) (sx 121 (congrArg some e19.1) (sub_nil _)))) (List.sublist_append_right _ _) ?_
          exact (rq_call (by kernel_rfl) rfl (fun w hm => ret_ans (l37At_lin w (rdsIr_sep hm 1 2 rfl rfl) hw rfl rfl rfl (by omega) (by omega))))
         ·
          intro vf pf hR
          refine Or.inl ⟨rfl, ?_⟩
          refine rq_less (sx 15 rfl (sub_nil _)) (List.sublist_append_right _ _) ?_
          exact rq_v (rv_ev rfl)
         ·
          intro vf pf hR
          have e20 : (vf 20) = .int .i64 ((lin x (wvsL x a.toNat m) i (t : Int)) j) ∧ (pf 20) = [] := hR 20 (by decide)
          have e21 : (vf 21) = .int .i64 (j : Int) ∧ (pf 21) = [] := hR 21 (by decide)
          refine Or.inl ⟨rfl, ?_⟩
          refine rq_less (sx 122 (congrArg some e20.1) (sx 123 (congrArg some e21.1) (sub_nil _))) (List.sublist_append_right _ _) ?_
          exact rq_v (rv_shlG (k := .i64) (kk := .i64) (r := (lin x (wvsL x a.toNat m) i (t : Int)) j * 2 ^ j) rfl rfl rfl rfl (by omega) (shl_pk hbk (by omega)))
         ·
          intro vf pf hR
          have e0 : (vf 0) = .int .i64 q ∧ (pf 0) = [] := hR 0 (by decide)
          have e22 : (vf 22) = .int .i64 ((lin x (wvsL x a.toNat m) i (t : Int)) j * 2 ^ j) ∧ (pf 22) = [] := hR 22 (by decide)
          refine Or.inl ⟨rfl, ?_⟩
          refine rq_less (sx 102 (congrArg some e0.1) (sx 124 (congrArg some e22.1) (sub_nil _))) (List.sublist_append_right _ _) ?_
          exact rq_v (rv_add rfl rfl rfl (by rw [hq]; constructor <;> (rcases hbk with e | e <;> rw [e] <;> omega)))
        ·
         intro vf pf hR
         have e23 : (vf 23) = .int .i64 (q + ((lin x (wvsL x a.toNat m) i (t : Int)) j * 2 ^ j)) ∧ (pf 23) = [] := hR 23 (by decide)
         refine hl_less (l' := [rowE 3 1 u2 zs.length (zs.map (Value.int .i64)), bigE (es.map irPart), rowE 24 1 u es.length (es.flatMap irC), rowE 3 1 v5 ((valT x.n x.bs x.ni).length) ((valT x.n x.bs x.ni).map (Value.int .i64)), rowE 3 1 v2 ((valT x.n x.ao x.oi).length) ((valT x.n x.ao x.oi).map (Value.int .i64)), boxE b1 #[.int .i64 x.n.ins, x.n.sv, x.n.lv, x.n.ov, x.pv, x.qv, x.kv, x.av, x.bv, .int .i64 x.oi, .int .i64 x.ni] 40]) (sx 0 rfl (sx 1 rfl (sx 2 rfl (sx 4 rfl (sx 5 rfl (sx 6 rfl (sx 7 rfl (sx 8 rfl (sx 9 rfl (sx 10 rfl (sx 11 rfl (sx 12 rfl (sx 13 rfl (sx 14 rfl (sx 15 rfl (sx 16 rfl (sx 35 rfl (sx 41 rfl (sx 73 rfl (sx 79 rfl (sx 89 rfl (sx 125 (congrArg some e23.1) (sub_nil _))))))))))))))))))))))) (List.sublist_append_right _ _) ?_
         simp only [List.drop_succ_cons, List.drop_zero]
         refine hl_v rfl rfl rfl (rv_ev rfl) ?_
         refine hl_less (sx 0 rfl (sx 1 rfl (sx 2 rfl (sx 4 rfl (sx 5 rfl (sx 6 rfl (sx 7 rfl (sx 8 rfl (sx 9 rfl (sx 10 rfl (sx 11 rfl (sx 12 rfl (sx 13 rfl (sx 14 rfl (sx 15 rfl (sx 16 rfl (sx 35 rfl (sx 41 rfl (sx 73 rfl (sx 79 rfl (sx 89 rfl (sub_nil _)))))))))))))))))))))) (.refl _) ?_
         refine hl_nil ?_
         refine hq_block_normal ?_
         refine hq_then ?_
         refine hc_region ?_
         refine hl_v rfl rfl rfl (rv_ev rfl) ?_
         refine hl_v rfl rfl rfl (rv_add rfl rfl rfl (by constructor <;> omega)) ?_
         refine hl_v rfl rfl rfl (rv_ev rfl) ?_
         refine hl_less (sx 0 rfl (sx 1 rfl (sx 2 rfl (sx 4 rfl (sx 5 rfl (sx 6 rfl (sx 7 rfl (sx 8 rfl (sx 9 rfl (sx 10 rfl (sx 11 rfl (sx 12 rfl (sx 13 rfl (sx 14 rfl (sx 15 rfl (sx 16 rfl (sx 35 rfl (sx 41 rfl (sx 73 rfl (sx 79 rfl (sx 89 rfl (sub_nil _)))))))))))))))))))))) (.refl _) ?_
         refine hl_nil ?_
         exact hq_round2 (j + 1) _ ⟨by omega, by first | rfl | (rw [hq]; rfl)⟩ (by omega) (sx 0 rfl (sx 1 rfl (sx 2 rfl (sx 4 rfl (sx 5 rfl (sx 6 rfl (sx 7 rfl (sx 8 rfl (sx 9 rfl (sx 10 rfl (sx 11 rfl (sx 12 rfl (sx 13 rfl (sx 14 rfl (sx 15 rfl (sx 35 rfl (sx 41 rfl (sx 73 rfl (sx 79 rfl (sub_nil _)))))))))))))))))))) ((.cons_cons _ (.cons_cons _ (.cons_cons _ (.cons_cons _ (.cons_cons _ (.cons_cons _ .slnil)))))))
       ·
        refine hl_less (sx 0 rfl (sx 1 rfl (sx 2 rfl (sx 4 rfl (sx 5 rfl (sx 6 rfl (sx 7 rfl (sx 8 rfl (sx 9 rfl (sx 10 rfl (sx 11 rfl (sx 12 rfl (sx 13 rfl (sx 14 rfl (sx 15 rfl (sx 35 rfl (sx 41 rfl (sx 73 rfl (sx 79 rfl (sx 89 rfl (sub_nil _))))))))))))))))))))) (.refl _) ?_
        refine hl_nil ?_
        refine hq_then ?_
        refine hc_false rfl ?_
        refine hc_exit ?_
        refine hq_then_exit ?_
        refine hq_then_exit ?_
        refine hq_block_exit ?_
        refine hq_then ?_
        refine hc_region ?_
        have hal : ∀ z, z < j → (lin x (wvsL x a.toNat m) i (t : Int)) z = 0 ∨ (lin x (wvsL x a.toNat m) i (t : Int)) z = 1 := fun z hz => lin01 hok (by omega) hmi (by omega) z (by omega)
        have hpr := pk16 (b := (lin x (wvsL x a.toNat m) i (t : Int))) (k := j) hal (by omega)
        refine hl_v rfl rfl rfl (rv_field (k0 := 0) rfl (by kernel_rfl) rfl) ?_
        refine hl_v rfl rfl rfl (rv_field (k0 := 2) rfl (by kernel_rfl) rfl) ?_
        refine hl_v rfl rfl rfl (rv_load rfl (by kernel_rfl) rfl (box_cell 5 rfl rfl)) ?_
        refine hl_v rfl rfl rfl (rv_ev rfl) ?_
        refine hl_v rfl rfl rfl (rv_index (s := 2) rfl Try.underlying35 (by kernel_rfl) rfl rfl (rd_old ((hr).n.lt.row)) (by omega) (by first | omega | (simp only [List.length_set]; omega))) ?_
        refine hl_v rfl rfl rfl (rv_fieldEl (k0 := 1) rfl (by kernel_rfl) rfl (rd_old ((hr).n.lt.row)) (by first | omega | (simp only [List.length_set]; omega))) ?_
        refine hl_v rfl rfl rfl (rv_loadEl (u := .int .i64 ((x.n.ls.getD i lt0).ma)) rfl (by kernel_rfl) rfl (rd_old ((hr).n.lt.row)) ((flat_at ltC 2 (fun _ => rfl) x.n.ls lt0 (show i < _ by first | omega | (simp only [List.length_set]; omega)) (by decide)).trans rfl)) ?_
        refine hl_v rfl rfl rfl (rv_ev rfl) ?_
        refine hl_v rfl rfl rfl (rv_shr rfl rfl rfl (by omega)) ?_
        refine hl_v rfl rfl rfl (rv_bits rfl (by decide) rfl rfl (r := (((x.n.ls.getD i lt0).ma) / 2 ^ (q : Int).toNat) % 2) (andOne _)) ?_
        refine hl_v rfl rfl rfl (rv_ev rfl) ?_
        refine hl_less (sx 0 rfl (sx 1 rfl (sx 2 rfl (sx 4 rfl (sx 5 rfl (sx 6 rfl (sx 7 rfl (sx 8 rfl (sx 9 rfl (sx 10 rfl (sx 11 rfl (sx 12 rfl (sx 13 rfl (sx 14 rfl (sx 15 rfl (sx 35 rfl (sx 41 rfl (sx 73 rfl (sx 79 rfl (sx 89 rfl (sub_nil _))))))))))))))))))))) (.refl _) ?_
        refine hl_nil ?_
        refine hq_then ?_
        refine hc_region ?_
        refine hl_v rfl rfl rfl (rv_ev rfl) ?_
        refine hl_v rfl rfl rfl (rv_ev rfl) ?_
        refine hl_row rfl rfl rfl (rq_buildSlice (z := .int .i64 0) (s := 1) (cs := ([(((x.n.ls.getD i lt0).ma) / 2 ^ (q : Int).toNat) % 2].map (Value.int .i64))) rfl Try.underlying24 (by kernel_rfl) (by decide) rfl (by kernel_rfl) rfl) ?_
        intro g27
        refine hl_append (i := 1) (z := .int .i64 0) (bytes := 8) (n' := (zs ++ ([(((x.n.ls.getD i lt0).ma) / 2 ^ (q : Int).toNat) % 2])).length) (xs' := ((zs ++ ([(((x.n.ls.getD i lt0).ma) / 2 ^ (q : Int).toNat) % 2])).map (Value.int .i64))) (L := fun v28 => [rowE 3 1 (.slice (some ⟨g27, 0, none⟩) 1 1) 1 ([(((x.n.ls.getD i lt0).ma) / 2 ^ (q : Int).toNat) % 2].map (Value.int .i64)), rowE 3 1 v28 ((zs ++ ([(((x.n.ls.getD i lt0).ma) / 2 ^ (q : Int).toNat) % 2])).length) ((zs ++ ([(((x.n.ls.getD i lt0).ma) / 2 ^ (q : Int).toNat) % 2])).map (Value.int .i64)), bigE (es.map irPart), rowE 24 1 u es.length (es.flatMap irC), rowE 3 1 v5 ((valT x.n x.bs x.ni).length) ((valT x.n x.bs x.ni).map (Value.int .i64)), rowE 3 1 v2 ((valT x.n x.ao x.oi).length) ((valT x.n x.ao x.oi).map (Value.int .i64)), boxE b1 #[.int .i64 x.n.ins, x.n.sv, x.n.lv, x.n.ov, x.pv, x.qv, x.kv, x.av, x.bv, .int .i64 x.oi, .int .i64 x.ni] 40]) rfl rfl rfl rfl Try.underlying24 (by kernel_rfl) (by kernel_rfl) rfl rfl rfl (rd_row 0 rfl) (ints_one _) (by first | omega | (simp; omega)) (len_app zs ([(((x.n.ls.getD i lt0).ma) / 2 ^ (q : Int).toNat) % 2])) (ints_app zs ([(((x.n.ls.getD i lt0).ma) / 2 ^ (q : Int).toNat) % 2])) (fun _ => rfl) ?_
        intro v28
        refine hl_v rfl rfl rfl (rv_ev rfl) ?_
        refine hl_less (sx 0 rfl (sx 1 rfl (sx 2 rfl (sx 4 rfl (sx 5 rfl (sx 6 rfl (sx 7 rfl (sx 8 rfl (sx 9 rfl (sx 10 rfl (sx 11 rfl (sx 12 rfl (sx 13 rfl (sx 14 rfl (sx 15 rfl (sx 35 rfl (sx 41 rfl (sx 73 rfl (sx 79 rfl (sx 89 rfl (sub_nil _))))))))))))))))))))) (.refl _) ?_
        refine hl_nil ?_
        refine hq_block_normal ?_
        refine hq_then ?_
        refine hc_region ?_
        refine hl_v rfl rfl rfl (rv_ev rfl) ?_
        refine hl_v rfl rfl rfl (rv_add rfl rfl rfl (by constructor <;> omega)) ?_
        refine hl_v rfl rfl rfl (rv_ev rfl) ?_
        refine hl_less (sx 0 rfl (sx 1 rfl (sx 2 rfl (sx 4 rfl (sx 5 rfl (sx 6 rfl (sx 7 rfl (sx 8 rfl (sx 9 rfl (sx 10 rfl (sx 11 rfl (sx 12 rfl (sx 13 rfl (sx 14 rfl (sx 15 rfl (sx 35 rfl (sx 41 rfl (sx 73 rfl (sx 79 rfl (sx 89 rfl (sub_nil _))))))))))))))))))))) (.refl _) ?_
        refine hl_nil ?_
        have hv9 : (((x.n.ls.getD i lt0).ma) / 2 ^ (q : Int).toNat) % 2 = wvV x (wvsL x a.toNat m) m (t : Int) := by rw [wv_lut x _ _ hmi]; unfold lutV; rw [hq, show j = (x.n.ls.getD i lt0).xs.length by omega]
        exact hq_round3 (t + 1) v28 (zs ++ ([(((x.n.ls.getD i lt0).ma) / 2 ^ (q : Int).toNat) % 2])) ⟨by omega, by rw [hv9, hz]; exact rowW_succ _ _ _ _⟩ (by omega) (sx 0 rfl (sx 1 rfl (sx 2 rfl (sx 4 rfl (sx 5 rfl (sx 6 rfl (sx 7 rfl (sx 8 rfl (sx 9 rfl (sx 10 rfl (sx 35 rfl (sub_nil _)))))))))))) ((.cons _ (.cons_cons _ (.cons_cons _ (.cons_cons _ (.cons_cons _ (.cons_cons _ (.cons_cons _ .slnil))))))))
      ·
       refine hl_less (sx 0 rfl (sx 1 rfl (sx 2 rfl (sx 4 rfl (sx 5 rfl (sx 6 rfl (sx 7 rfl (sx 8 rfl (sx 9 rfl (sx 10 rfl (sx 11 rfl (sx 12 rfl (sx 13 rfl (sx 35 rfl (sx 41 rfl (sx 73 rfl (sx 79 rfl (sub_nil _)))))))))))))))))) (.refl _) ?_
       refine hl_nil ?_
       refine hq_then ?_
       refine hc_false rfl ?_
       refine hc_skip ?_
       refine hq_then ?_
       refine hc_region ?_
       refine hl_v rfl rfl rfl (rv_ev rfl) ?_
       refine hl_v rfl rfl rfl (rv_ev rfl) ?_
       refine hl_row rfl rfl rfl (rq_buildSlice (z := .int .i64 0) (s := 1) (cs := ([(valT x.n x.bs x.ni).getD m 0].map (Value.int .i64))) rfl Try.underlying24 (by kernel_rfl) (by decide) rfl (by kernel_rfl) rfl) ?_
       intro g29
       refine hl_append (i := 1) (z := .int .i64 0) (bytes := 8) (n' := (zs ++ ([(valT x.n x.bs x.ni).getD m 0])).length) (xs' := ((zs ++ ([(valT x.n x.bs x.ni).getD m 0])).map (Value.int .i64))) (L := fun v30 => [rowE 3 1 (.slice (some ⟨g29, 0, none⟩) 1 1) 1 ([(valT x.n x.bs x.ni).getD m 0].map (Value.int .i64)), rowE 3 1 v30 ((zs ++ ([(valT x.n x.bs x.ni).getD m 0])).length) ((zs ++ ([(valT x.n x.bs x.ni).getD m 0])).map (Value.int .i64)), bigE (es.map irPart), rowE 24 1 u es.length (es.flatMap irC), rowE 3 1 v5 ((valT x.n x.bs x.ni).length) ((valT x.n x.bs x.ni).map (Value.int .i64)), rowE 3 1 v2 ((valT x.n x.ao x.oi).length) ((valT x.n x.ao x.oi).map (Value.int .i64)), boxE b1 #[.int .i64 x.n.ins, x.n.sv, x.n.lv, x.n.ov, x.pv, x.qv, x.kv, x.av, x.bv, .int .i64 x.oi, .int .i64 x.ni] 40]) rfl rfl rfl rfl Try.underlying24 (by kernel_rfl) (by kernel_rfl) rfl rfl rfl (rd_row 0 rfl) (ints_one _) (by first | omega | (simp; omega)) (len_app zs ([(valT x.n x.bs x.ni).getD m 0])) (ints_app zs ([(valT x.n x.bs x.ni).getD m 0])) (fun _ => rfl) ?_
       intro v30
       refine hl_v rfl rfl rfl (rv_ev rfl) ?_
       refine hl_less (sx 0 rfl (sx 1 rfl (sx 2 rfl (sx 4 rfl (sx 5 rfl (sx 6 rfl (sx 7 rfl (sx 8 rfl (sx 9 rfl (sx 10 rfl (sx 11 rfl (sx 12 rfl (sx 13 rfl (sx 35 rfl (sx 41 rfl (sx 73 rfl (sx 79 rfl (sub_nil _)))))))))))))))))) (.refl _) ?_
       refine hl_nil ?_
       refine hq_block_normal ?_
       refine hq_then ?_
       refine hc_region ?_
       refine hl_v rfl rfl rfl (rv_ev rfl) ?_
       refine hl_v rfl rfl rfl (rv_add rfl rfl rfl (by constructor <;> omega)) ?_
       refine hl_v rfl rfl rfl (rv_ev rfl) ?_
       refine hl_less (sx 0 rfl (sx 1 rfl (sx 2 rfl (sx 4 rfl (sx 5 rfl (sx 6 rfl (sx 7 rfl (sx 8 rfl (sx 9 rfl (sx 10 rfl (sx 11 rfl (sx 12 rfl (sx 13 rfl (sx 35 rfl (sx 41 rfl (sx 73 rfl (sx 79 rfl (sub_nil _)))))))))))))))))) (.refl _) ?_
       refine hl_nil ?_
       have hv9 : (valT x.n x.bs x.ni).getD m 0 = wvV x (wvsL x a.toNat m) m (t : Int) := by unfold wvV; rw [if_pos (by omega), if_neg (by omega)]
       exact hq_round3 (t + 1) v30 (zs ++ ([(valT x.n x.bs x.ni).getD m 0])) ⟨by omega, by rw [hv9, hz]; exact rowW_succ _ _ _ _⟩ (by omega) (sx 0 rfl (sx 1 rfl (sx 2 rfl (sx 4 rfl (sx 5 rfl (sx 6 rfl (sx 7 rfl (sx 8 rfl (sx 9 rfl (sx 10 rfl (sx 35 rfl (sub_nil _)))))))))))) ((.cons _ (.cons_cons _ (.cons_cons _ (.cons_cons _ (.cons_cons _ (.cons_cons _ (.cons_cons _ .slnil))))))))
    ·
     refine hl_v rfl rfl rfl (rv_ev rfl) ?_
     refine hl_v rfl rfl rfl (rv_ev rfl) ?_
     refine hl_skip rfl rfl rfl ?_
     refine hl_skip rfl rfl rfl ?_
     refine hl_skip rfl rfl rfl ?_
     refine hl_skip rfl rfl rfl ?_
     refine hl_skip rfl rfl rfl ?_
     refine hl_skip rfl rfl rfl ?_
     refine hl_skip rfl rfl rfl ?_
     refine hl_v rfl rfl rfl (rv_ev rfl) ?_
     refine hl_less (sx 0 rfl (sx 1 rfl (sx 2 rfl (sx 4 rfl (sx 5 rfl (sx 6 rfl (sx 7 rfl (sx 8 rfl (sx 9 rfl (sx 10 rfl (sx 11 rfl (sx 12 rfl (sx 13 rfl (sx 35 rfl (sx 41 rfl (sx 73 rfl (sub_nil _))))))))))))))))) (.refl _) ?_
     refine hl_nil ?_
     refine hq_then ?_
     refine hc_false rfl ?_
     refine hc_skip ?_
     refine hq_then ?_
     refine hc_seq ?_
     refine hc_seq ?_
     refine hc_region ?_
     refine hl_v rfl rfl rfl (rv_ev rfl) ?_
     refine hl_geq rfl rfl rfl rfl rfl rfl (fun h31 => ?_) (fun h31 => ?_)
     ·
      refine hl_less (sx 0 rfl (sx 1 rfl (sx 2 rfl (sx 4 rfl (sx 5 rfl (sx 6 rfl (sx 7 rfl (sx 8 rfl (sx 9 rfl (sx 10 rfl (sx 11 rfl (sx 12 rfl (sx 13 rfl (sx 35 rfl (sx 41 rfl (sx 73 rfl (sx 79 rfl (sub_nil _)))))))))))))))))) (.refl _) ?_
      refine hl_nil ?_
      refine hq_then ?_
      refine hc_true rfl ?_
      refine hc_seq ?_
      refine hc_region ?_
      obtain ⟨i, hmi⟩ : ∃ i : Nat, (m : Int) - x.n.fst = (i : Int) := ⟨((m : Int) - x.n.fst).toNat, by omega⟩
      rw [hmi]
      have hil : i < x.n.ls.length := by omega
      have hlt9 := hok.n.lt i hil
      have hx4 := hlt9.1.1
      have hdi : (x.dl.getD i ir0).xs.length = (x.n.ls.getD i lt0).xs.length := by have := (hok.dl i hil).1; omega
      refine hl_v rfl rfl rfl (rv_ev rfl) ?_
      refine hl_less (sx 0 rfl (sx 1 rfl (sx 2 rfl (sx 4 rfl (sx 5 rfl (sx 6 rfl (sx 7 rfl (sx 8 rfl (sx 9 rfl (sx 10 rfl (sx 11 rfl (sx 12 rfl (sx 13 rfl (sx 14 rfl (sx 35 rfl (sx 41 rfl (sx 73 rfl (sx 79 rfl (sub_nil _))))))))))))))))))) (.refl _) ?_
      refine hl_nil ?_
      refine hq_then ?_
      refine hc_seq ?_
      refine hc_seq ?_
      refine hc_region ?_
      refine hl_v rfl rfl rfl (rv_ev rfl) ?_
      refine hl_less (sx 0 rfl (sx 1 rfl (sx 2 rfl (sx 4 rfl (sx 5 rfl (sx 6 rfl (sx 7 rfl (sx 8 rfl (sx 9 rfl (sx 10 rfl (sx 11 rfl (sx 12 rfl (sx 13 rfl (sx 14 rfl (sx 15 rfl (sx 35 rfl (sx 41 rfl (sx 73 rfl (sx 79 rfl (sub_nil _)))))))))))))))))))) (.refl _) ?_
      refine hl_nil ?_
      refine hq_then ?_
      refine hc_block ?_
      refine hc_loop2 (α := Nat) (β := Int) (fun j q => [rowE 3 1 u2 zs.length (zs.map (Value.int .i64)), bigE (es.map irPart), rowE 24 1 u es.length (es.flatMap irC), rowE 3 1 v5 ((valT x.n x.bs x.ni).length) ((valT x.n x.bs x.ni).map (Value.int .i64)), rowE 3 1 v2 ((valT x.n x.ao x.oi).length) ((valT x.n x.ao x.oi).map (Value.int .i64)), boxE b1 #[.int .i64 x.n.ins, x.n.sv, x.n.lv, x.n.ov, x.pv, x.qv, x.kv, x.av, x.bv, .int .i64 x.oi, .int .i64 x.ni] 40]) (fun j q => [(0, .agg #[.int .i64 x.n.ins, x.n.sv, x.n.lv, x.n.ov, x.pv, x.qv, x.kv, x.av, x.bv, .int .i64 x.oi, .int .i64 x.ni]), (1, .int .i64 a), (2, .pointer (some ⟨b1, 0, none⟩)), (4, .slice none 0 0), (5, v2), (6, v5), (7, u), (8, .int .i64 (m : Int)), (9, u2), (10, .int .i64 (t : Int)), (11, .int .i64 ((valT x.n x.bs x.ni).getD m 0)), (12, .int .i64 (((m : Int) - 1) - x.n.ins)), (13, .int .i64 (i : Int)), (14, .int .i64 q), (15, .int .i64 (j : Int)), (35, .bool true), (41, .bool true), (73, .bool false), (79, .bool true)]) (fun j q => j ≤ (x.n.ls.getD i lt0).xs.length ∧ q = pk (lin x (wvsL x a.toNat m) i (t : Int)) j) (fun j q => (x.n.ls.getD i lt0).xs.length - j) 0 0 ⟨Nat.zero_le _, rfl⟩ (sx 0 rfl (sx 1 rfl (sx 2 rfl (sx 4 rfl (sx 5 rfl (sx 6 rfl (sx 7 rfl (sx 8 rfl (sx 9 rfl (sx 10 rfl (sx 11 rfl (sx 12 rfl (sx 13 rfl (sx 14 rfl (sx 15 rfl (sx 35 rfl (sx 41 rfl (sx 73 rfl (sx 79 rfl (sub_nil _)))))))))))))))))))) ((.cons_cons _ (.cons_cons _ (.cons_cons _ (.cons_cons _ (.cons_cons _ (.cons_cons _ .slnil))))))) ?_
      intro j q hi32
      obtain ⟨hj, hq⟩ := hi32
      refine hc_seq ?_
      refine hc_seq ?_
      refine hc_region ?_
      refine hl_v rfl rfl rfl (rv_ev rfl) ?_
      refine hl_v rfl rfl rfl (rv_field (k0 := 0) rfl (by kernel_rfl) rfl) ?_
      refine hl_v rfl rfl rfl (rv_field (k0 := 2) rfl (by kernel_rfl) rfl) ?_
      refine hl_v rfl rfl rfl (rv_load rfl (by kernel_rfl) rfl (box_cell 5 rfl rfl)) ?_
      refine hl_v rfl rfl rfl (rv_ev rfl) ?_
      refine hl_v rfl rfl rfl (rv_index (s := 2) rfl Try.underlying35 (by kernel_rfl) rfl rfl (rd_old ((hr).n.lt.row)) (by omega) (by first | omega | (simp only [List.length_set]; omega))) ?_
      refine hl_v rfl rfl rfl (rv_fieldEl (k0 := 0) rfl (by kernel_rfl) rfl (rd_old ((hr).n.lt.row)) (by first | omega | (simp only [List.length_set]; omega))) ?_
      refine hl_v rfl rfl rfl (rv_loadEl (u := (x.n.ls.getD i lt0).iv) rfl (by kernel_rfl) rfl (rd_old ((hr).n.lt.row)) ((flat_at ltC 2 (fun _ => rfl) x.n.ls lt0 (show i < _ by first | omega | (simp only [List.length_set]; omega)) (by decide)).trans rfl)) ?_
      refine hl_v rfl rfl rfl (rv_len rfl Try.underlying24 rfl (rd_old ((hr).n.lt.at (d := lt0) (k := i) (by omega)))) ?_
      refine hl_lss rfl rfl rfl rfl rfl rfl (fun h33 => ?_) (fun h33 => ?_)
      ·
       refine hl_less (sx 0 rfl (sx 1 rfl (sx 2 rfl (sx 4 rfl (sx 5 rfl (sx 6 rfl (sx 7 rfl (sx 8 rfl (sx 9 rfl (sx 10 rfl (sx 11 rfl (sx 12 rfl (sx 13 rfl (sx 14 rfl (sx 15 rfl (sx 35 rfl (sx 41 rfl (sx 73 rfl (sx 79 rfl (sx 89 rfl (sub_nil _))))))))))))))))))))) (.refl _) ?_
       refine hl_nil ?_
       refine hq_then ?_
       refine hc_true rfl ?_
       refine hc_skip ?_
       refine hq_then ?_
       refine hc_seq ?_
       refine hc_block ?_
       refine hc_seq ?_
       refine hc_region ?_
       refine hl_v rfl rfl rfl (rv_field (k0 := 0) rfl (by kernel_rfl) rfl) ?_
       refine hl_v rfl rfl rfl (rv_field (k0 := 2) rfl (by kernel_rfl) rfl) ?_
       refine hl_v rfl rfl rfl (rv_load rfl (by kernel_rfl) rfl (box_cell 5 rfl rfl)) ?_
       refine hl_v rfl rfl rfl (rv_ev rfl) ?_
       refine hl_v rfl rfl rfl (rv_index (s := 2) rfl Try.underlying35 (by kernel_rfl) rfl rfl (rd_old ((hr).n.lt.row)) (by omega) (by first | omega | (simp only [List.length_set]; omega))) ?_
       refine hl_v rfl rfl rfl (rv_fieldEl (k0 := 0) rfl (by kernel_rfl) rfl (rd_old ((hr).n.lt.row)) (by first | omega | (simp only [List.length_set]; omega))) ?_
       refine hl_v rfl rfl rfl (rv_loadEl (u := (x.n.ls.getD i lt0).iv) rfl (by kernel_rfl) rfl (rd_old ((hr).n.lt.row)) ((flat_at ltC 2 (fun _ => rfl) x.n.ls lt0 (show i < _ by first | omega | (simp only [List.length_set]; omega)) (by decide)).trans rfl)) ?_
       refine hl_v rfl rfl rfl (rv_ev rfl) ?_
       refine hl_v rfl rfl rfl (rv_index (s := 1) rfl Try.underlying24 (by kernel_rfl) rfl rfl (rd_old ((hr).n.lt.at (d := lt0) (k := i) (by omega))) (by omega) (by first | omega | (simp only [List.length_set]; omega))) ?_
       refine hl_v rfl rfl rfl (rv_loadEl (u := .int .i64 (((x.n.ls.getD i lt0).xs).getD j 0)) rfl (by kernel_rfl) rfl (rd_old ((hr).n.lt.at (d := lt0) (k := i) (by omega))) (ints_at1 (show _ < ((x.n.ls.getD i lt0).xs).length by first | omega | (simp only [List.length_set]; omega)))) ?_
       refine hl_v rfl rfl rfl (rv_ev rfl) ?_
       refine hl_less (sx 0 rfl (sx 1 rfl (sx 2 rfl (sx 4 rfl (sx 5 rfl (sx 6 rfl (sx 7 rfl (sx 8 rfl (sx 9 rfl (sx 10 rfl (sx 11 rfl (sx 12 rfl (sx 13 rfl (sx 14 rfl (sx 15 rfl (sx 16 rfl (sx 35 rfl (sx 41 rfl (sx 73 rfl (sx 79 rfl (sx 89 rfl (sub_nil _)))))))))))))))))))))) (.refl _) ?_
       refine hl_nil ?_
       refine hq_then ?_
       have hns := hlt9.1.2 j (by omega)
       have hdj := (hok.dl i hil).2 j (by omega)
       have hbk : (lin x (wvsL x a.toNat m) i (t : Int)) j = 0 ∨ (lin x (wvsL x a.toNat m) i (t : Int)) j = 1 := lin01 hok (by omega) hmi (by omega) j (by omega)
       have hal : ∀ z, z < j → (lin x (wvsL x a.toNat m) i (t : Int)) z = 0 ∨ (lin x (wvsL x a.toNat m) i (t : Int)) z = 1 := fun z hz => lin01 hok (by omega) hmi (by omega) z (by omega)
       have hpr := pk16 (b := (lin x (wvsL x a.toNat m) i (t : Int))) (k := j) hal (by omega)
       have hpw := pow4 (k := j) (by omega)
       have hpw0 : (0 : Int) < 2 ^ j := Int.pow_pos (by decide)
       refine hc_draw (by kernel_rfl) 24 [0, 1, 2, 3, 4, 5, 6, 7, 8, 9, 10, 11, 12, 13, 14, 15, 16, 17, 18, 19, 20, 21, 22, 23] (List.take 24 _) (List.drop 24 _) [[], [], [], [1, 2], [3], [], [], [5, 6], [7], [], [], [10], [11], [], [12, 13], [14], [], [15, 16], [17], [9, 18], [4, 8, 19], [], [20, 21], [0, 22]] [102, 103, 104, 105, 106, 107, 108, 109, 110, 111, 112, 113, 114, 115, 116, 117, 118, 119, 120, 121, 122, 123, 124, 125] (fun i_ vs_ v_ p_ => match i_ with | 0 => v_ = .int .i64 q ∧ p_ = [] | 1 => v_ = u ∧ p_ = [] | 2 => v_ = .int .i64 (((x.n.ls.getD i lt0).xs).getD j 0) ∧ p_ = [] | 3 => v_ = elP u ((((x.n.ls.getD i lt0).xs).getD j 0).toNat * 1) ∧ p_ = [] | 4 => v_ = (es.getD ((((x.n.ls.getD i lt0).xs).getD j 0).toNat) ir0).v ∧ p_ = [] | 5 => v_ = v2 ∧ p_ = [] | 6 => v_ = .int .i64 (((x.n.ls.getD i lt0).xs).getD j 0) ∧ p_ = [] | 7 => v_ = elP v2 ((((x.n.ls.getD i lt0).xs).getD j 0).toNat * 1) ∧ p_ = [] | 8 => v_ = .int .i64 ((valT x.n x.ao x.oi).getD ((((x.n.ls.getD i lt0).xs).getD j 0).toNat) 0) ∧ p_ = [] | 9 => v_ = .int .i64 (t : Int) ∧ p_ = [] | 10 => v_ = .pointer (some ⟨b1, 0 + 4, none⟩) ∧ p_ = [] | 11 => v_ = .pointer (some ⟨b1, 0 + 4 + 0, none⟩) ∧ p_ = [] | 12 => v_ = x.pv ∧ p_ = [] | 13 => v_ = .int .i64 (i : Int) ∧ p_ = [] | 14 => v_ = elP x.pv (((i : Int)).toNat * 1) ∧ p_ = [] | 15 => v_ = (x.dl.getD i ir0).v ∧ p_ = [] | 16 => v_ = .int .i64 (j : Int) ∧ p_ = [] | 17 => v_ = elP ((x.dl.getD i ir0).v) (((j : Int)).toNat * 1) ∧ p_ = [] | 18 => v_ = .int .i64 (((x.dl.getD i ir0).xs).getD j 0) ∧ p_ = [] | 19 => v_ = .int .i64 ((t : Int) - (((x.dl.getD i ir0).xs).getD j 0)) ∧ p_ = [] | 20 => v_ = .int .i64 ((lin x (wvsL x a.toNat m) i (t : Int)) j) ∧ p_ = [] | 21 => v_ = .int .i64 (j : Int) ∧ p_ = [] | 22 => v_ = .int .i64 ((lin x (wvsL x a.toNat m) i (t : Int)) j * 2 ^ j) ∧ p_ = [] | 23 => v_ = .int .i64 (q + ((lin x (wvsL x a.toNat m) i (t : Int)) j * 2 ^ j)) ∧ p_ = [] | _ => True) (List.take_append_drop 24 _).symm (by kernel_rfl) (by kernel_rfl) rfl rfl ?_ ?_
       ·
        refine ⟨?_, ?_, ?_, ?_, ?_, ?_, ?_, ?_, ?_, ?_, ?_, ?_, ?_, ?_, ?_, ?_, ?_, ?_, ?_, ?_, ?_, ?_, ?_, ?_, trivial⟩
        ·
         intro vf pf hR
         refine Or.inl ⟨rfl, ?_⟩
         refine rq_less (sx 14 rfl (sub_nil _)) (List.sublist_append_right _ _) ?_
         exact rq_v (rv_ev rfl)
        ·
         intro vf pf hR
         refine Or.inl ⟨rfl, ?_⟩
         refine rq_less (sx 7 rfl (sub_nil _)) (List.sublist_append_right _ _) ?_
         exact rq_v (rv_ev rfl)
        ·
         intro vf pf hR
         refine Or.inl ⟨rfl, ?_⟩
         refine rq_less (sx 16 rfl (sub_nil _)) (List.sublist_append_right _ _) ?_
         exact rq_v (rv_ev rfl)
        ·
         intro vf pf hR
         have e1 : (vf 1) = u ∧ (pf 1) = [] := hR 1 (by decide)
         have e2 : (vf 2) = .int .i64 (((x.n.ls.getD i lt0).xs).getD j 0) ∧ (pf 2) = [] := hR 2 (by decide)
         refine Or.inl ⟨rfl, ?_⟩
         refine rq_less (sx 103 (congrArg some e1.1) (sx 104 (congrArg some e2.1) (sub_nil _))) (List.sublist_append_right _ _) ?_
         exact rq_v (rv_index (s := 1) rfl Try.underlying27 (by kernel_rfl) rfl rfl (rd_row 2 rfl) (by omega) (by first | omega | (simp only [List.length_set]; omega)))
        ·
         intro vf pf hR
         have e3 : (vf 3) = elP u ((((x.n.ls.getD i lt0).xs).getD j 0).toNat * 1) ∧ (pf 3) = [] := hR 3 (by decide)
         refine Or.inl ⟨rfl, ?_⟩
         refine rq_less (sx 105 (congrArg some e3.1) (sub_nil _)) (List.sublist_append_right _ _) ?_
         exact rq_v (rv_loadEl (u := (es.getD ((((x.n.ls.getD i lt0).xs).getD j 0).toNat) ir0).v) rfl (by kernel_rfl) rfl (rd_row 2 rfl) (flat_one irC (fun r => r.v) (fun _ => rfl) es ir0 (show (((x.n.ls.getD i lt0).xs).getD j 0).toNat < _ by first | omega | (simp only [List.length_set]; omega))))
        ·
         intro vf pf hR
         refine Or.inl ⟨rfl, ?_⟩
         refine rq_less (sx 5 rfl (sub_nil _)) (List.sublist_append_right _ _) ?_
         exact rq_v (rv_ev rfl)
        ·
         intro vf pf hR
         refine Or.inl ⟨rfl, ?_⟩
         refine rq_less (sx 16 rfl (sub_nil _)) (List.sublist_append_right _ _) ?_
         exact rq_v (rv_ev rfl)
        ·
         intro vf pf hR
         have e5 : (vf 5) = v2 ∧ (pf 5) = [] := hR 5 (by decide)
         have e6 : (vf 6) = .int .i64 (((x.n.ls.getD i lt0).xs).getD j 0) ∧ (pf 6) = [] := hR 6 (by decide)
         refine Or.inl ⟨rfl, ?_⟩
         refine rq_less (sx 107 (congrArg some e5.1) (sx 108 (congrArg some e6.1) (sub_nil _))) (List.sublist_append_right _ _) ?_
         exact rq_v (rv_index (s := 1) rfl Try.underlying24 (by kernel_rfl) rfl rfl (rd_row 4 rfl) (by omega) (by first | omega | (simp only [List.length_set]; omega)))
        ·
         intro vf pf hR
         have e7 : (vf 7) = elP v2 ((((x.n.ls.getD i lt0).xs).getD j 0).toNat * 1) ∧ (pf 7) = [] := hR 7 (by decide)
         refine Or.inl ⟨rfl, ?_⟩
         refine rq_less (sx 109 (congrArg some e7.1) (sub_nil _)) (List.sublist_append_right _ _) ?_
         exact rq_v (rv_loadEl (u := .int .i64 ((valT x.n x.ao x.oi).getD ((((x.n.ls.getD i lt0).xs).getD j 0).toNat) 0)) rfl (by kernel_rfl) rfl (rd_row 4 rfl) (ints_at1 (show _ < (valT x.n x.ao x.oi).length by first | omega | (simp only [List.length_set]; omega))))
        ·
         intro vf pf hR
         refine Or.inl ⟨rfl, ?_⟩
         refine rq_less (sx 10 rfl (sub_nil _)) (List.sublist_append_right _ _) ?_
         exact rq_v (rv_ev rfl)
        ·
         intro vf pf hR
         refine Or.inl ⟨rfl, ?_⟩
         refine rq_less (sx 2 rfl (sub_nil _)) (List.sublist_append_right _ _) ?_
         exact rq_v (rv_field (k0 := 4) rfl (by kernel_rfl) rfl)
        ·
         intro vf pf hR
         have e10 : (vf 10) = .pointer (some ⟨b1, 0 + 4, none⟩) ∧ (pf 10) = [] := hR 10 (by decide)
         refine Or.inl ⟨rfl, ?_⟩
         refine rq_less (sx 112 (congrArg some e10.1) (sub_nil _)) (List.sublist_append_right _ _) ?_
         exact rq_v (rv_field (k0 := 0) rfl (by kernel_rfl) rfl)
        ·
         intro vf pf hR
         have e11 : (vf 11) = .pointer (some ⟨b1, 0 + 4 + 0, none⟩) ∧ (pf 11) = [] := hR 11 (by decide)
         refine Or.inl ⟨rfl, ?_⟩
         refine rq_less (sx 113 (congrArg some e11.1) (sub_nil _)) (List.sublist_append_right _ _) ?_
         exact rq_v (rv_load rfl (by kernel_rfl) rfl (box_cell 5 rfl rfl))
        ·
         intro vf pf hR
         refine Or.inl ⟨rfl, ?_⟩
         refine rq_less (sx 13 rfl (sub_nil _)) (List.sublist_append_right _ _) ?_
         exact rq_v (rv_ev rfl)
        ·
         intro vf pf hR
         have e12 : (vf 12) = x.pv ∧ (pf 12) = [] := hR 12 (by decide)
         have e13 : (vf 13) = .int .i64 (i : Int) ∧ (pf 13) = [] := hR 13 (by decide)
         refine Or.inl ⟨rfl, ?_⟩
         refine rq_less (sx 114 (congrArg some e12.1) (sx 115 (congrArg some e13.1) (sub_nil _))) (List.sublist_append_right _ _) ?_
         exact rq_v (rv_index (s := 1) rfl Try.underlying27 (by kernel_rfl) rfl rfl (rd_old ((hr).dl.row)) (by omega) (by first | omega | (simp only [List.length_set]; omega)))
        ·
         intro vf pf hR
         have e14 : (vf 14) = elP x.pv (((i : Int)).toNat * 1) ∧ (pf 14) = [] := hR 14 (by decide)
         refine Or.inl ⟨rfl, ?_⟩
         refine rq_less (sx 116 (congrArg some e14.1) (sub_nil _)) (List.sublist_append_right _ _) ?_
         exact rq_v (rv_loadEl (u := (x.dl.getD i ir0).v) rfl (by kernel_rfl) rfl (rd_old ((hr).dl.row)) (flat_one irC (fun r => r.v) (fun _ => rfl) x.dl ir0 (show i < _ by first | omega | (simp only [List.length_set]; omega))))
        ·
         intro vf pf hR
         refine Or.inl ⟨rfl, ?_⟩
         refine rq_less (sx 15 rfl (sub_nil _)) (List.sublist_append_right _ _) ?_
         exact rq_v (rv_ev rfl)
        ·
         intro vf pf hR
         have e15 : (vf 15) = (x.dl.getD i ir0).v ∧ (pf 15) = [] := hR 15 (by decide)
         have e16 : (vf 16) = .int .i64 (j : Int) ∧ (pf 16) = [] := hR 16 (by decide)
         refine Or.inl ⟨rfl, ?_⟩
         refine rq_less (sx 117 (congrArg some e15.1) (sx 118 (congrArg some e16.1) (sub_nil _))) (List.sublist_append_right _ _) ?_
         exact rq_v (rv_index (s := 1) rfl Try.underlying24 (by kernel_rfl) rfl rfl (rd_old ((hr).dl.at (d := ir0) (k := i) (by omega))) (by omega) (by first | omega | (simp only [List.length_set]; omega)))
        ·
         intro vf pf hR
         have e17 : (vf 17) = elP ((x.dl.getD i ir0).v) (((j : Int)).toNat * 1) ∧ (pf 17) = [] := hR 17 (by decide)
         refine Or.inl ⟨rfl, ?_⟩
         refine rq_less (sx 119 (congrArg some e17.1) (sub_nil _)) (List.sublist_append_right _ _) ?_
         exact rq_v (rv_loadEl (u := .int .i64 (((x.dl.getD i ir0).xs).getD j 0)) rfl (by kernel_rfl) rfl (rd_old ((hr).dl.at (d := ir0) (k := i) (by omega))) (ints_at1 (show _ < ((x.dl.getD i ir0).xs).length by first | omega | (simp only [List.length_set]; omega))))
        ·
         intro vf pf hR
         have e9 : (vf 9) = .int .i64 (t : Int) ∧ (pf 9) = [] := hR 9 (by decide)
         have e18 : (vf 18) = .int .i64 (((x.dl.getD i ir0).xs).getD j 0) ∧ (pf 18) = [] := hR 18 (by decide)
         refine Or.inl ⟨rfl, ?_⟩
         refine rq_less (sx 111 (congrArg some e9.1) (sx 120 (congrArg some e18.1) (sub_nil _))) (List.sublist_append_right _ _) ?_
         exact rq_v (rv_sub rfl rfl rfl (by constructor <;> omega))
        ·
         intro vf pf hR
         have e4 : (vf 4) = (es.getD ((((x.n.ls.getD i lt0).xs).getD j 0).toNat) ir0).v ∧ (pf 4) = [] := hR 4 (by decide)
         have e8 : (vf 8) = .int .i64 ((valT x.n x.ao x.oi).getD ((((x.n.ls.getD i lt0).xs).getD j 0).toNat) 0) ∧ (pf 8) = [] := hR 8 (by decide)
         have e19 : (vf 19) = .int .i64 ((t : Int) - (((x.dl.getD i ir0).xs).getD j 0)) ∧ (pf 19) = [] := hR 19 (by decide)
         refine Or.inl ⟨rfl, ?_⟩
         refine rq_less (sx 106 (congrArg some e4.1) (sx 110 (congrArg some e8.1) (sx 121 (congrArg some e19.1) (sub_nil _)))) (List.sublist_append_right _ _) ?_
         exact (rq_call (by kernel_rfl) rfl (fun w hm => ret_ans (l37At_lin w (rdsIr_sep hm 1 2 rfl rfl) hw rfl rfl rfl (by omega) (by omega))))
        ·
         intro vf pf hR
         refine Or.inl ⟨rfl, ?_⟩
         refine rq_less (sx 15 rfl (sub_nil _)) (List.sublist_append_right _ _) ?_
         exact rq_v (rv_ev rfl)
        ·
         intro vf pf hR
         have e20 : (vf 20) = .int .i64 ((lin x (wvsL x a.toNat m) i (t : Int)) j) ∧ (pf 20) = [] := hR 20 (by decide)
         have e21 : (vf 21) = .int .i64 (j : Int) ∧ (pf 21) = [] := hR 21 (by decide)
         refine Or.inl ⟨rfl, ?_⟩
         refine rq_less (sx 122 (congrArg some e20.1) (sx 123 (congrArg some e21.1) (sub_nil _))) (List.sublist_append_right _ _) ?_
         exact rq_v (rv_shlG (k := .i64) (kk := .i64) (r := (lin x (wvsL x a.toNat m) i (t : Int)) j * 2 ^ j) rfl rfl rfl rfl (by omega) (shl_pk hbk (by omega)))
        ·
         intro vf pf hR
         have e0 : (vf 0) = .int .i64 q ∧ (pf 0) = [] := hR 0 (by decide)
         have e22 : (vf 22) = .int .i64 ((lin x (wvsL x a.toNat m) i (t : Int)) j * 2 ^ j) ∧ (pf 22) = [] := hR 22 (by decide)
         refine Or.inl ⟨rfl, ?_⟩
         refine rq_less (sx 102 (congrArg some e0.1) (sx 124 (congrArg some e22.1) (sub_nil _))) (List.sublist_append_right _ _) ?_
         exact rq_v (rv_add rfl rfl rfl (by rw [hq]; constructor <;> (rcases hbk with e | e <;> rw [e] <;> omega)))
       ·
        intro vf pf hR
        have e23 : (vf 23) = .int .i64 (q + ((lin x (wvsL x a.toNat m) i (t : Int)) j * 2 ^ j)) ∧ (pf 23) = [] := hR 23 (by decide)
        refine hl_less (l' := [rowE 3 1 u2 zs.length (zs.map (Value.int .i64)), bigE (es.map irPart), rowE 24 1 u es.length (es.flatMap irC), rowE 3 1 v5 ((valT x.n x.bs x.ni).length) ((valT x.n x.bs x.ni).map (Value.int .i64)), rowE 3 1 v2 ((valT x.n x.ao x.oi).length) ((valT x.n x.ao x.oi).map (Value.int .i64)), boxE b1 #[.int .i64 x.n.ins, x.n.sv, x.n.lv, x.n.ov, x.pv, x.qv, x.kv, x.av, x.bv, .int .i64 x.oi, .int .i64 x.ni] 40]) (sx 0 rfl (sx 1 rfl (sx 2 rfl (sx 4 rfl (sx 5 rfl (sx 6 rfl (sx 7 rfl (sx 8 rfl (sx 9 rfl (sx 10 rfl (sx 11 rfl (sx 12 rfl (sx 13 rfl (sx 14 rfl (sx 15 rfl (sx 16 rfl (sx 35 rfl (sx 41 rfl (sx 73 rfl (sx 79 rfl (sx 89 rfl (sx 125 (congrArg some e23.1) (sub_nil _))))))))))))))))))))))) (List.sublist_append_right _ _) ?_
        simp only [List.drop_succ_cons, List.drop_zero]
        refine hl_v rfl rfl rfl (rv_ev rfl) ?_
        refine hl_less (sx 0 rfl (sx 1 rfl (sx 2 rfl (sx 4 rfl (sx 5 rfl (sx 6 rfl (sx 7 rfl (sx 8 rfl (sx 9 rfl (sx 10 rfl (sx 11 rfl (sx 12 rfl (sx 13 rfl (sx 14 rfl (sx 15 rfl (sx 16 rfl (sx 35 rfl (sx 41 rfl (sx 73 rfl (sx 79 rfl (sx 89 rfl (sub_nil _)))))))))))))))))))))) (.refl _) ?_
        refine hl_nil ?_
        refine hq_block_normal ?_
        refine hq_then ?_
        refine hc_region ?_
        refine hl_v rfl rfl rfl (rv_ev rfl) ?_
        refine hl_v rfl rfl rfl (rv_add rfl rfl rfl (by constructor <;> omega)) ?_
        refine hl_v rfl rfl rfl (rv_ev rfl) ?_
        refine hl_less (sx 0 rfl (sx 1 rfl (sx 2 rfl (sx 4 rfl (sx 5 rfl (sx 6 rfl (sx 7 rfl (sx 8 rfl (sx 9 rfl (sx 10 rfl (sx 11 rfl (sx 12 rfl (sx 13 rfl (sx 14 rfl (sx 15 rfl (sx 16 rfl (sx 35 rfl (sx 41 rfl (sx 73 rfl (sx 79 rfl (sx 89 rfl (sub_nil _)))))))))))))))))))))) (.refl _) ?_
        refine hl_nil ?_
        exact hq_round2 (j + 1) _ ⟨by omega, by first | rfl | (rw [hq]; rfl)⟩ (by omega) (sx 0 rfl (sx 1 rfl (sx 2 rfl (sx 4 rfl (sx 5 rfl (sx 6 rfl (sx 7 rfl (sx 8 rfl (sx 9 rfl (sx 10 rfl (sx 11 rfl (sx 12 rfl (sx 13 rfl (sx 14 rfl (sx 15 rfl (sx 35 rfl (sx 41 rfl (sx 73 rfl (sx 79 rfl (sub_nil _)))))))))))))))))))) ((.cons_cons _ (.cons_cons _ (.cons_cons _ (.cons_cons _ (.cons_cons _ (.cons_cons _ .slnil)))))))
      ·
       refine hl_less (sx 0 rfl (sx 1 rfl (sx 2 rfl (sx 4 rfl (sx 5 rfl (sx 6 rfl (sx 7 rfl (sx 8 rfl (sx 9 rfl (sx 10 rfl (sx 11 rfl (sx 12 rfl (sx 13 rfl (sx 14 rfl (sx 15 rfl (sx 35 rfl (sx 41 rfl (sx 73 rfl (sx 79 rfl (sx 89 rfl (sub_nil _))))))))))))))))))))) (.refl _) ?_
       refine hl_nil ?_
       refine hq_then ?_
       refine hc_false rfl ?_
       refine hc_exit ?_
       refine hq_then_exit ?_
       refine hq_then_exit ?_
       refine hq_block_exit ?_
       refine hq_then ?_
       refine hc_region ?_
       have hal : ∀ z, z < j → (lin x (wvsL x a.toNat m) i (t : Int)) z = 0 ∨ (lin x (wvsL x a.toNat m) i (t : Int)) z = 1 := fun z hz => lin01 hok (by omega) hmi (by omega) z (by omega)
       have hpr := pk16 (b := (lin x (wvsL x a.toNat m) i (t : Int))) (k := j) hal (by omega)
       refine hl_v rfl rfl rfl (rv_field (k0 := 0) rfl (by kernel_rfl) rfl) ?_
       refine hl_v rfl rfl rfl (rv_field (k0 := 2) rfl (by kernel_rfl) rfl) ?_
       refine hl_v rfl rfl rfl (rv_load rfl (by kernel_rfl) rfl (box_cell 5 rfl rfl)) ?_
       refine hl_v rfl rfl rfl (rv_ev rfl) ?_
       refine hl_v rfl rfl rfl (rv_index (s := 2) rfl Try.underlying35 (by kernel_rfl) rfl rfl (rd_old ((hr).n.lt.row)) (by omega) (by first | omega | (simp only [List.length_set]; omega))) ?_
       refine hl_v rfl rfl rfl (rv_fieldEl (k0 := 1) rfl (by kernel_rfl) rfl (rd_old ((hr).n.lt.row)) (by first | omega | (simp only [List.length_set]; omega))) ?_
       refine hl_v rfl rfl rfl (rv_loadEl (u := .int .i64 ((x.n.ls.getD i lt0).ma)) rfl (by kernel_rfl) rfl (rd_old ((hr).n.lt.row)) ((flat_at ltC 2 (fun _ => rfl) x.n.ls lt0 (show i < _ by first | omega | (simp only [List.length_set]; omega)) (by decide)).trans rfl)) ?_
       refine hl_v rfl rfl rfl (rv_ev rfl) ?_
       refine hl_v rfl rfl rfl (rv_shr rfl rfl rfl (by omega)) ?_
       refine hl_v rfl rfl rfl (rv_bits rfl (by decide) rfl rfl (r := (((x.n.ls.getD i lt0).ma) / 2 ^ (q : Int).toNat) % 2) (andOne _)) ?_
       refine hl_v rfl rfl rfl (rv_ev rfl) ?_
       refine hl_less (sx 0 rfl (sx 1 rfl (sx 2 rfl (sx 4 rfl (sx 5 rfl (sx 6 rfl (sx 7 rfl (sx 8 rfl (sx 9 rfl (sx 10 rfl (sx 11 rfl (sx 12 rfl (sx 13 rfl (sx 14 rfl (sx 15 rfl (sx 35 rfl (sx 41 rfl (sx 73 rfl (sx 79 rfl (sx 89 rfl (sub_nil _))))))))))))))))))))) (.refl _) ?_
       refine hl_nil ?_
       refine hq_then ?_
       refine hc_region ?_
       refine hl_v rfl rfl rfl (rv_ev rfl) ?_
       refine hl_v rfl rfl rfl (rv_ev rfl) ?_
       refine hl_row rfl rfl rfl (rq_buildSlice (z := .int .i64 0) (s := 1) (cs := ([(((x.n.ls.getD i lt0).ma) / 2 ^ (q : Int).toNat) % 2].map (Value.int .i64))) rfl Try.underlying24 (by kernel_rfl) (by decide) rfl (by kernel_rfl) rfl) ?_
       intro g34
       refine hl_append (i := 1) (z := .int .i64 0) (bytes := 8) (n' := (zs ++ ([(((x.n.ls.getD i lt0).ma) / 2 ^ (q : Int).toNat) % 2])).length) (xs' := ((zs ++ ([(((x.n.ls.getD i lt0).ma) / 2 ^ (q : Int).toNat) % 2])).map (Value.int .i64))) (L := fun v35 => [rowE 3 1 (.slice (some ⟨g34, 0, none⟩) 1 1) 1 ([(((x.n.ls.getD i lt0).ma) / 2 ^ (q : Int).toNat) % 2].map (Value.int .i64)), rowE 3 1 v35 ((zs ++ ([(((x.n.ls.getD i lt0).ma) / 2 ^ (q : Int).toNat) % 2])).length) ((zs ++ ([(((x.n.ls.getD i lt0).ma) / 2 ^ (q : Int).toNat) % 2])).map (Value.int .i64)), bigE (es.map irPart), rowE 24 1 u es.length (es.flatMap irC), rowE 3 1 v5 ((valT x.n x.bs x.ni).length) ((valT x.n x.bs x.ni).map (Value.int .i64)), rowE 3 1 v2 ((valT x.n x.ao x.oi).length) ((valT x.n x.ao x.oi).map (Value.int .i64)), boxE b1 #[.int .i64 x.n.ins, x.n.sv, x.n.lv, x.n.ov, x.pv, x.qv, x.kv, x.av, x.bv, .int .i64 x.oi, .int .i64 x.ni] 40]) rfl rfl rfl rfl Try.underlying24 (by kernel_rfl) (by kernel_rfl) rfl rfl rfl (rd_row 0 rfl) (ints_one _) (by first | omega | (simp; omega)) (len_app zs ([(((x.n.ls.getD i lt0).ma) / 2 ^ (q : Int).toNat) % 2])) (ints_app zs ([(((x.n.ls.getD i lt0).ma) / 2 ^ (q : Int).toNat) % 2])) (fun _ => rfl) ?_
       intro v35
       refine hl_v rfl rfl rfl (rv_ev rfl) ?_
       refine hl_less (sx 0 rfl (sx 1 rfl (sx 2 rfl (sx 4 rfl (sx 5 rfl (sx 6 rfl (sx 7 rfl (sx 8 rfl (sx 9 rfl (sx 10 rfl (sx 11 rfl (sx 12 rfl (sx 13 rfl (sx 14 rfl (sx 15 rfl (sx 35 rfl (sx 41 rfl (sx 73 rfl (sx 79 rfl (sx 89 rfl (sub_nil _))))))))))))))))))))) (.refl _) ?_
       refine hl_nil ?_
       refine hq_block_normal ?_
       refine hq_then ?_
       refine hc_region ?_
       refine hl_v rfl rfl rfl (rv_ev rfl) ?_
       refine hl_v rfl rfl rfl (rv_add rfl rfl rfl (by constructor <;> omega)) ?_
       refine hl_v rfl rfl rfl (rv_ev rfl) ?_
       refine hl_less (sx 0 rfl (sx 1 rfl (sx 2 rfl (sx 4 rfl (sx 5 rfl (sx 6 rfl (sx 7 rfl (sx 8 rfl (sx 9 rfl (sx 10 rfl (sx 11 rfl (sx 12 rfl (sx 13 rfl (sx 14 rfl (sx 15 rfl (sx 35 rfl (sx 41 rfl (sx 73 rfl (sx 79 rfl (sx 89 rfl (sub_nil _))))))))))))))))))))) (.refl _) ?_
       refine hl_nil ?_
       have hv9 : (((x.n.ls.getD i lt0).ma) / 2 ^ (q : Int).toNat) % 2 = wvV x (wvsL x a.toNat m) m (t : Int) := by rw [wv_lut x _ _ hmi]; unfold lutV; rw [hq, show j = (x.n.ls.getD i lt0).xs.length by omega]
       exact hq_round3 (t + 1) v35 (zs ++ ([(((x.n.ls.getD i lt0).ma) / 2 ^ (q : Int).toNat) % 2])) ⟨by omega, by rw [hv9, hz]; exact rowW_succ _ _ _ _⟩ (by omega) (sx 0 rfl (sx 1 rfl (sx 2 rfl (sx 4 rfl (sx 5 rfl (sx 6 rfl (sx 7 rfl (sx 8 rfl (sx 9 rfl (sx 10 rfl (sx 35 rfl (sub_nil _)))))))))))) ((.cons _ (.cons_cons _ (.cons_cons _ (.cons_cons _ (.cons_cons _ (.cons_cons _ (.cons_cons _ .slnil))))))))
     ·
      refine hl_less (sx 0 rfl (sx 1 rfl (sx 2 rfl (sx 4 rfl (sx 5 rfl (sx 6 rfl (sx 7 rfl (sx 8 rfl (sx 9 rfl (sx 10 rfl (sx 11 rfl (sx 12 rfl (sx 13 rfl (sx 35 rfl (sx 41 rfl (sx 73 rfl (sx 79 rfl (sub_nil _)))))))))))))))))) (.refl _) ?_
      refine hl_nil ?_
      refine hq_then ?_
      refine hc_false rfl ?_
      refine hc_skip ?_
      refine hq_then ?_
      refine hc_region ?_
      refine hl_v rfl rfl rfl (rv_ev rfl) ?_
      refine hl_v rfl rfl rfl (rv_ev rfl) ?_
      refine hl_row rfl rfl rfl (rq_buildSlice (z := .int .i64 0) (s := 1) (cs := ([(valT x.n x.bs x.ni).getD m 0].map (Value.int .i64))) rfl Try.underlying24 (by kernel_rfl) (by decide) rfl (by kernel_rfl) rfl) ?_
      intro g36
      refine hl_append (i := 1) (z := .int .i64 0) (bytes := 8) (n' := (zs ++ ([(valT x.n x.bs x.ni).getD m 0])).length) (xs' := ((zs ++ ([(valT x.n x.bs x.ni).getD m 0])).map (Value.int .i64))) (L := fun v37 => [rowE 3 1 (.slice (some ⟨g36, 0, none⟩) 1 1) 1 ([(valT x.n x.bs x.ni).getD m 0].map (Value.int .i64)), rowE 3 1 v37 ((zs ++ ([(valT x.n x.bs x.ni).getD m 0])).length) ((zs ++ ([(valT x.n x.bs x.ni).getD m 0])).map (Value.int .i64)), bigE (es.map irPart), rowE 24 1 u es.length (es.flatMap irC), rowE 3 1 v5 ((valT x.n x.bs x.ni).length) ((valT x.n x.bs x.ni).map (Value.int .i64)), rowE 3 1 v2 ((valT x.n x.ao x.oi).length) ((valT x.n x.ao x.oi).map (Value.int .i64)), boxE b1 #[.int .i64 x.n.ins, x.n.sv, x.n.lv, x.n.ov, x.pv, x.qv, x.kv, x.av, x.bv, .int .i64 x.oi, .int .i64 x.ni] 40]) rfl rfl rfl rfl Try.underlying24 (by kernel_rfl) (by kernel_rfl) rfl rfl rfl (rd_row 0 rfl) (ints_one _) (by first | omega | (simp; omega)) (len_app zs ([(valT x.n x.bs x.ni).getD m 0])) (ints_app zs ([(valT x.n x.bs x.ni).getD m 0])) (fun _ => rfl) ?_
      intro v37
      refine hl_v rfl rfl rfl (rv_ev rfl) ?_
      refine hl_less (sx 0 rfl (sx 1 rfl (sx 2 rfl (sx 4 rfl (sx 5 rfl (sx 6 rfl (sx 7 rfl (sx 8 rfl (sx 9 rfl (sx 10 rfl (sx 11 rfl (sx 12 rfl (sx 13 rfl (sx 35 rfl (sx 41 rfl (sx 73 rfl (sx 79 rfl (sub_nil _)))))))))))))))))) (.refl _) ?_
      refine hl_nil ?_
      refine hq_block_normal ?_
      refine hq_then ?_
      refine hc_region ?_
      refine hl_v rfl rfl rfl (rv_ev rfl) ?_
      refine hl_v rfl rfl rfl (rv_add rfl rfl rfl (by constructor <;> omega)) ?_
      refine hl_v rfl rfl rfl (rv_ev rfl) ?_
      refine hl_less (sx 0 rfl (sx 1 rfl (sx 2 rfl (sx 4 rfl (sx 5 rfl (sx 6 rfl (sx 7 rfl (sx 8 rfl (sx 9 rfl (sx 10 rfl (sx 11 rfl (sx 12 rfl (sx 13 rfl (sx 35 rfl (sx 41 rfl (sx 73 rfl (sx 79 rfl (sub_nil _)))))))))))))))))) (.refl _) ?_
      refine hl_nil ?_
      have hv9 : (valT x.n x.bs x.ni).getD m 0 = wvV x (wvsL x a.toNat m) m (t : Int) := by unfold wvV; rw [if_pos (by omega), if_neg (by omega)]
      exact hq_round3 (t + 1) v37 (zs ++ ([(valT x.n x.bs x.ni).getD m 0])) ⟨by omega, by rw [hv9, hz]; exact rowW_succ _ _ _ _⟩ (by omega) (sx 0 rfl (sx 1 rfl (sx 2 rfl (sx 4 rfl (sx 5 rfl (sx 6 rfl (sx 7 rfl (sx 8 rfl (sx 9 rfl (sx 10 rfl (sx 35 rfl (sub_nil _)))))))))))) ((.cons _ (.cons_cons _ (.cons_cons _ (.cons_cons _ (.cons_cons _ (.cons_cons _ (.cons_cons _ .slnil))))))))
   ·
    refine hl_v rfl rfl rfl (rv_ev rfl) ?_
    refine hl_skip rfl rfl rfl ?_
    refine hl_skip rfl rfl rfl ?_
    refine hl_v rfl rfl rfl (rv_ev rfl) ?_
    refine hl_v rfl rfl rfl (rv_ev rfl) ?_
    refine hl_skip rfl rfl rfl ?_
    refine hl_skip rfl rfl rfl ?_
    refine hl_skip rfl rfl rfl ?_
    refine hl_skip rfl rfl rfl ?_
    refine hl_skip rfl rfl rfl ?_
    refine hl_skip rfl rfl rfl ?_
    refine hl_skip rfl rfl rfl ?_
    refine hl_v rfl rfl rfl (rv_ev rfl) ?_
    refine hl_less (sx 0 rfl (sx 1 rfl (sx 2 rfl (sx 4 rfl (sx 5 rfl (sx 6 rfl (sx 7 rfl (sx 8 rfl (sx 9 rfl (sx 10 rfl (sx 11 rfl (sx 12 rfl (sx 13 rfl (sx 35 rfl (sx 41 rfl (sx 73 rfl (sub_nil _))))))))))))))))) (.refl _) ?_
    refine hl_nil ?_
    refine hq_then ?_
    refine hc_false rfl ?_
    refine hc_skip ?_
    refine hq_then ?_
    refine hc_seq ?_
    refine hc_seq ?_
    refine hc_region ?_
    refine hl_v rfl rfl rfl (rv_ev rfl) ?_
    refine hl_geq rfl rfl rfl rfl rfl rfl (fun h38 => ?_) (fun h38 => ?_)
    ·
     refine hl_less (sx 0 rfl (sx 1 rfl (sx 2 rfl (sx 4 rfl (sx 5 rfl (sx 6 rfl (sx 7 rfl (sx 8 rfl (sx 9 rfl (sx 10 rfl (sx 11 rfl (sx 12 rfl (sx 13 rfl (sx 35 rfl (sx 41 rfl (sx 73 rfl (sx 79 rfl (sub_nil _)))))))))))))))))) (.refl _) ?_
     refine hl_nil ?_
     refine hq_then ?_
     refine hc_true rfl ?_
     refine hc_seq ?_
     refine hc_region ?_
     obtain ⟨i, hmi⟩ : ∃ i : Nat, (m : Int) - x.n.fst = (i : Int) := ⟨((m : Int) - x.n.fst).toNat, by omega⟩
     rw [hmi]
     have hil : i < x.n.ls.length := by omega
     have hlt9 := hok.n.lt i hil
     have hx4 := hlt9.1.1
     have hdi : (x.dl.getD i ir0).xs.length = (x.n.ls.getD i lt0).xs.length := by have := (hok.dl i hil).1; omega
     refine hl_v rfl rfl rfl (rv_ev rfl) ?_
     refine hl_less (sx 0 rfl (sx 1 rfl (sx 2 rfl (sx 4 rfl (sx 5 rfl (sx 6 rfl (sx 7 rfl (sx 8 rfl (sx 9 rfl (sx 10 rfl (sx 11 rfl (sx 12 rfl (sx 13 rfl (sx 14 rfl (sx 35 rfl (sx 41 rfl (sx 73 rfl (sx 79 rfl (sub_nil _))))))))))))))))))) (.refl _) ?_
     refine hl_nil ?_
     refine hq_then ?_
     refine hc_seq ?_
     refine hc_seq ?_
     refine hc_region ?_
     refine hl_v rfl rfl rfl (rv_ev rfl) ?_
     refine hl_less (sx 0 rfl (sx 1 rfl (sx 2 rfl (sx 4 rfl (sx 5 rfl (sx 6 rfl (sx 7 rfl (sx 8 rfl (sx 9 rfl (sx 10 rfl (sx 11 rfl (sx 12 rfl (sx 13 rfl (sx 14 rfl (sx 15 rfl (sx 35 rfl (sx 41 rfl (sx 73 rfl (sx 79 rfl (sub_nil _)))))))))))))))))))) (.refl _) ?_
     refine hl_nil ?_
     refine hq_then ?_
     refine hc_block ?_
     refine hc_loop2 (α := Nat) (β := Int) (fun j q => [rowE 3 1 u2 zs.length (zs.map (Value.int .i64)), bigE (es.map irPart), rowE 24 1 u es.length (es.flatMap irC), rowE 3 1 v5 ((valT x.n x.bs x.ni).length) ((valT x.n x.bs x.ni).map (Value.int .i64)), rowE 3 1 v2 ((valT x.n x.ao x.oi).length) ((valT x.n x.ao x.oi).map (Value.int .i64)), boxE b1 #[.int .i64 x.n.ins, x.n.sv, x.n.lv, x.n.ov, x.pv, x.qv, x.kv, x.av, x.bv, .int .i64 x.oi, .int .i64 x.ni] 40]) (fun j q => [(0, .agg #[.int .i64 x.n.ins, x.n.sv, x.n.lv, x.n.ov, x.pv, x.qv, x.kv, x.av, x.bv, .int .i64 x.oi, .int .i64 x.ni]), (1, .int .i64 a), (2, .pointer (some ⟨b1, 0, none⟩)), (4, .slice none 0 0), (5, v2), (6, v5), (7, u), (8, .int .i64 (m : Int)), (9, u2), (10, .int .i64 (t : Int)), (11, .int .i64 ((valT x.n x.bs x.ni).getD m 0)), (12, .int .i64 (((m : Int) - 1) - x.n.ins)), (13, .int .i64 (i : Int)), (14, .int .i64 q), (15, .int .i64 (j : Int)), (35, .bool true), (41, .bool true), (73, .bool false), (79, .bool true)]) (fun j q => j ≤ (x.n.ls.getD i lt0).xs.length ∧ q = pk (lin x (wvsL x a.toNat m) i (t : Int)) j) (fun j q => (x.n.ls.getD i lt0).xs.length - j) 0 0 ⟨Nat.zero_le _, rfl⟩ (sx 0 rfl (sx 1 rfl (sx 2 rfl (sx 4 rfl (sx 5 rfl (sx 6 rfl (sx 7 rfl (sx 8 rfl (sx 9 rfl (sx 10 rfl (sx 11 rfl (sx 12 rfl (sx 13 rfl (sx 14 rfl (sx 15 rfl (sx 35 rfl (sx 41 rfl (sx 73 rfl (sx 79 rfl (sub_nil _)))))))))))))))))))) ((.cons_cons _ (.cons_cons _ (.cons_cons _ (.cons_cons _ (.cons_cons _ (.cons_cons _ .slnil))))))) ?_
     intro j q hi39
     obtain ⟨hj, hq⟩ := hi39
     refine hc_seq ?_
     refine hc_seq ?_
     refine hc_region ?_
     refine hl_v rfl rfl rfl (rv_ev rfl) ?_
     refine hl_v rfl rfl rfl (rv_field (k0 := 0) rfl (by kernel_rfl) rfl) ?_
     refine hl_v rfl rfl rfl (rv_field (k0 := 2) rfl (by kernel_rfl) rfl) ?_
     refine hl_v rfl rfl rfl (rv_load rfl (by kernel_rfl) rfl (box_cell 5 rfl rfl)) ?_
     refine hl_v rfl rfl rfl (rv_ev rfl) ?_
     refine hl_v rfl rfl rfl (rv_index (s := 2) rfl Try.underlying35 (by kernel_rfl) rfl rfl (rd_old ((hr).n.lt.row)) (by omega) (by first | omega | (simp only [List.length_set]; omega))) ?_
     refine hl_v rfl rfl rfl (rv_fieldEl (k0 := 0) rfl (by kernel_rfl) rfl (rd_old ((hr).n.lt.row)) (by first | omega | (simp only [List.length_set]; omega))) ?_
     refine hl_v rfl rfl rfl (rv_loadEl (u := (x.n.ls.getD i lt0).iv) rfl (by kernel_rfl) rfl (rd_old ((hr).n.lt.row)) ((flat_at ltC 2 (fun _ => rfl) x.n.ls lt0 (show i < _ by first | omega | (simp only [List.length_set]; omega)) (by decide)).trans rfl)) ?_
     refine hl_v rfl rfl rfl (rv_len rfl Try.underlying24 rfl (rd_old ((hr).n.lt.at (d := lt0) (k := i) (by omega)))) ?_
     refine hl_lss rfl rfl rfl rfl rfl rfl (fun h40 => ?_) (fun h40 => ?_)
     ·
      refine hl_less (sx 0 rfl (sx 1 rfl (sx 2 rfl (sx 4 rfl (sx 5 rfl (sx 6 rfl (sx 7 rfl (sx 8 rfl (sx 9 rfl (sx 10 rfl (sx 11 rfl (sx 12 rfl (sx 13 rfl (sx 14 rfl (sx 15 rfl (sx 35 rfl (sx 41 rfl (sx 73 rfl (sx 79 rfl (sx 89 rfl (sub_nil _))))))))))))))))))))) (.refl _) ?_
      refine hl_nil ?_
      refine hq_then ?_
      refine hc_true rfl ?_
      refine hc_skip ?_
      refine hq_then ?_
      refine hc_seq ?_
      refine hc_block ?_
      refine hc_seq ?_
      refine hc_region ?_
      refine hl_v rfl rfl rfl (rv_field (k0 := 0) rfl (by kernel_rfl) rfl) ?_
      refine hl_v rfl rfl rfl (rv_field (k0 := 2) rfl (by kernel_rfl) rfl) ?_
      refine hl_v rfl rfl rfl (rv_load rfl (by kernel_rfl) rfl (box_cell 5 rfl rfl)) ?_
      refine hl_v rfl rfl rfl (rv_ev rfl) ?_
      refine hl_v rfl rfl rfl (rv_index (s := 2) rfl Try.underlying35 (by kernel_rfl) rfl rfl (rd_old ((hr).n.lt.row)) (by omega) (by first | omega | (simp only [List.length_set]; omega))) ?_
      refine hl_v rfl rfl rfl (rv_fieldEl (k0 := 0) rfl (by kernel_rfl) rfl (rd_old ((hr).n.lt.row)) (by first | omega | (simp only [List.length_set]; omega))) ?_
      refine hl_v rfl rfl rfl (rv_loadEl (u := (x.n.ls.getD i lt0).iv) rfl (by kernel_rfl) rfl (rd_old ((hr).n.lt.row)) ((flat_at ltC 2 (fun _ => rfl) x.n.ls lt0 (show i < _ by first | omega | (simp only [List.length_set]; omega)) (by decide)).trans rfl)) ?_
      refine hl_v rfl rfl rfl (rv_ev rfl) ?_
      refine hl_v rfl rfl rfl (rv_index (s := 1) rfl Try.underlying24 (by kernel_rfl) rfl rfl (rd_old ((hr).n.lt.at (d := lt0) (k := i) (by omega))) (by omega) (by first | omega | (simp only [List.length_set]; omega))) ?_
      refine hl_v rfl rfl rfl (rv_loadEl (u := .int .i64 (((x.n.ls.getD i lt0).xs).getD j 0)) rfl (by kernel_rfl) rfl (rd_old ((hr).n.lt.at (d := lt0) (k := i) (by omega))) (ints_at1 (show _ < ((x.n.ls.getD i lt0).xs).length by first | omega | (simp only [List.length_set]; omega)))) ?_
      refine hl_v rfl rfl rfl (rv_ev rfl) ?_
      refine hl_less (sx 0 rfl (sx 1 rfl (sx 2 rfl (sx 4 rfl (sx 5 rfl (sx 6 rfl (sx 7 rfl (sx 8 rfl (sx 9 rfl (sx 10 rfl (sx 11 rfl (sx 12 rfl (sx 13 rfl (sx 14 rfl (sx 15 rfl (sx 16 rfl (sx 35 rfl (sx 41 rfl (sx 73 rfl (sx 79 rfl (sx 89 rfl (sub_nil _)))))))))))))))))))))) (.refl _) ?_
      refine hl_nil ?_
      refine hq_then ?_
      have hns := hlt9.1.2 j (by omega)
      have hdj := (hok.dl i hil).2 j (by omega)
      have hbk : (lin x (wvsL x a.toNat m) i (t : Int)) j = 0 ∨ (lin x (wvsL x a.toNat m) i (t : Int)) j = 1 := lin01 hok (by omega) hmi (by omega) j (by omega)
      have hal : ∀ z, z < j → (lin x (wvsL x a.toNat m) i (t : Int)) z = 0 ∨ (lin x (wvsL x a.toNat m) i (t : Int)) z = 1 := fun z hz => lin01 hok (by omega) hmi (by omega) z (by omega)
      have hpr := pk16 (b := (lin x (wvsL x a.toNat m) i (t : Int))) (k := j) hal (by omega)
      have hpw := pow4 (k := j) (by omega)
      have hpw0 : (0 : Int) < 2 ^ j := Int.pow_pos (by decide)
      refine hc_draw (by kernel_rfl) 24 [0, 1, 2, 3, 4, 5, 6, 7, 8, 9, 10, 11, 12, 13, 14, 15, 16, 17, 18, 19, 20, 21, 22, 23] (List.take 24 _) (List.drop 24 _) [[], [], [], [1, 2], [3], [], [], [5, 6], [7], [], [], [10], [11], [], [12, 13], [14], [], [15, 16], [17], [9, 18], [4, 8, 19], [], [20, 21], [0, 22]] [102, 103, 104, 105, 106, 107, 108, 109, 110, 111, 112, 113, 114, 115, 116, 117, 118, 119, 120, 121, 122, 123, 124, 125] (fun i_ vs_ v_ p_ => match i_ with | 0 => v_ = .int .i64 q ∧ p_ = [] | 1 => v_ = u ∧ p_ = [] | 2 => v_ = .int .i64 (((x.n.ls.getD i lt0).xs).getD j 0) ∧ p_ = [] | 3 => v_ = elP u ((((x.n.ls.getD i lt0).xs).getD j 0).toNat * 1) ∧ p_ = [] | 4 => v_ = (es.getD ((((x.n.ls.getD i lt0).xs).getD j 0).toNat) ir0).v ∧ p_ = [] | 5 => v_ = v2 ∧ p_ = [] | 6 => v_ = .int .i64 (((x.n.ls.getD i lt0).xs).getD j 0) ∧ p_ = [] | 7 => v_ = elP v2 ((((x.n.ls.getD i lt0).xs).getD j 0).toNat * 1) ∧ p_ = [] | 8 => v_ = .int .i64 ((valT x.n x.ao x.oi).getD ((((x.n.ls.getD i lt0).xs).getD j 0).toNat) 0) ∧ p_ = [] | 9 => v_ = .int .i64 (t : Int) ∧ p_ = [] | 10 => v_ = .pointer (some ⟨b1, 0 + 4, none⟩) ∧ p_ = [] | 11 => v_ = .pointer (some ⟨b1, 0 + 4 + 0, none⟩) ∧ p_ = [] | 12 => v_ = x.pv ∧ p_ = [] | 13 => v_ = .int .i64 (i : Int) ∧ p_ = [] | 14 => v_ = elP x.pv (((i : Int)).toNat * 1) ∧ p_ = [] | 15 => v_ = (x.dl.getD i ir0).v ∧ p_ = [] | 16 => v_ = .int .i64 (j : Int) ∧ p_ = [] | 17 => v_ = elP ((x.dl.getD i ir0).v) (((j : Int)).toNat * 1) ∧ p_ = [] | 18 => v_ = .int .i64 (((x.dl.getD i ir0).xs).getD j 0) ∧ p_ = [] | 19 => v_ = .int .i64 ((t : Int) - (((x.dl.getD i ir0).xs).getD j 0)) ∧ p_ = [] | 20 => v_ = .int .i64 ((lin x (wvsL x a.toNat m) i (t : Int)) j) ∧ p_ = [] | 21 => v_ = .int .i64 (j : Int) ∧ p_ = [] | 22 => v_ = .int .i64 ((lin x (wvsL x a.toNat m) i (t : Int)) j * 2 ^ j) ∧ p_ = [] | 23 => v_ = .int .i64 (q + ((lin x (wvsL x a.toNat m) i (t : Int)) j * 2 ^ j)) ∧ p_ = [] | _ => True) (List.take_append_drop 24 _).symm (by kernel_rfl) (by kernel_rfl) rfl rfl ?_ ?_
      ·
       refine ⟨?_, ?_, ?_, ?_, ?_, ?_, ?_, ?_, ?_, ?_, ?_, ?_, ?_, ?_, ?_, ?_, ?_, ?_, ?_, ?_, ?_, ?_, ?_, ?_, trivial⟩
       ·
        intro vf pf hR
        refine Or.inl ⟨rfl, ?_⟩
        refine rq_less (sx 14 rfl (sub_nil _)) (List.sublist_append_right _ _) ?_
        exact rq_v (rv_ev rfl)
       ·
        intro vf pf hR
        refine Or.inl ⟨rfl, ?_⟩
        refine rq_less (sx 7 rfl (sub_nil _)) (List.sublist_append_right _ _) ?_
        exact rq_v (rv_ev rfl)
       ·
        intro vf pf hR
        refine Or.inl ⟨rfl, ?_⟩
        refine rq_less (sx 16 rfl (sub_nil _)) (List.sublist_append_right _ _) ?_
        exact rq_v (rv_ev rfl)
       ·
        intro vf pf hR
        have e1 : (vf 1) = u ∧ (pf 1) = [] := hR 1 (by decide)
        have e2 : (vf 2) = .int .i64 (((x.n.ls.getD i lt0).xs).getD j 0) ∧ (pf 2) = [] := hR 2 (by decide)
        refine Or.inl ⟨rfl, ?_⟩
        refine rq_less (sx 103 (congrArg some e1.1) (sx 104 (congrArg some e2.1) (sub_nil _))) (List.sublist_append_right _ _) ?_
        exact rq_v (rv_index (s := 1) rfl Try.underlying27 (by kernel_rfl) rfl rfl (rd_row 2 rfl) (by omega) (by first | omega | (simp only [List.length_set]; omega)))
       ·
        intro vf pf hR
        have e3 : (vf 3) = elP u ((((x.n.ls.getD i lt0).xs).getD j 0).toNat * 1) ∧ (pf 3) = [] := hR 3 (by decide)
        refine Or.inl ⟨rfl, ?_⟩
        refine rq_less (sx 105 (congrArg some e3.1) (sub_nil _)) (List.sublist_append_right _ _) ?_
        exact rq_v (rv_loadEl (u := (es.getD ((((x.n.ls.getD i lt0).xs).getD j 0).toNat) ir0).v) rfl (by kernel_rfl) rfl (rd_row 2 rfl) (flat_one irC (fun r => r.v) (fun _ => rfl) es ir0 (show (((x.n.ls.getD i lt0).xs).getD j 0).toNat < _ by first | omega | (simp only [List.length_set]; omega))))
       ·
        intro vf pf hR
        refine Or.inl ⟨rfl, ?_⟩
        refine rq_less (sx 5 rfl (sub_nil _)) (List.sublist_append_right _ _) ?_
        exact rq_v (rv_ev rfl)
       ·
        intro vf pf hR
        refine Or.inl ⟨rfl, ?_⟩
        refine rq_less (sx 16 rfl (sub_nil _)) (List.sublist_append_right _ _) ?_
        exact rq_v (rv_ev rfl)
       ·
        intro vf pf hR
        have e5 : (vf 5) = v2 ∧ (pf 5) = [] := hR 5 (by decide)
        have e6 : (vf 6) = .int .i64 (((x.n.ls.getD i lt0).xs).getD j 0) ∧ (pf 6) = [] := hR 6 (by decide)
        refine Or.inl ⟨rfl, ?_⟩
        refine rq_less (sx 107 (congrArg some e5.1) (sx 108 (congrArg some e6.1) (sub_nil _))) (List.sublist_append_right _ _) ?_
        exact rq_v (rv_index (s := 1) rfl Try.underlying24 (by kernel_rfl) rfl rfl (rd_row 4 rfl) (by omega) (by first | omega | (simp only [List.length_set]; omega)))
       ·
        intro vf pf hR
        have e7 : (vf 7) = elP v2 ((((x.n.ls.getD i lt0).xs).getD j 0).toNat * 1) ∧ (pf 7) = [] := hR 7 (by decide)
        refine Or.inl ⟨rfl, ?_⟩
        refine rq_less (sx 109 (congrArg some e7.1) (sub_nil _)) (List.sublist_append_right _ _) ?_
        exact rq_v (rv_loadEl (u := .int .i64 ((valT x.n x.ao x.oi).getD ((((x.n.ls.getD i lt0).xs).getD j 0).toNat) 0)) rfl (by kernel_rfl) rfl (rd_row 4 rfl) (ints_at1 (show _ < (valT x.n x.ao x.oi).length by first | omega | (simp only [List.length_set]; omega))))
       ·
        intro vf pf hR
        refine Or.inl ⟨rfl, ?_⟩
        refine rq_less (sx 10 rfl (sub_nil _)) (List.sublist_append_right _ _) ?_
        exact rq_v (rv_ev rfl)
       ·
        intro vf pf hR
        refine Or.inl ⟨rfl, ?_⟩
        refine rq_less (sx 2 rfl (sub_nil _)) (List.sublist_append_right _ _) ?_
        exact rq_v (rv_field (k0 := 4) rfl (by kernel_rfl) rfl)
       ·
        intro vf pf hR
        have e10 : (vf 10) = .pointer (some ⟨b1, 0 + 4, none⟩) ∧ (pf 10) = [] := hR 10 (by decide)
        refine Or.inl ⟨rfl, ?_⟩
        refine rq_less (sx 112 (congrArg some e10.1) (sub_nil _)) (List.sublist_append_right _ _) ?_
        exact rq_v (rv_field (k0 := 0) rfl (by kernel_rfl) rfl)
       ·
        intro vf pf hR
        have e11 : (vf 11) = .pointer (some ⟨b1, 0 + 4 + 0, none⟩) ∧ (pf 11) = [] := hR 11 (by decide)
        refine Or.inl ⟨rfl, ?_⟩
        refine rq_less (sx 113 (congrArg some e11.1) (sub_nil _)) (List.sublist_append_right _ _) ?_
        exact rq_v (rv_load rfl (by kernel_rfl) rfl (box_cell 5 rfl rfl))
       ·
        intro vf pf hR
        refine Or.inl ⟨rfl, ?_⟩
        refine rq_less (sx 13 rfl (sub_nil _)) (List.sublist_append_right _ _) ?_
        exact rq_v (rv_ev rfl)
       ·
        intro vf pf hR
        have e12 : (vf 12) = x.pv ∧ (pf 12) = [] := hR 12 (by decide)
        have e13 : (vf 13) = .int .i64 (i : Int) ∧ (pf 13) = [] := hR 13 (by decide)
        refine Or.inl ⟨rfl, ?_⟩
        refine rq_less (sx 114 (congrArg some e12.1) (sx 115 (congrArg some e13.1) (sub_nil _))) (List.sublist_append_right _ _) ?_
        exact rq_v (rv_index (s := 1) rfl Try.underlying27 (by kernel_rfl) rfl rfl (rd_old ((hr).dl.row)) (by omega) (by first | omega | (simp only [List.length_set]; omega)))
       ·
        intro vf pf hR
        have e14 : (vf 14) = elP x.pv (((i : Int)).toNat * 1) ∧ (pf 14) = [] := hR 14 (by decide)
        refine Or.inl ⟨rfl, ?_⟩
        refine rq_less (sx 116 (congrArg some e14.1) (sub_nil _)) (List.sublist_append_right _ _) ?_
        exact rq_v (rv_loadEl (u := (x.dl.getD i ir0).v) rfl (by kernel_rfl) rfl (rd_old ((hr).dl.row)) (flat_one irC (fun r => r.v) (fun _ => rfl) x.dl ir0 (show i < _ by first | omega | (simp only [List.length_set]; omega))))
       ·
        intro vf pf hR
        refine Or.inl ⟨rfl, ?_⟩
        refine rq_less (sx 15 rfl (sub_nil _)) (List.sublist_append_right _ _) ?_
        exact rq_v (rv_ev rfl)
       ·
        intro vf pf hR
        have e15 : (vf 15) = (x.dl.getD i ir0).v ∧ (pf 15) = [] := hR 15 (by decide)
        have e16 : (vf 16) = .int .i64 (j : Int) ∧ (pf 16) = [] := hR 16 (by decide)
        refine Or.inl ⟨rfl, ?_⟩
        refine rq_less (sx 117 (congrArg some e15.1) (sx 118 (congrArg some e16.1) (sub_nil _))) (List.sublist_append_right _ _) ?_
        exact rq_v (rv_index (s := 1) rfl Try.underlying24 (by kernel_rfl) rfl rfl (rd_old ((hr).dl.at (d := ir0) (k := i) (by omega))) (by omega) (by first | omega | (simp only [List.length_set]; omega)))
       ·
        intro vf pf hR
        have e17 : (vf 17) = elP ((x.dl.getD i ir0).v) (((j : Int)).toNat * 1) ∧ (pf 17) = [] := hR 17 (by decide)
        refine Or.inl ⟨rfl, ?_⟩
        refine rq_less (sx 119 (congrArg some e17.1) (sub_nil _)) (List.sublist_append_right _ _) ?_
        exact rq_v (rv_loadEl (u := .int .i64 (((x.dl.getD i ir0).xs).getD j 0)) rfl (by kernel_rfl) rfl (rd_old ((hr).dl.at (d := ir0) (k := i) (by omega))) (ints_at1 (show _ < ((x.dl.getD i ir0).xs).length by first | omega | (simp only [List.length_set]; omega))))
       ·
        intro vf pf hR
        have e9 : (vf 9) = .int .i64 (t : Int) ∧ (pf 9) = [] := hR 9 (by decide)
        have e18 : (vf 18) = .int .i64 (((x.dl.getD i ir0).xs).getD j 0) ∧ (pf 18) = [] := hR 18 (by decide)
        refine Or.inl ⟨rfl, ?_⟩
        refine rq_less (sx 111 (congrArg some e9.1) (sx 120 (congrArg some e18.1) (sub_nil _))) (List.sublist_append_right _ _) ?_
        exact rq_v (rv_sub rfl rfl rfl (by constructor <;> omega))
       ·
        intro vf pf hR
        have e4 : (vf 4) = (es.getD ((((x.n.ls.getD i lt0).xs).getD j 0).toNat) ir0).v ∧ (pf 4) = [] := hR 4 (by decide)
        have e8 : (vf 8) = .int .i64 ((valT x.n x.ao x.oi).getD ((((x.n.ls.getD i lt0).xs).getD j 0).toNat) 0) ∧ (pf 8) = [] := hR 8 (by decide)
        have e19 : (vf 19) = .int .i64 ((t : Int) - (((x.dl.getD i ir0).xs).getD j 0)) ∧ (pf 19) = [] := hR 19 (by decide)
        refine Or.inl ⟨rfl, ?_⟩
        refine rq_less (sx 106 (congrArg some e4.1) (sx 110 (congrArg some e8.1) (sx 121 (congrArg some e19.1) (sub_nil _)))) (List.sublist_append_right _ _) ?_
        exact (rq_call (by kernel_rfl) rfl (fun w hm => ret_ans (l37At_lin w (rdsIr_sep hm 1 2 rfl rfl) hw rfl rfl rfl (by omega) (by omega))))
       ·
        intro vf pf hR
        refine Or.inl ⟨rfl, ?_⟩
        refine rq_less (sx 15 rfl (sub_nil _)) (List.sublist_append_right _ _) ?_
        exact rq_v (rv_ev rfl)
       ·
        intro vf pf hR
        have e20 : (vf 20) = .int .i64 ((lin x (wvsL x a.toNat m) i (t : Int)) j) ∧ (pf 20) = [] := hR 20 (by decide)
        have e21 : (vf 21) = .int .i64 (j : Int) ∧ (pf 21) = [] := hR 21 (by decide)
        refine Or.inl ⟨rfl, ?_⟩
        refine rq_less (sx 122 (congrArg some e20.1) (sx 123 (congrArg some e21.1) (sub_nil _))) (List.sublist_append_right _ _) ?_
        exact rq_v (rv_shlG (k := .i64) (kk := .i64) (r := (lin x (wvsL x a.toNat m) i (t : Int)) j * 2 ^ j) rfl rfl rfl rfl (by omega) (shl_pk hbk (by omega)))
       ·
        intro vf pf hR
        have e0 : (vf 0) = .int .i64 q ∧ (pf 0) = [] := hR 0 (by decide)
        have e22 : (vf 22) = .int .i64 ((lin x (wvsL x a.toNat m) i (t : Int)) j * 2 ^ j) ∧ (pf 22) = [] := hR 22 (by decide)
        refine Or.inl ⟨rfl, ?_⟩
        refine rq_less (sx 102 (congrArg some e0.1) (sx 124 (congrArg some e22.1) (sub_nil _))) (List.sublist_append_right _ _) ?_
        exact rq_v (rv_add rfl rfl rfl (by rw [hq]; constructor <;> (rcases hbk with e | e <;> rw [e] <;> omega)))
      ·
       intro vf pf hR
       have e23 : (vf 23) = .int .i64 (q + ((lin x (wvsL x a.toNat m) i (t : Int)) j * 2 ^ j)) ∧ (pf 23) = [] := hR 23 (by decide)
       refine hl_less (l' := [rowE 3 1 u2 zs.length (zs.map (Value.int .i64)), bigE (es.map irPart), rowE 24 1 u es.length (es.flatMap irC), rowE 3 1 v5 ((valT x.n x.bs x.ni).length) ((valT x.n x.bs x.ni).map (Value.int .i64)), rowE 3 1 v2 ((valT x.n x.ao x.oi).length) ((valT x.n x.ao x.oi).map (Value.int .i64)), boxE b1 #[.int .i64 x.n.ins, x.n.sv, x.n.lv, x.n.ov, x.pv, x.qv, x.kv, x.av, x.bv, .int .i64 x.oi, .int .i64 x.ni] 40]) (sx 0 rfl (sx 1 rfl (sx 2 rfl (sx 4 rfl (sx 5 rfl (sx 6 rfl (sx 7 rfl (sx 8 rfl (sx 9 rfl (sx 10 rfl (sx 11 rfl (sx 12 rfl (sx 13 rfl (sx 14 rfl (sx 15 rfl (sx 16 rfl (sx 35 rfl (sx 41 rfl (sx 73 rfl (sx 79 rfl (sx 89 rfl (sx 125 (congrArg some e23.1) (sub_nil _))))))))))))))))))))))) (List.sublist_append_right _ _) ?_
       simp only [List.drop_succ_cons, List.drop_zero]
       refine hl_v rfl rfl rfl (rv_ev rfl) ?_
       refine hl_less (sx 0 rfl (sx 1 rfl (sx 2 rfl (sx 4 rfl (sx 5 rfl (sx 6 rfl (sx 7 rfl (sx 8 rfl (sx 9 rfl (sx 10 rfl (sx 11 rfl (sx 12 rfl (sx 13 rfl (sx 14 rfl (sx 15 rfl (sx 16 rfl (sx 35 rfl (sx 41 rfl (sx 73 rfl (sx 79 rfl (sx 89 rfl (sub_nil _)))))))))))))))))))))) (.refl _) ?_
       refine hl_nil ?_
       refine hq_block_normal ?_
       refine hq_then ?_
       refine hc_region ?_
       refine hl_v rfl rfl rfl (rv_ev rfl) ?_
       refine hl_v rfl rfl rfl (rv_add rfl rfl rfl (by constructor <;> omega)) ?_
       refine hl_v rfl rfl rfl (rv_ev rfl) ?_
       refine hl_less (sx 0 rfl (sx 1 rfl (sx 2 rfl (sx 4 rfl (sx 5 rfl (sx 6 rfl (sx 7 rfl (sx 8 rfl (sx 9 rfl (sx 10 rfl (sx 11 rfl (sx 12 rfl (sx 13 rfl (sx 14 rfl (sx 15 rfl (sx 16 rfl (sx 35 rfl (sx 41 rfl (sx 73 rfl (sx 79 rfl (sx 89 rfl (sub_nil _)))))))))))))))))))))) (.refl _) ?_
       refine hl_nil ?_
       exact hq_round2 (j + 1) _ ⟨by omega, by first | rfl | (rw [hq]; rfl)⟩ (by omega) (sx 0 rfl (sx 1 rfl (sx 2 rfl (sx 4 rfl (sx 5 rfl (sx 6 rfl (sx 7 rfl (sx 8 rfl (sx 9 rfl (sx 10 rfl (sx 11 rfl (sx 12 rfl (sx 13 rfl (sx 14 rfl (sx 15 rfl (sx 35 rfl (sx 41 rfl (sx 73 rfl (sx 79 rfl (sub_nil _)))))))))))))))))))) ((.cons_cons _ (.cons_cons _ (.cons_cons _ (.cons_cons _ (.cons_cons _ (.cons_cons _ .slnil)))))))
     ·
      refine hl_less (sx 0 rfl (sx 1 rfl (sx 2 rfl (sx 4 rfl (sx 5 rfl (sx 6 rfl (sx 7 rfl (sx 8 rfl (sx 9 rfl (sx 10 rfl (sx 11 rfl (sx 12 rfl (sx 13 rfl (sx 14 rfl (sx 15 rfl (sx 35 rfl (sx 41 rfl (sx 73 rfl (sx 79 rfl (sx 89 rfl (sub_nil _))))))))))))))))))))) (.refl _) ?_
      refine hl_nil ?_
      refine hq_then ?_
      refine hc_false rfl ?_
      refine hc_exit ?_
      refine hq_then_exit ?_
      refine hq_then_exit ?_
      refine hq_block_exit ?_
      refine hq_then ?_
      refine hc_region ?_
      have hal : ∀ z, z < j → (lin x (wvsL x a.toNat m) i (t : Int)) z = 0 ∨ (lin x (wvsL x a.toNat m) i (t : Int)) z = 1 := fun z hz => lin01 hok (by omega) hmi (by omega) z (by omega)
      have hpr := pk16 (b := (lin x (wvsL x a.toNat m) i (t : Int))) (k := j) hal (by omega)
      refine hl_v rfl rfl rfl (rv_field (k0 := 0) rfl (by kernel_rfl) rfl) ?_
      refine hl_v rfl rfl rfl (rv_field (k0 := 2) rfl (by kernel_rfl) rfl) ?_
      refine hl_v rfl rfl rfl (rv_load rfl (by kernel_rfl) rfl (box_cell 5 rfl rfl)) ?_
      refine hl_v rfl rfl rfl (rv_ev rfl) ?_
      refine hl_v rfl rfl rfl (rv_index (s := 2) rfl Try.underlying35 (by kernel_rfl) rfl rfl (rd_old ((hr).n.lt.row)) (by omega) (by first | omega | (simp only [List.length_set]; omega))) ?_
      refine hl_v rfl rfl rfl (rv_fieldEl (k0 := 1) rfl (by kernel_rfl) rfl (rd_old ((hr).n.lt.row)) (by first | omega | (simp only [List.length_set]; omega))) ?_
      refine hl_v rfl rfl rfl (rv_loadEl (u := .int .i64 ((x.n.ls.getD i lt0).ma)) rfl (by kernel_rfl) rfl (rd_old ((hr).n.lt.row)) ((flat_at ltC 2 (fun _ => rfl) x.n.ls lt0 (show i < _ by first | omega | (simp only [List.length_set]; omega)) (by decide)).trans rfl)) ?_
      refine hl_v rfl rfl rfl (rv_ev rfl) ?_
      refine hl_v rfl rfl rfl (rv_shr rfl rfl rfl (by omega)) ?_
      refine hl_v rfl rfl rfl (rv_bits rfl (by decide) rfl rfl (r := (((x.n.ls.getD i lt0).ma) / 2 ^ (q : Int).toNat) % 2) (andOne _)) ?_
      refine hl_v rfl rfl rfl (rv_ev rfl) ?_
      refine hl_less (sx 0 rfl (sx 1 rfl (sx 2 rfl (sx 4 rfl (sx 5 rfl (sx 6 rfl (sx 7 rfl (sx 8 rfl (sx 9 rfl (sx 10 rfl (sx 11 rfl (sx 12 rfl (sx 13 rfl (sx 14 rfl (sx 15 rfl (sx 35 rfl (sx 41 rfl (sx 73 rfl (sx 79 rfl (sx 89 rfl (sub_nil _))))))))))))))))))))) (.refl _) ?_
      refine hl_nil ?_
      refine hq_then ?_
      refine hc_region ?_
      refine hl_v rfl rfl rfl (rv_ev rfl) ?_
      refine hl_v rfl rfl rfl (rv_ev rfl) ?_
      refine hl_row rfl rfl rfl (rq_buildSlice (z := .int .i64 0) (s := 1) (cs := ([(((x.n.ls.getD i lt0).ma) / 2 ^ (q : Int).toNat) % 2].map (Value.int .i64))) rfl Try.underlying24 (by kernel_rfl) (by decide) rfl (by kernel_rfl) rfl) ?_
      intro g41
      refine hl_append (i := 1) (z := .int .i64 0) (bytes := 8) (n' := (zs ++ ([(((x.n.ls.getD i lt0).ma) / 2 ^ (q : Int).toNat) % 2])).length) (xs' := ((zs ++ ([(((x.n.ls.getD i lt0).ma) / 2 ^ (q : Int).toNat) % 2])).map (Value.int .i64))) (L := fun v42 => [rowE 3 1 (.slice (some ⟨g41, 0, none⟩) 1 1) 1 ([(((x.n.ls.getD i lt0).ma) / 2 ^ (q : Int).toNat) % 2].map (Value.int .i64)), rowE 3 1 v42 ((zs ++ ([(((x.n.ls.getD i lt0).ma) / 2 ^ (q : Int).toNat) % 2])).length) ((zs ++ ([(((x.n.ls.getD i lt0).ma) / 2 ^ (q : Int).toNat) % 2])).map (Value.int .i64)), bigE (es.map irPart), rowE 24 1 u es.length (es.flatMap irC), rowE 3 1 v5 ((valT x.n x.bs x.ni).length) ((valT x.n x.bs x.ni).map (Value.int .i64)), rowE 3 1 v2 ((valT x.n x.ao x.oi).length) ((valT x.n x.ao x.oi).map (Value.int .i64)), boxE b1 #[.int .i64 x.n.ins, x.n.sv, x.n.lv, x.n.ov, x.pv, x.qv, x.kv, x.av, x.bv, .int .i64 x.oi, .int .i64 x.ni] 40]) rfl rfl rfl rfl Try.underlying24 (by kernel_rfl) (by kernel_rfl) rfl rfl rfl (rd_row 0 rfl) (ints_one _) (by first | omega | (simp; omega)) (len_app zs ([(((x.n.ls.getD i lt0).ma) / 2 ^ (q : Int).toNat) % 2])) (ints_app zs ([(((x.n.ls.getD i lt0).ma) / 2 ^ (q : Int).toNat) % 2])) (fun _ => rfl) ?_
      intro v42
      refine hl_v rfl rfl rfl (rv_ev rfl) ?_
      refine hl_less (sx 0 rfl (sx 1 rfl (sx 2 rfl (sx 4 rfl (sx 5 rfl (sx 6 rfl (sx 7 rfl (sx 8 rfl (sx 9 rfl (sx 10 rfl (sx 11 rfl (sx 12 rfl (sx 13 rfl (sx 14 rfl (sx 15 rfl (sx 35 rfl (sx 41 rfl (sx 73 rfl (sx 79 rfl (sx 89 rfl (sub_nil _))))))))))))))))))))) (.refl _) ?_
      refine hl_nil ?_
      refine hq_block_normal ?_
      refine hq_then ?_
      refine hc_region ?_
      refine hl_v rfl rfl rfl (rv_ev rfl) ?_
      refine hl_v rfl rfl rfl (rv_add rfl rfl rfl (by constructor <;> omega)) ?_
      refine hl_v rfl rfl rfl (rv_ev rfl) ?_
      refine hl_less (sx 0 rfl (sx 1 rfl (sx 2 rfl (sx 4 rfl (sx 5 rfl (sx 6 rfl (sx 7 rfl (sx 8 rfl (sx 9 rfl (sx 10 rfl (sx 11 rfl (sx 12 rfl (sx 13 rfl (sx 14 rfl (sx 15 rfl (sx 35 rfl (sx 41 rfl (sx 73 rfl (sx 79 rfl (sx 89 rfl (sub_nil _))))))))))))))))))))) (.refl _) ?_
      refine hl_nil ?_
      have hv9 : (((x.n.ls.getD i lt0).ma) / 2 ^ (q : Int).toNat) % 2 = wvV x (wvsL x a.toNat m) m (t : Int) := by rw [wv_lut x _ _ hmi]; unfold lutV; rw [hq, show j = (x.n.ls.getD i lt0).xs.length by omega]
      exact hq_round3 (t + 1) v42 (zs ++ ([(((x.n.ls.getD i lt0).ma) / 2 ^ (q : Int).toNat) % 2])) ⟨by omega, by rw [hv9, hz]; exact rowW_succ _ _ _ _⟩ (by omega) (sx 0 rfl (sx 1 rfl (sx 2 rfl (sx 4 rfl (sx 5 rfl (sx 6 rfl (sx 7 rfl (sx 8 rfl (sx 9 rfl (sx 10 rfl (sx 35 rfl (sub_nil _)))))))))))) ((.cons _ (.cons_cons _ (.cons_cons _ (.cons_cons _ (.cons_cons _ (.cons_cons _ (.cons_cons _ .slnil))))))))
    ·
     refine hl_less (sx 0 rfl (sx 1 rfl (sx 2 rfl (sx 4 rfl (sx 5 rfl (sx 6 rfl (sx 7 rfl (sx 8 rfl (sx 9 rfl (sx 10 rfl (sx 11 rfl (sx 12 rfl (sx 13 rfl (sx 35 rfl (sx 41 rfl (sx 73 rfl (sx 79 rfl (sub_nil _)))))))))))))))))) (.refl _) ?_
     refine hl_nil ?_
     refine hq_then ?_
     refine hc_false rfl ?_
     refine hc_skip ?_
     refine hq_then ?_
     refine hc_region ?_
     refine hl_v rfl rfl rfl (rv_ev rfl) ?_
     refine hl_v rfl rfl rfl (rv_ev rfl) ?_
     refine hl_row rfl rfl rfl (rq_buildSlice (z := .int .i64 0) (s := 1) (cs := ([(valT x.n x.bs x.ni).getD m 0].map (Value.int .i64))) rfl Try.underlying24 (by kernel_rfl) (by decide) rfl (by kernel_rfl) rfl) ?_
     intro g43
     refine hl_append (i := 1) (z := .int .i64 0) (bytes := 8) (n' := (zs ++ ([(valT x.n x.bs x.ni).getD m 0])).length) (xs' := ((zs ++ ([(valT x.n x.bs x.ni).getD m 0])).map (Value.int .i64))) (L := fun v44 => [rowE 3 1 (.slice (some ⟨g43, 0, none⟩) 1 1) 1 ([(valT x.n x.bs x.ni).getD m 0].map (Value.int .i64)), rowE 3 1 v44 ((zs ++ ([(valT x.n x.bs x.ni).getD m 0])).length) ((zs ++ ([(valT x.n x.bs x.ni).getD m 0])).map (Value.int .i64)), bigE (es.map irPart), rowE 24 1 u es.length (es.flatMap irC), rowE 3 1 v5 ((valT x.n x.bs x.ni).length) ((valT x.n x.bs x.ni).map (Value.int .i64)), rowE 3 1 v2 ((valT x.n x.ao x.oi).length) ((valT x.n x.ao x.oi).map (Value.int .i64)), boxE b1 #[.int .i64 x.n.ins, x.n.sv, x.n.lv, x.n.ov, x.pv, x.qv, x.kv, x.av, x.bv, .int .i64 x.oi, .int .i64 x.ni] 40]) rfl rfl rfl rfl Try.underlying24 (by kernel_rfl) (by kernel_rfl) rfl rfl rfl (rd_row 0 rfl) (ints_one _) (by first | omega | (simp; omega)) (len_app zs ([(valT x.n x.bs x.ni).getD m 0])) (ints_app zs ([(valT x.n x.bs x.ni).getD m 0])) (fun _ => rfl) ?_
     intro v44
     refine hl_v rfl rfl rfl (rv_ev rfl) ?_
     refine hl_less (sx 0 rfl (sx 1 rfl (sx 2 rfl (sx 4 rfl (sx 5 rfl (sx 6 rfl (sx 7 rfl (sx 8 rfl (sx 9 rfl (sx 10 rfl (sx 11 rfl (sx 12 rfl (sx 13 rfl (sx 35 rfl (sx 41 rfl (sx 73 rfl (sx 79 rfl (sub_nil _)))))))))))))))))) (.refl _) ?_
     refine hl_nil ?_
     refine hq_block_normal ?_
     refine hq_then ?_
     refine hc_region ?_
     refine hl_v rfl rfl rfl (rv_ev rfl) ?_
     refine hl_v rfl rfl rfl (rv_add rfl rfl rfl (by constructor <;> omega)) ?_
     refine hl_v rfl rfl rfl (rv_ev rfl) ?_
     refine hl_less (sx 0 rfl (sx 1 rfl (sx 2 rfl (sx 4 rfl (sx 5 rfl (sx 6 rfl (sx 7 rfl (sx 8 rfl (sx 9 rfl (sx 10 rfl (sx 11 rfl (sx 12 rfl (sx 13 rfl (sx 35 rfl (sx 41 rfl (sx 73 rfl (sx 79 rfl (sub_nil _)))))))))))))))))) (.refl _) ?_
     refine hl_nil ?_
     have hv9 : (valT x.n x.bs x.ni).getD m 0 = wvV x (wvsL x a.toNat m) m (t : Int) := by unfold wvV; rw [if_pos (by omega), if_neg (by omega)]
     exact hq_round3 (t + 1) v44 (zs ++ ([(valT x.n x.bs x.ni).getD m 0])) ⟨by omega, by rw [hv9, hz]; exact rowW_succ _ _ _ _⟩ (by omega) (sx 0 rfl (sx 1 rfl (sx 2 rfl (sx 4 rfl (sx 5 rfl (sx 6 rfl (sx 7 rfl (sx 8 rfl (sx 9 rfl (sx 10 rfl (sx 35 rfl (sub_nil _)))))))))))) ((.cons _ (.cons_cons _ (.cons_cons _ (.cons_cons _ (.cons_cons _ (.cons_cons _ (.cons_cons _ .slnil))))))))
  ·
   refine hl_less (sx 0 rfl (sx 1 rfl (sx 2 rfl (sx 4 rfl (sx 5 rfl (sx 6 rfl (sx 7 rfl (sx 8 rfl (sx 9 rfl (sx 10 rfl (sx 35 rfl (sx 41 rfl (sub_nil _))))))))))))) (.refl _) ?_
   refine hl_nil ?_
   refine hq_then ?_
   refine hc_false rfl ?_
   refine hc_exit ?_
   refine hq_then_exit ?_
   refine hq_then_exit ?_
   refine hq_block_exit ?_
   refine hq_then ?_
   refine hc_region ?_
   refine hl_v rfl rfl rfl (rv_ev rfl) ?_
   refine hl_v rfl rfl rfl (rv_ev rfl) ?_
   refine hl_one (i := 0) rfl (fun honeX => ?_)
   refine hl_row rfl rfl rfl (rq_buildSlice1 rfl Try.underlying27 (by kernel_rfl) rfl honeX) ?_
   intro g45
   refine hl_append (i := 3) (z := .slice none 0 0) (bytes := 24) (n' := (es ++ [IR.mk u2 zs]).length) (xs' := ((es ++ [IR.mk u2 zs]).flatMap irC)) (L := fun v46 => [rowE 24 1 (.slice (some ⟨g45, 0, none⟩) 1 1) 1 ([u2]), rowE 3 1 u2 zs.length (zs.map (Value.int .i64)), bigE (es.map irPart), rowE 24 1 v46 ((es ++ [IR.mk u2 zs]).length) ((es ++ [IR.mk u2 zs]).flatMap irC), rowE 3 1 v5 ((valT x.n x.bs x.ni).length) ((valT x.n x.bs x.ni).map (Value.int .i64)), rowE 3 1 v2 ((valT x.n x.ao x.oi).length) ((valT x.n x.ao x.oi).map (Value.int .i64)), boxE b1 #[.int .i64 x.n.ins, x.n.sv, x.n.lv, x.n.ov, x.pv, x.qv, x.kv, x.av, x.bv, .int .i64 x.oi, .int .i64 x.ni] 40]) rfl rfl rfl rfl Try.underlying27 (by kernel_rfl) (by kernel_rfl) rfl rfl rfl (rd_row 0 rfl) (all_cons honeX all_nil) (by first | omega | (simp only [List.length_append, List.length_cons, List.length_nil]; omega)) (len_app es [IR.mk u2 zs]) (flat_app1 irC es (IR.mk u2 zs) _ rfl) (fun _ => rfl) ?_
   intro v46
   refine hl_v rfl rfl rfl (rv_ev rfl) ?_
   refine hl_less (sx 0 rfl (sx 1 rfl (sx 2 rfl (sx 4 rfl (sx 5 rfl (sx 6 rfl (sx 7 rfl (sx 8 rfl (sx 9 rfl (sx 10 rfl (sx 35 rfl (sx 41 rfl (sub_nil _))))))))))))) (.refl _) ?_
   refine hl_nil ?_
   refine hq_block_normal ?_
   refine hq_then ?_
   refine hc_region ?_
   refine hl_v rfl rfl rfl (rv_ev rfl) ?_
   refine hl_v rfl rfl rfl (rv_add rfl rfl rfl (by constructor <;> omega)) ?_
   refine hl_v rfl rfl rfl (rv_ev rfl) ?_
   refine hl_less (sx 0 rfl (sx 1 rfl (sx 2 rfl (sx 4 rfl (sx 5 rfl (sx 6 rfl (sx 7 rfl (sx 8 rfl (sx 9 rfl (sx 10 rfl (sx 35 rfl (sx 41 rfl (sub_nil _))))))))))))) (.refl _) ?_
   refine hl_nil ?_
   refine hq_conv [rowE 3 1 u2 zs.length (zs.map (Value.int .i64)), bigE (es.map irPart), rowE 24 1 (.slice (some ⟨g45, 0, none⟩) 1 1) 1 ([u2]), rowE 24 1 v46 ((es ++ [IR.mk u2 zs]).length) ((es ++ [IR.mk u2 zs]).flatMap irC), rowE 3 1 v5 ((valT x.n x.bs x.ni).length) ((valT x.n x.bs x.ni).map (Value.int .i64)), rowE 3 1 v2 ((valT x.n x.ao x.oi).length) ((valT x.n x.ao x.oi).map (Value.int .i64)), boxE b1 #[.int .i64 x.n.ins, x.n.sv, x.n.lv, x.n.ov, x.pv, x.qv, x.kv, x.av, x.bv, .int .i64 x.oi, .int .i64 x.ni] 40] (conv_pick (src := [rowE 24 1 (.slice (some ⟨g45, 0, none⟩) 1 1) 1 ([u2]), rowE 3 1 u2 zs.length (zs.map (Value.int .i64)), bigE (es.map irPart), rowE 24 1 v46 ((es ++ [IR.mk u2 zs]).length) ((es ++ [IR.mk u2 zs]).flatMap irC), rowE 3 1 v5 ((valT x.n x.bs x.ni).length) ((valT x.n x.bs x.ni).map (Value.int .i64)), rowE 3 1 v2 ((valT x.n x.ao x.oi).length) ((valT x.n x.ao x.oi).map (Value.int .i64)), boxE b1 #[.int .i64 x.n.ins, x.n.sv, x.n.lv, x.n.ov, x.pv, x.qv, x.kv, x.av, x.bv, .int .i64 x.oi, .int .i64 x.ni] 40]) (dst := [rowE 3 1 u2 zs.length (zs.map (Value.int .i64)), bigE (es.map irPart), rowE 24 1 (.slice (some ⟨g45, 0, none⟩) 1 1) 1 ([u2]), rowE 24 1 v46 ((es ++ [IR.mk u2 zs]).length) ((es ++ [IR.mk u2 zs]).flatMap irC), rowE 3 1 v5 ((valT x.n x.bs x.ni).length) ((valT x.n x.bs x.ni).map (Value.int .i64)), rowE 3 1 v2 ((valT x.n x.ao x.oi).length) ((valT x.n x.ao x.oi).map (Value.int .i64)), boxE b1 #[.int .i64 x.n.ins, x.n.sv, x.n.lv, x.n.ov, x.pv, x.qv, x.kv, x.av, x.bv, .int .i64 x.oi, .int .i64 x.ni] 40]) (l := []) [1, 2, 0, 3, 4, 5, 6] (by decide) rfl) ?_
   refine hq_conv [bigE ((es ++ [IR.mk u2 zs]).map irPart), rowE 24 1 (.slice (some ⟨g45, 0, none⟩) 1 1) 1 ([u2]), rowE 24 1 v46 ((es ++ [IR.mk u2 zs]).length) ((es ++ [IR.mk u2 zs]).flatMap irC), rowE 3 1 v5 ((valT x.n x.bs x.ni).length) ((valT x.n x.bs x.ni).map (Value.int .i64)), rowE 3 1 v2 ((valT x.n x.ao x.oi).length) ((valT x.n x.ao x.oi).map (Value.int .i64)), boxE b1 #[.int .i64 x.n.ins, x.n.sv, x.n.lv, x.n.ov, x.pv, x.qv, x.kv, x.av, x.bv, .int .i64 x.oi, .int .i64 x.ni] 40] (conv_irSnoc (es := es) (e' := IR.mk u2 zs)) ?_
   exact hq_round3 (m + 1) v46 (es ++ [IR.mk u2 zs]) ⟨by omega, hw.snoc (by show zs = _; rw [hz, show t = a.toNat + 1 by omega])⟩ (by omega) (sx 0 rfl (sx 1 rfl (sx 2 rfl (sx 4 rfl (sx 5 rfl (sx 6 rfl (sx 7 rfl (sx 8 rfl (sub_nil _))))))))) ((.cons_cons _ (.cons _ (.cons_cons _ (.cons_cons _ (.cons_cons _ (.cons_cons _ .slnil)))))))
 ·
  refine hl_less (sx 0 rfl (sx 1 rfl (sx 2 rfl (sx 4 rfl (sx 5 rfl (sx 6 rfl (sx 7 rfl (sx 8 rfl (sx 35 rfl (sub_nil _)))))))))) (.refl _) ?_
  refine hl_nil ?_
  refine hq_then ?_
  refine hc_false rfl ?_
  refine hc_exit ?_
  refine hq_then_exit ?_
  refine hq_then_exit ?_
  refine hq_block_exit ?_
  refine hq_then ?_
  refine hc_seq ?_
  refine hc_region ?_
  refine hl_v rfl rfl rfl (rv_ev rfl) ?_
  refine hl_v rfl rfl rfl (rv_ev rfl) ?_
  refine hl_less (sx 0 rfl (sx 1 rfl (sx 2 rfl (sx 4 rfl (sx 5 rfl (sx 6 rfl (sx 7 rfl (sx 8 rfl (sx 35 rfl (sub_nil _)))))))))) (.refl _) ?_
  refine hl_nil ?_
  refine hq_then ?_
  refine hc_ret ?_
  refine hq_conv [bigE (es.map irPart), rowE 24 1 u es.length (es.flatMap irC)] (conv_pick (src := [bigE (es.map irPart), rowE 24 1 u es.length (es.flatMap irC), rowE 3 1 v5 ((valT x.n x.bs x.ni).length) ((valT x.n x.bs x.ni).map (Value.int .i64)), rowE 3 1 v2 ((valT x.n x.ao x.oi).length) ((valT x.n x.ao x.oi).map (Value.int .i64)), boxE b1 #[.int .i64 x.n.ins, x.n.sv, x.n.lv, x.n.ov, x.pv, x.qv, x.kv, x.av, x.bv, .int .i64 x.oi, .int .i64 x.ni] 40]) (dst := [bigE (es.map irPart), rowE 24 1 u es.length (es.flatMap irC)]) (l := []) [0, 1] (by decide) rfl) ?_
  refine hq_conv [irsE u es] (conv_big (ps := [bigE (es.map irPart), rowE 24 1 u es.length (es.flatMap irC)])) ?_
  exact hq_retR (post := [irsE u es]) rfl rfl (.refl _) ⟨es, rfl, by rw [show m = x.n.cnt.toNat by omega] at hw; exact hw⟩
open Go.RowKit
theorem wavesAt_smp {x : Td} {h C i j b : Nat} {u v : Value} {es : List IR} {e K d s : Int} (w : World) (c0 : w.cell? ⟨b, 0, none⟩ = some u) (c1 : w.cell? ⟨b, 1, none⟩ = some v) (hu : RdsW w u 1 (ovX x).length ((ovX x).map (Value.int .i64))) (hv : RdsIr w v es) (hw : WOk x h C C es)
    (hk : (x.n.ss.getD i sq0).xs.getD j 0 = K) (hs : x.ks.getD i 0 = s) (hd : (x.ds.getD i ir0).xs.getD j 0 = d) (hr : 0 ≤ K ∧ K < C) (hC : C = (ovX x).length) (ht : e + s - d ≤ h) :
    Calls Try.prog 69 #[.pointer (some ⟨b, 0, none⟩), .int .i64 K, .int .i64 (e + s - d)] w (Ans w (.int .i64 (smpV x (wvsL x h C) e i j))) := by
  have hq := hw.row K.toNat (by omega)
  have hl : (es.getD K.toNat ir0).xs.length = h + 1 := by rw [hq]; exact wvs_rl x h (by omega)
  have h9 := wavesAt_ans b ⟨u, v, ovX x, es⟩ K (e + s - d) w ⟨c0, c1, hu, hv⟩ (show 0 ≤ K ∧ K < ((ovX x).length : Int) from by omega) (show es.length = (ovX x).length from by rw [hw.len]; exact hC) (show e + s - d < ((es.getD K.toNat ir0).xs.length : Int) from by omega)
  have e9 : atW ((ovX x).getD K.toNat 0) (es.getD K.toNat ir0).xs (e + s - d) = smpV x (wvsL x h C) e i j := by unfold smpV; rw [hq, hk, hs, hd]
  rw [← e9]; exact h9
theorem l37At_smp {x : Td} {h C i j : Nat} {v : Value} {es : List IR} {e K o d s : Int} (w : World) (hv : RdsIr w v es) (hw : WOk x h C C es)
    (hk : (x.n.ss.getD i sq0).xs.getD j 0 = K) (ho : (ovX x).getD K.toNat 0 = o) (hs : x.ks.getD i 0 = s) (hd : (x.ds.getD i ir0).xs.getD j 0 = d) (hr : 0 ≤ K ∧ K < C) (ht : e + s - d ≤ h) :
    Calls Try.prog 68 #[(es.getD K.toNat ir0).v, .int .i64 o, .int .i64 (e + s - d)] w (Ans w (.int .i64 (smpV x (wvsL x h C) e i j))) := by
  have hq := hw.row K.toNat (by omega)
  have hl : (es.getD K.toNat ir0).xs.length = h + 1 := by rw [hq]; exact wvs_rl x h (by omega)
  have h9 := l37At_ans (es.getD K.toNat ir0).xs _ o (e + s - d) w (hv.at (d := ir0) (k := K.toNat) (by have := hw.len; omega)) (by omega)
  have e9 : atW o (es.getD K.toNat ir0).xs (e + s - d) = smpV x (wvsL x h C) e i j := by unfold smpV; rw [hq, hk, ho, hs, hd]
  rw [← e9]; exact h9
set_option maxHeartbeats 4000000 in
set_option maxRecDepth 100000 in
theorem implSampledAt_ret (x : Td) (e : Int) (w : World) (hr : RdsTd w x) :
  Calls Try.prog 39 #[.agg #[.int .i64 x.n.ins, x.n.sv, x.n.lv, x.n.ov, x.pv, x.qv, x.kv, x.av, x.bv, .int .i64 x.oi, .int .i64 x.ni], .int .i64 e] w (Ret w (fun v' post => post = [rowE 3 1 v' (smpR x e).length ((smpR x e).map (Value.int .i64))])) := by
 have t1 := sml hr.ks
 have t2 := sml hr.ao
 have t3 := sml hr.bs
 have t4 := hr.dl.small
 have t5 := hr.ds.small
 have t6 := hr.n.sq.small
 have t7 := hr.n.lt.small
 have t8 := sml hr.n.ou
 have hcnt : x.n.cnt = 1 + x.n.ins + x.n.ss.length + x.n.ls.length := rfl
 have hfst : x.n.fst = 1 + x.n.ins + x.n.ss.length := rfl
 refine calls_hc (N := 64) (args := [.agg #[.int .i64 x.n.ins, x.n.sv, x.n.lv, x.n.ov, x.pv, x.qv, x.kv, x.av, x.bv, .int .i64 x.oi, .int .i64 x.ni], .int .i64 e]) Try.func39 rfl rfl ?_
 refine hc_less _ (sx 0 rfl (sx 1 rfl (sub_nil _))) (.refl _) ?_
 refine hc_seq ?_
 refine hc_region ?_
 refine hl_box rfl rfl rfl (rq_box rfl rfl) ?_
 intro b1
 refine hl_nilRow 3 1 ?_
 refine hl_v rfl rfl rfl (rv_ev rfl) ?_
 refine hl_less (sx 0 rfl (sx 1 rfl (sx 2 rfl (sx 4 rfl (sub_nil _))))) (.refl _) ?_
 refine hl_nil ?_
 refine hq_then ?_
 refine hc_seq ?_
 refine hc_seq ?_
 refine hc_region ?_
 refine hl_v rfl rfl rfl (rv_loadN (cs := [.int .i64 x.n.ins, x.n.sv, x.n.lv, x.n.ov, x.pv, x.qv, x.kv, x.av, x.bv, .int .i64 x.oi, .int .i64 x.ni]) rfl (by kernel_rfl) (by kernel_rfl) rfl rfl (box_part 1 rfl 0 rfl)) ?_
 refine hl_callV rfl rfl rfl (rq_call (by kernel_rfl) rfl (fun w hm => ret_ans (implTimedOk_ans x w (hr.below hm.bel)))) ?_
 refine hl_bool (fun h3 => ?_) (fun h3 => ?_)
 ·
  have hok := of_pB h3
  obtain ⟨ci, cs_, cl, ck, ca, cb, cd, ce⟩ := hok.bnd
  have hi0 := ci.1
  have hi1 := ci.2
  refine hl_v rfl rfl rfl (rv_ev rfl) ?_
  refine hl_v rfl rfl rfl (rv_ev rfl) ?_
  refine hl_v rfl rfl rfl (rv_ev rfl) ?_
  refine hl_callV rfl rfl rfl (rq_call (by kernel_rfl) rfl (fun w hm => ret_ans (ans_of (inRange_any _ _ _ w)))) ?_
  refine hl_bool (fun h4 => ?_) (fun h4 => ?_)
  ·
   obtain ⟨h4a, h4b⟩ := (inR_iff _ _ _).1 h4
   refine hl_v rfl rfl rfl (rv_ev rfl) ?_
   refine hl_v rfl rfl rfl (rv_ev rfl) ?_
   refine hl_less (sx 0 rfl (sx 1 rfl (sx 2 rfl (sx 4 rfl (sx 18 rfl (sub_nil _)))))) (.refl _) ?_
   refine hl_nil ?_
   refine hq_then ?_
   refine hc_false rfl ?_
   refine hc_skip ?_
   refine hq_then ?_
   refine hc_seq ?_
   refine hc_region ?_
   refine hl_v rfl rfl rfl (rv_loadN (cs := [.int .i64 x.n.ins, x.n.sv, x.n.lv, x.n.ov, x.pv, x.qv, x.kv, x.av, x.bv, .int .i64 x.oi, .int .i64 x.ni]) rfl (by kernel_rfl) (by kernel_rfl) rfl rfl (box_part 1 rfl 0 rfl)) ?_
   refine hl_q rfl rfl rfl (rq_call (by kernel_rfl) rfl (fun w hm => wavesOf_ret x 1100 w (hr.below hm.bel) hok (by omega))) ?_
   intro v5 p6 hR7
   obtain ⟨b, bv, av, es, rfl, rfl, hw, hoav⟩ := hR7
   have hwl := hw.len
   refine hl_v rfl rfl rfl (rv_ev rfl) ?_
   refine hl_less (sx 0 rfl (sx 1 rfl (sx 2 rfl (sx 4 rfl (sx 5 rfl (sx 18 rfl (sub_nil _))))))) (.refl _) ?_
   refine hl_nil ?_
   refine hq_then ?_
   refine hc_seq ?_
   refine hc_region ?_
   refine hl_nilRow 3 1 ?_
   refine hl_v rfl rfl rfl (rv_ev rfl) ?_
   refine hl_less (sx 0 rfl (sx 1 rfl (sx 2 rfl (sx 4 rfl (sx 5 rfl (sx 6 rfl (sx 18 rfl (sub_nil _)))))))) (.refl _) ?_
   refine hl_nil ?_
   refine hq_then ?_
   refine hc_seq ?_
   refine hc_seq ?_
   refine hc_region ?_
   refine hl_v rfl rfl rfl (rv_field (k0 := 0) rfl (by kernel_rfl) rfl) ?_
   refine hl_v rfl rfl rfl (rv_field (k0 := 1) rfl (by kernel_rfl) rfl) ?_
   refine hl_v rfl rfl rfl (rv_load rfl (by kernel_rfl) rfl (box_cell 5 rfl rfl)) ?_
   refine hl_v rfl rfl rfl (rv_len rfl Try.underlying34 rfl (rd_old ((hr).n.sq.row))) ?_
   refine hl_v rfl rfl rfl (rv_ev rfl) ?_
   refine hl_less (sx 0 rfl (sx 1 rfl (sx 2 rfl (sx 4 rfl (sx 5 rfl (sx 6 rfl (sx 18 rfl (sx 23 rfl (sx 24 rfl (sx 25 rfl (sub_nil _))))))))))) (.refl _) ?_
   refine hl_nil ?_
   refine hq_then ?_
   refine hc_block ?_
   refine hc_loop3 (α := Nat) (β := Value) (γ := List Int) (fun i u zs => [rowE 3 1 u zs.length (zs.map (Value.int .i64)), irsE av es, boxE b #[bv, av] 92, rowE 3 1 bv ((ovX x).length) ((ovX x).map (Value.int .i64)), rowE 3 1 (.slice none 0 0) 0 ([]), boxE b1 #[.int .i64 x.n.ins, x.n.sv, x.n.lv, x.n.ov, x.pv, x.qv, x.kv, x.av, x.bv, .int .i64 x.oi, .int .i64 x.ni] 40]) (fun i u zs => [(0, .agg #[.int .i64 x.n.ins, x.n.sv, x.n.lv, x.n.ov, x.pv, x.qv, x.kv, x.av, x.bv, .int .i64 x.oi, .int .i64 x.ni]), (1, .int .i64 e), (2, .pointer (some ⟨b1, 0, none⟩)), (4, .slice none 0 0), (5, .pointer (some ⟨b, 0, none⟩)), (6, u), (18, .bool false), (23, x.n.sv), (24, .int .i64 (x.n.ss.length : Int)), (25, .int .i64 (i : Int))]) (fun i u zs => i ≤ x.n.ss.length ∧ zs = smpL x (wvsL x (1100 : Int).toNat x.n.cnt.toNat) e i ∧ zs.length ≤ 4 * i) (fun i u zs => x.n.ss.length - i) 0 _ [] ⟨Nat.zero_le _, rfl, by simp⟩ (sx 0 rfl (sx 1 rfl (sx 2 rfl (sx 4 rfl (sx 5 rfl (sx 6 rfl (sx 18 rfl (sx 23 rfl (sx 24 rfl (sx 25 rfl (sub_nil _))))))))))) ((.cons_cons _ (.cons_cons _ (.cons_cons _ (.cons_cons _ (.cons_cons _ (.cons_cons _ .slnil))))))) ?_
   intro i u zs hi9
   obtain ⟨hi, hz, hzl⟩ := hi9
   refine hc_seq ?_
   refine hc_region ?_
   refine hl_lss rfl rfl rfl rfl rfl rfl (fun h10 => ?_) (fun h10 => ?_)
   ·
    refine hl_less (sx 0 rfl (sx 1 rfl (sx 2 rfl (sx 4 rfl (sx 5 rfl (sx 6 rfl (sx 18 rfl (sx 23 rfl (sx 24 rfl (sx 25 rfl (sx 26 rfl (sub_nil _)))))))))))) (.refl _) ?_
    refine hl_nil ?_
    refine hq_then ?_
    refine hc_seq ?_
    refine hc_true rfl ?_
    refine hc_skip ?_
    refine hq_then ?_
    refine hc_seq ?_
    refine hc_block ?_
    refine hc_seq ?_
    refine hc_region ?_
    refine hl_v rfl rfl rfl (rv_ev rfl) ?_
    refine hl_v rfl rfl rfl (rv_index (s := 3) rfl Try.underlying34 (by kernel_rfl) rfl rfl (rd_old ((hr).n.sq.row)) (by omega) (by first | omega | (simp only [List.length_set]; omega))) ?_
    refine hl_v rfl rfl rfl (rv_loadElN (us := [.int .i64 ((x.n.ss.getD i sq0).kd), .int .i64 ((x.n.ss.getD i sq0).it), (x.n.ss.getD i sq0).iv]) rfl (by kernel_rfl) (by kernel_rfl) rfl (rd_old ((hr).n.sq.row)) (by omega) rfl (flat_atN sqC 3 (fun _ => rfl) x.n.ss sq0 (show i < _ by first | omega | (simp only [List.length_set]; omega)) rfl)) ?_
    refine hl_box rfl rfl rfl (rq_alloc (z := .agg #[.int .i64 0, .int .i64 0, .slice none 0 0]) rfl (by kernel_rfl)) ?_
    intro b11
    refine hl_v rfl rfl rfl (rv_ev rfl) ?_
    refine hl_storeBoxN (i := 0) (off := 0) (us := [.int .i64 ((x.n.ss.getD i sq0).kd), .int .i64 ((x.n.ss.getD i sq0).it), (x.n.ss.getD i sq0).iv])  (l' := [boxE b11 #[.int .i64 ((x.n.ss.getD i sq0).kd), .int .i64 ((x.n.ss.getD i sq0).it), (x.n.ss.getD i sq0).iv] 71, rowE 3 1 u zs.length (zs.map (Value.int .i64)), irsE av es, boxE b #[bv, av] 92, rowE 3 1 bv ((ovX x).length) ((ovX x).map (Value.int .i64)), rowE 3 1 (.slice none 0 0) 0 ([]), boxE b1 #[.int .i64 x.n.ins, x.n.sv, x.n.lv, x.n.ov, x.pv, x.qv, x.kv, x.av, x.bv, .int .i64 x.oi, .int .i64 x.ni] 40]) rfl rfl rfl (by kernel_rfl) rfl rfl rfl (all_cons rfl (all_cons rfl (all_cons (hr.n.sq.at (d := sq0) (k := i) (by omega)).one all_nil))) rfl rfl rfl ?_
    refine hl_less (sx 0 rfl (sx 1 rfl (sx 2 rfl (sx 4 rfl (sx 5 rfl (sx 6 rfl (sx 7 rfl (sx 8 rfl (sx 18 rfl (sx 23 rfl (sx 24 rfl (sx 25 rfl (sx 26 rfl (sub_nil _)))))))))))))) (.refl _) ?_
    refine hl_nil ?_
    refine hq_then ?_
    refine hc_seq ?_
    refine hc_region ?_
    have hx4 := (hok.n.sq i (by omega)).1.len
    have hdl : (x.ds.getD i ir0).xs.length = (x.n.ss.getD i sq0).xs.length := by have := (hok.ds i (by omega)).1; omega
    refine hl_v rfl rfl rfl (rv_field (k0 := 2) rfl (by kernel_rfl) rfl) ?_
    refine hl_v rfl rfl rfl (rv_load rfl (by kernel_rfl) rfl (box_cell 0 rfl rfl)) ?_
    refine hl_v rfl rfl rfl (rv_len rfl Try.underlying24 rfl (rd_old ((hr).n.sq.at (d := sq0) (k := i) (by omega)))) ?_
    refine hl_v rfl rfl rfl (rv_ev rfl) ?_
    refine hl_less (sx 0 rfl (sx 1 rfl (sx 2 rfl (sx 4 rfl (sx 5 rfl (sx 6 rfl (sx 7 rfl (sx 8 rfl (sx 18 rfl (sx 23 rfl (sx 24 rfl (sx 25 rfl (sx 26 rfl (sx 31 rfl (sx 32 rfl (sx 33 rfl (sub_nil _))))))))))))))))) (.refl _) ?_
    refine hl_nil ?_
    refine hq_then ?_
    refine hc_block ?_
    refine hc_loop3 (α := Nat) (β := Value) (γ := List Int) (fun j u2 ys => [boxE b11 #[.int .i64 ((x.n.ss.getD i sq0).kd), .int .i64 ((x.n.ss.getD i sq0).it), (x.n.ss.getD i sq0).iv] 71, rowE 3 1 u2 ys.length (ys.map (Value.int .i64)), irsE av es, boxE b #[bv, av] 92, rowE 3 1 bv ((ovX x).length) ((ovX x).map (Value.int .i64)), rowE 3 1 (.slice none 0 0) 0 ([]), boxE b1 #[.int .i64 x.n.ins, x.n.sv, x.n.lv, x.n.ov, x.pv, x.qv, x.kv, x.av, x.bv, .int .i64 x.oi, .int .i64 x.ni] 40]) (fun j u2 ys => [(0, .agg #[.int .i64 x.n.ins, x.n.sv, x.n.lv, x.n.ov, x.pv, x.qv, x.kv, x.av, x.bv, .int .i64 x.oi, .int .i64 x.ni]), (1, .int .i64 e), (2, .pointer (some ⟨b1, 0, none⟩)), (4, .slice none 0 0), (5, .pointer (some ⟨b, 0, none⟩)), (6, u2), (7, .int .i64 (i : Int)), (8, .pointer (some ⟨b11, 0, none⟩)), (18, .bool false), (23, x.n.sv), (24, .int .i64 (x.n.ss.length : Int)), (25, .int .i64 (i : Int)), (26, .bool true), (31, (x.n.ss.getD i sq0).iv), (32, .int .i64 (((x.n.ss.getD i sq0).xs).length : Int)), (33, .int .i64 (j : Int))]) (fun j u2 ys => j ≤ (x.n.ss.getD i sq0).xs.length ∧ ys = smpL x (wvsL x (1100 : Int).toNat x.n.cnt.toNat) e i ++ smpI x (wvsL x (1100 : Int).toNat x.n.cnt.toNat) e i j ∧ ys.length ≤ 4 * i + j) (fun j u2 ys => (x.n.ss.getD i sq0).xs.length - j) 0 _ zs ⟨Nat.zero_le _, by rw [hz]; exact (List.append_nil _).symm, by omega⟩ (sx 0 rfl (sx 1 rfl (sx 2 rfl (sx 4 rfl (sx 5 rfl (sx 6 rfl (sx 7 rfl (sx 8 rfl (sx 18 rfl (sx 23 rfl (sx 24 rfl (sx 25 rfl (sx 26 rfl (sx 31 rfl (sx 32 rfl (sx 33 rfl (sub_nil _))))))))))))))))) ((.cons_cons _ (.cons_cons _ (.cons_cons _ (.cons_cons _ (.cons_cons _ (.cons_cons _ (.cons_cons _ .slnil)))))))) ?_
    intro j u2 ys hi12
    obtain ⟨hj, hy, hyl⟩ := hi12
    refine hc_seq ?_
    refine hc_region ?_
    refine hl_lss rfl rfl rfl rfl rfl rfl (fun h13 => ?_) (fun h13 => ?_)
    ·
     refine hl_less (sx 0 rfl (sx 1 rfl (sx 2 rfl (sx 4 rfl (sx 5 rfl (sx 6 rfl (sx 7 rfl (sx 8 rfl (sx 18 rfl (sx 23 rfl (sx 24 rfl (sx 25 rfl (sx 26 rfl (sx 31 rfl (sx 32 rfl (sx 33 rfl (sx 34 rfl (sub_nil _)))))))))))))))))) (.refl _) ?_
     refine hl_nil ?_
     refine hq_then ?_
     refine hc_seq ?_
     refine hc_true rfl ?_
     refine hc_skip ?_
     refine hq_then ?_
     refine hc_seq ?_
     refine hc_block ?_
     refine hc_seq ?_
     refine hc_region ?_
     refine hl_v rfl rfl rfl (rv_ev rfl) ?_
     refine hl_v rfl rfl rfl (rv_index (s := 1) rfl Try.underlying24 (by kernel_rfl) rfl rfl (rd_old ((hr).n.sq.at (d := sq0) (k := i) (by omega))) (by omega) (by first | omega | (simp only [List.length_set]; omega))) ?_
     refine hl_v rfl rfl rfl (rv_loadEl (u := .int .i64 (((x.n.ss.getD i sq0).xs).getD j 0)) rfl (by kernel_rfl) rfl (rd_old ((hr).n.sq.at (d := sq0) (k := i) (by omega))) (ints_at1 (show _ < ((x.n.ss.getD i sq0).xs).length by first | omega | (simp only [List.length_set]; omega)))) ?_
     refine hl_v rfl rfl rfl (rv_ev rfl) ?_
     refine hl_v rfl rfl rfl (rv_ev rfl) ?_
     refine hl_less (sx 0 rfl (sx 1 rfl (sx 2 rfl (sx 4 rfl (sx 5 rfl (sx 6 rfl (sx 7 rfl (sx 8 rfl (sx 9 rfl (sx 10 rfl (sx 18 rfl (sx 23 rfl (sx 24 rfl (sx 25 rfl (sx 26 rfl (sx 31 rfl (sx 32 rfl (sx 33 rfl (sx 34 rfl (sub_nil _)))))))))))))))))))) (.refl _) ?_
     refine hl_nil ?_
     refine hq_then ?_
     have hns := (hok.n.sq i (by omega)).2 j (by omega)
     have hds := (hok.ds i (by omega)).2 j (by omega)
     have hks := hok.k.2 i (by omega)
     have hov : (ovX x).length = x.n.cnt.toNat := by have := vl_len x.n x.ao x.oi x.n.ls.length; show (vlL _ _ _ _).length = _; omega
     have hov2 : (valT x.n x.ao x.oi).length = x.n.cnt.toNat := hov
     refine hc_draw (by kernel_rfl) 22 [0, 1, 2, 3, 4, 5, 6, 7, 8, 9, 10, 11, 12, 13, 14, 15, 16, 17, 18, 19, 20, 21] (List.take 22 _) (List.drop 22 _) [[], [], [], [], [], [4], [], [5, 6], [7], [3, 8], [], [10], [11], [], [12, 13], [14], [], [15, 16], [17], [9, 18], [1, 2, 19], [20]] [38, 39, 40, 41, 42, 43, 44, 45, 46, 47, 48, 49, 50, 51, 52, 53, 54, 55, 56, 57, 58, 59] (fun i_ vs_ v_ p_ => match i_ with | 0 => v_ = u2 ∧ p_ = [] | 1 => v_ = .pointer (some ⟨b, 0, none⟩) ∧ p_ = [] | 2 => v_ = .int .i64 (((x.n.ss.getD i sq0).xs).getD j 0) ∧ p_ = [] | 3 => v_ = .int .i64 e ∧ p_ = [] | 4 => v_ = .pointer (some ⟨b1, 0 + 6, none⟩) ∧ p_ = [] | 5 => v_ = x.kv ∧ p_ = [] | 6 => v_ = .int .i64 (i : Int) ∧ p_ = [] | 7 => v_ = elP x.kv (((i : Int)).toNat * 1) ∧ p_ = [] | 8 => v_ = .int .i64 (x.ks.getD i 0) ∧ p_ = [] | 9 => v_ = .int .i64 (e + (x.ks.getD i 0)) ∧ p_ = [] | 10 => v_ = .pointer (some ⟨b1, 0 + 4, none⟩) ∧ p_ = [] | 11 => v_ = .pointer (some ⟨b1, 0 + 4 + 1, none⟩) ∧ p_ = [] | 12 => v_ = x.qv ∧ p_ = [] | 13 => v_ = .int .i64 (i : Int) ∧ p_ = [] | 14 => v_ = elP x.qv (((i : Int)).toNat * 1) ∧ p_ = [] | 15 => v_ = (x.ds.getD i ir0).v ∧ p_ = [] | 16 => v_ = .int .i64 (j : Int) ∧ p_ = [] | 17 => v_ = elP ((x.ds.getD i ir0).v) (((j : Int)).toNat * 1) ∧ p_ = [] | 18 => v_ = .int .i64 (((x.ds.getD i ir0).xs).getD j 0) ∧ p_ = [] | 19 => v_ = .int .i64 ((e + (x.ks.getD i 0)) - (((x.ds.getD i ir0).xs).getD j 0)) ∧ p_ = [] | 20 => v_ = .int .i64 (smpV x (wvsL x (1100 : Int).toNat x.n.cnt.toNat) e i j) ∧ p_ = [] | 21 => IsRow_o 3 1 1 ([smpV x (wvsL x (1100 : Int).toNat x.n.cnt.toNat) e i j].map (Value.int .i64)) v_ p_ | _ => True) (List.take_append_drop 22 _).symm (by kernel_rfl) (by kernel_rfl) rfl rfl ?_ ?_
     ·
      refine ⟨?_, ?_, ?_, ?_, ?_, ?_, ?_, ?_, ?_, ?_, ?_, ?_, ?_, ?_, ?_, ?_, ?_, ?_, ?_, ?_, ?_, ?_, trivial⟩
      ·
       intro vf pf hR
       refine Or.inl ⟨rfl, ?_⟩
       refine rq_less (sx 6 rfl (sub_nil _)) (List.sublist_append_right _ _) ?_
       exact rq_v (rv_ev rfl)
      ·
       intro vf pf hR
       refine Or.inl ⟨rfl, ?_⟩
       refine rq_less (sx 5 rfl (sub_nil _)) (List.sublist_append_right _ _) ?_
       exact rq_v (rv_ev rfl)
      ·
       intro vf pf hR
       refine Or.inl ⟨rfl, ?_⟩
       refine rq_less (sx 10 rfl (sub_nil _)) (List.sublist_append_right _ _) ?_
       exact rq_v (rv_ev rfl)
      ·
       intro vf pf hR
       refine Or.inl ⟨rfl, ?_⟩
       refine rq_less (sx 1 rfl (sub_nil _)) (List.sublist_append_right _ _) ?_
       exact rq_v (rv_ev rfl)
      ·
       intro vf pf hR
       refine Or.inl ⟨rfl, ?_⟩
       refine rq_less (sx 2 rfl (sub_nil _)) (List.sublist_append_right _ _) ?_
       exact rq_v (rv_field (k0 := 6) rfl (by kernel_rfl) rfl)
      ·
       intro vf pf hR
       have e4 : (vf 4) = .pointer (some ⟨b1, 0 + 6, none⟩) ∧ (pf 4) = [] := hR 4 (by decide)
       refine Or.inl ⟨rfl, ?_⟩
       refine rq_less (sx 42 (congrArg some e4.1) (sub_nil _)) (List.sublist_append_right _ _) ?_
       exact rq_v (rv_load rfl (by kernel_rfl) rfl (box_cell 6 rfl rfl))
      ·
       intro vf pf hR
       refine Or.inl ⟨rfl, ?_⟩
       refine rq_less (sx 7 rfl (sub_nil _)) (List.sublist_append_right _ _) ?_
       exact rq_v (rv_ev rfl)
      ·
       intro vf pf hR
       have e5 : (vf 5) = x.kv ∧ (pf 5) = [] := hR 5 (by decide)
       have e6 : (vf 6) = .int .i64 (i : Int) ∧ (pf 6) = [] := hR 6 (by decide)
       refine Or.inl ⟨rfl, ?_⟩
       refine rq_less (sx 43 (congrArg some e5.1) (sx 44 (congrArg some e6.1) (sub_nil _))) (List.sublist_append_right _ _) ?_
       exact rq_v (rv_index (s := 1) rfl Try.underlying24 (by kernel_rfl) rfl rfl (rd_old ((hr).ks)) (by omega) (by first | omega | (simp only [List.length_set]; omega)))
      ·
       intro vf pf hR
       have e7 : (vf 7) = elP x.kv (((i : Int)).toNat * 1) ∧ (pf 7) = [] := hR 7 (by decide)
       refine Or.inl ⟨rfl, ?_⟩
       refine rq_less (sx 45 (congrArg some e7.1) (sub_nil _)) (List.sublist_append_right _ _) ?_
       exact rq_v (rv_loadEl (u := .int .i64 (x.ks.getD i 0)) rfl (by kernel_rfl) rfl (rd_old ((hr).ks)) (ints_at1 (show _ < x.ks.length by first | omega | (simp only [List.length_set]; omega))))
      ·
       intro vf pf hR
       have e3 : (vf 3) = .int .i64 e ∧ (pf 3) = [] := hR 3 (by decide)
       have e8 : (vf 8) = .int .i64 (x.ks.getD i 0) ∧ (pf 8) = [] := hR 8 (by decide)
       refine Or.inl ⟨rfl, ?_⟩
       refine rq_less (sx 41 (congrArg some e3.1) (sx 46 (congrArg some e8.1) (sub_nil _))) (List.sublist_append_right _ _) ?_
       exact rq_v (rv_add rfl rfl rfl (by constructor <;> omega))
      ·
       intro vf pf hR
       refine Or.inl ⟨rfl, ?_⟩
       refine rq_less (sx 2 rfl (sub_nil _)) (List.sublist_append_right _ _) ?_
       exact rq_v (rv_field (k0 := 4) rfl (by kernel_rfl) rfl)
      ·
       intro vf pf hR
       have e10 : (vf 10) = .pointer (some ⟨b1, 0 + 4, none⟩) ∧ (pf 10) = [] := hR 10 (by decide)
       refine Or.inl ⟨rfl, ?_⟩
       refine rq_less (sx 48 (congrArg some e10.1) (sub_nil _)) (List.sublist_append_right _ _) ?_
       exact rq_v (rv_field (k0 := 1) rfl (by kernel_rfl) rfl)
      ·
       intro vf pf hR
       have e11 : (vf 11) = .pointer (some ⟨b1, 0 + 4 + 1, none⟩) ∧ (pf 11) = [] := hR 11 (by decide)
       refine Or.inl ⟨rfl, ?_⟩
       refine rq_less (sx 49 (congrArg some e11.1) (sub_nil _)) (List.sublist_append_right _ _) ?_
       exact rq_v (rv_load rfl (by kernel_rfl) rfl (box_cell 6 rfl rfl))
      ·
       intro vf pf hR
       refine Or.inl ⟨rfl, ?_⟩
       refine rq_less (sx 7 rfl (sub_nil _)) (List.sublist_append_right _ _) ?_
       exact rq_v (rv_ev rfl)
      ·
       intro vf pf hR
       have e12 : (vf 12) = x.qv ∧ (pf 12) = [] := hR 12 (by decide)
       have e13 : (vf 13) = .int .i64 (i : Int) ∧ (pf 13) = [] := hR 13 (by decide)
       refine Or.inl ⟨rfl, ?_⟩
       refine rq_less (sx 50 (congrArg some e12.1) (sx 51 (congrArg some e13.1) (sub_nil _))) (List.sublist_append_right _ _) ?_
       exact rq_v (rv_index (s := 1) rfl Try.underlying27 (by kernel_rfl) rfl rfl (rd_old ((hr).ds.row)) (by omega) (by first | omega | (simp only [List.length_set]; omega)))
      ·
       intro vf pf hR
       have e14 : (vf 14) = elP x.qv (((i : Int)).toNat * 1) ∧ (pf 14) = [] := hR 14 (by decide)
       refine Or.inl ⟨rfl, ?_⟩
       refine rq_less (sx 52 (congrArg some e14.1) (sub_nil _)) (List.sublist_append_right _ _) ?_
       exact rq_v (rv_loadEl (u := (x.ds.getD i ir0).v) rfl (by kernel_rfl) rfl (rd_old ((hr).ds.row)) (flat_one irC (fun r => r.v) (fun _ => rfl) x.ds ir0 (show i < _ by first | omega | (simp only [List.length_set]; omega))))
      ·
       intro vf pf hR
       refine Or.inl ⟨rfl, ?_⟩
       refine rq_less (sx 9 rfl (sub_nil _)) (List.sublist_append_right _ _) ?_
       exact rq_v (rv_ev rfl)
      ·
       intro vf pf hR
       have e15 : (vf 15) = (x.ds.getD i ir0).v ∧ (pf 15) = [] := hR 15 (by decide)
       have e16 : (vf 16) = .int .i64 (j : Int) ∧ (pf 16) = [] := hR 16 (by decide)
       refine Or.inl ⟨rfl, ?_⟩
       refine rq_less (sx 53 (congrArg some e15.1) (sx 54 (congrArg some e16.1) (sub_nil _))) (List.sublist_append_right _ _) ?_
       exact rq_v (rv_index (s := 1) rfl Try.underlying24 (by kernel_rfl) rfl rfl (rd_old ((hr).ds.at (d := ir0) (k := i) (by omega))) (by omega) (by first | omega | (simp only [List.length_set]; omega)))
      ·
       intro vf pf hR
       have e17 : (vf 17) = elP ((x.ds.getD i ir0).v) (((j : Int)).toNat * 1) ∧ (pf 17) = [] := hR 17 (by decide)
       refine Or.inl ⟨rfl, ?_⟩
       refine rq_less (sx 55 (congrArg some e17.1) (sub_nil _)) (List.sublist_append_right _ _) ?_
       exact rq_v (rv_loadEl (u := .int .i64 (((x.ds.getD i ir0).xs).getD j 0)) rfl (by kernel_rfl) rfl (rd_old ((hr).ds.at (d := ir0) (k := i) (by omega))) (ints_at1 (show _ < ((x.ds.getD i ir0).xs).length by first | omega | (simp only [List.length_set]; omega))))
      ·
       intro vf pf hR
       have e9 : (vf 9) = .int .i64 (e + (x.ks.getD i 0)) ∧ (pf 9) = [] := hR 9 (by decide)
       have e18 : (vf 18) = .int .i64 (((x.ds.getD i ir0).xs).getD j 0) ∧ (pf 18) = [] := hR 18 (by decide)
       refine Or.inl ⟨rfl, ?_⟩
       refine rq_less (sx 47 (congrArg some e9.1) (sx 56 (congrArg some e18.1) (sub_nil _))) (List.sublist_append_right _ _) ?_
       exact rq_v (rv_sub rfl rfl rfl (by constructor <;> omega))
      ·
       intro vf pf hR
       have e1 : (vf 1) = .pointer (some ⟨b, 0, none⟩) ∧ (pf 1) = [] := hR 1 (by decide)
       have e2 : (vf 2) = .int .i64 (((x.n.ss.getD i sq0).xs).getD j 0) ∧ (pf 2) = [] := hR 2 (by decide)
       have e19 : (vf 19) = .int .i64 ((e + (x.ks.getD i 0)) - (((x.ds.getD i ir0).xs).getD j 0)) ∧ (pf 19) = [] := hR 19 (by decide)
       refine Or.inl ⟨rfl, ?_⟩
       refine rq_less (sx 39 (congrArg some e1.1) (sx 40 (congrArg some e2.1) (sx 57 (congrArg some e19.1) (sub_nil _)))) (List.sublist_append_right _ _) ?_
       exact (rq_call (by kernel_rfl) rfl (fun w hm => ret_ans (wavesAt_smp w (box_cell 3 rfl rfl w hm) (box_cell 3 rfl rfl w hm) (rd_row 4 rfl w hm) (rdsX_of 2 rfl w hm) hw rfl rfl rfl (by omega) hov.symm (by omega))))
      ·
       intro vf pf hR
       have e20 : (vf 20) = .int .i64 (smpV x (wvsL x (1100 : Int).toNat x.n.cnt.toNat) e i j) ∧ (pf 20) = [] := hR 20 (by decide)
       refine Or.inl ⟨rfl, ?_⟩
       refine rq_less (sx 58 (congrArg some e20.1) (sub_nil _)) (List.sublist_append_right _ _) ?_
       exact rq_buildSlice (z := .int .i64 0) (s := 1) (cs := ([smpV x (wvsL x (1100 : Int).toNat x.n.cnt.toNat) e i j].map (Value.int .i64))) rfl Try.underlying24 (by kernel_rfl) (by decide) rfl (by kernel_rfl) rfl
     ·
      intro vf pf hR
      have e0 : (vf 0) = u2 ∧ (pf 0) = [] := hR 0 (by decide)
      have e21 : IsRow_o 3 1 1 ([smpV x (wvsL x (1100 : Int).toNat x.n.cnt.toNat) e i j].map (Value.int .i64)) (vf 21) (pf 21) := hR 21 (by decide)
      obtain ⟨g14, v21, p21⟩ := e21
      have q0 : (vf 0) = u2 ∧ (pf 0) = [] := hR 0 (by decide)
      have q1 : (vf 1) = .pointer (some ⟨b, 0, none⟩) ∧ (pf 1) = [] := hR 1 (by decide)
      have q2 : (vf 2) = .int .i64 (((x.n.ss.getD i sq0).xs).getD j 0) ∧ (pf 2) = [] := hR 2 (by decide)
      have q3 : (vf 3) = .int .i64 e ∧ (pf 3) = [] := hR 3 (by decide)
      have q4 : (vf 4) = .pointer (some ⟨b1, 0 + 6, none⟩) ∧ (pf 4) = [] := hR 4 (by decide)
      have q5 : (vf 5) = x.kv ∧ (pf 5) = [] := hR 5 (by decide)
      have q6 : (vf 6) = .int .i64 (i : Int) ∧ (pf 6) = [] := hR 6 (by decide)
      have q7 : (vf 7) = elP x.kv (((i : Int)).toNat * 1) ∧ (pf 7) = [] := hR 7 (by decide)
      have q8 : (vf 8) = .int .i64 (x.ks.getD i 0) ∧ (pf 8) = [] := hR 8 (by decide)
      have q9 : (vf 9) = .int .i64 (e + (x.ks.getD i 0)) ∧ (pf 9) = [] := hR 9 (by decide)
      have q10 : (vf 10) = .pointer (some ⟨b1, 0 + 4, none⟩) ∧ (pf 10) = [] := hR 10 (by decide)
      have q11 : (vf 11) = .pointer (some ⟨b1, 0 + 4 + 1, none⟩) ∧ (pf 11) = [] := hR 11 (by decide)
      have q12 : (vf 12) = x.qv ∧ (pf 12) = [] := hR 12 (by decide)
      have q13 : (vf 13) = .int .i64 (i : Int) ∧ (pf 13) = [] := hR 13 (by decide)
      have q14 : (vf 14) = elP x.qv (((i : Int)).toNat * 1) ∧ (pf 14) = [] := hR 14 (by decide)
      have q15 : (vf 15) = (x.ds.getD i ir0).v ∧ (pf 15) = [] := hR 15 (by decide)
      have q16 : (vf 16) = .int .i64 (j : Int) ∧ (pf 16) = [] := hR 16 (by decide)
      have q17 : (vf 17) = elP ((x.ds.getD i ir0).v) (((j : Int)).toNat * 1) ∧ (pf 17) = [] := hR 17 (by decide)
      have q18 : (vf 18) = .int .i64 (((x.ds.getD i ir0).xs).getD j 0) ∧ (pf 18) = [] := hR 18 (by decide)
      have q19 : (vf 19) = .int .i64 ((e + (x.ks.getD i 0)) - (((x.ds.getD i ir0).xs).getD j 0)) ∧ (pf 19) = [] := hR 19 (by decide)
      have q20 : (vf 20) = .int .i64 (smpV x (wvsL x (1100 : Int).toNat x.n.cnt.toNat) e i j) ∧ (pf 20) = [] := hR 20 (by decide)
      refine hl_less (l' := [rowE 3 1 (.slice (some ⟨g14, 0, none⟩) 1 1) 1 ([smpV x (wvsL x (1100 : Int).toNat x.n.cnt.toNat) e i j].map (Value.int .i64)), boxE b11 #[.int .i64 ((x.n.ss.getD i sq0).kd), .int .i64 ((x.n.ss.getD i sq0).it), (x.n.ss.getD i sq0).iv] 71, rowE 3 1 u2 ys.length (ys.map (Value.int .i64)), irsE av es, boxE b #[bv, av] 92, rowE 3 1 bv ((ovX x).length) ((ovX x).map (Value.int .i64)), rowE 3 1 (.slice none 0 0) 0 ([]), boxE b1 #[.int .i64 x.n.ins, x.n.sv, x.n.lv, x.n.ov, x.pv, x.qv, x.kv, x.av, x.bv, .int .i64 x.oi, .int .i64 x.ni] 40]) (sx 0 rfl (sx 1 rfl (sx 2 rfl (sx 4 rfl (sx 5 rfl (sx 6 rfl (sx 7 rfl (sx 8 rfl (sx 9 rfl (sx 10 rfl (sx 18 rfl (sx 23 rfl (sx 24 rfl (sx 25 rfl (sx 26 rfl (sx 31 rfl (sx 32 rfl (sx 33 rfl (sx 34 rfl (sx 38 (congrArg some e0.1) (sx 59 (congrArg some v21) (sub_nil _)))))))))))))))))))))) (by first | (simp only [p21, v21, q0.2, q1.2, q2.2, q3.2, q4.2, q5.2, q6.2, q7.2, q8.2, q9.2, q10.2, q11.2, q12.2, q13.2, q14.2, q15.2, q16.2, q17.2, q18.2, q19.2, q20.2, List.flatMap_cons, List.flatMap_nil, List.append_nil, List.nil_append, List.cons_append]; exact List.Sublist.refl _) | simp [p21, v21, q0.2, q1.2, q2.2, q3.2, q4.2, q5.2, q6.2, q7.2, q8.2, q9.2, q10.2, q11.2, q12.2, q13.2, q14.2, q15.2, q16.2, q17.2, q18.2, q19.2, q20.2]) ?_
      simp only [List.drop_succ_cons, List.drop_zero]
      refine hl_append (i := 2) (z := .int .i64 0) (bytes := 8) (n' := (ys ++ ([smpV x (wvsL x (1100 : Int).toNat x.n.cnt.toNat) e i j])).length) (xs' := ((ys ++ ([smpV x (wvsL x (1100 : Int).toNat x.n.cnt.toNat) e i j])).map (Value.int .i64))) (L := fun v15 => [rowE 3 1 (.slice (some ⟨g14, 0, none⟩) 1 1) 1 ([smpV x (wvsL x (1100 : Int).toNat x.n.cnt.toNat) e i j].map (Value.int .i64)), boxE b11 #[.int .i64 ((x.n.ss.getD i sq0).kd), .int .i64 ((x.n.ss.getD i sq0).it), (x.n.ss.getD i sq0).iv] 71, rowE 3 1 v15 ((ys ++ ([smpV x (wvsL x (1100 : Int).toNat x.n.cnt.toNat) e i j])).length) ((ys ++ ([smpV x (wvsL x (1100 : Int).toNat x.n.cnt.toNat) e i j])).map (Value.int .i64)), irsE av es, boxE b #[bv, av] 92, rowE 3 1 bv ((ovX x).length) ((ovX x).map (Value.int .i64)), rowE 3 1 (.slice none 0 0) 0 ([]), boxE b1 #[.int .i64 x.n.ins, x.n.sv, x.n.lv, x.n.ov, x.pv, x.qv, x.kv, x.av, x.bv, .int .i64 x.oi, .int .i64 x.ni] 40]) rfl rfl rfl rfl Try.underlying24 (by kernel_rfl) (by kernel_rfl) rfl rfl rfl (rd_row 0 rfl) (ints_one _) (by first | omega | (simp; omega)) (len_app ys ([smpV x (wvsL x (1100 : Int).toNat x.n.cnt.toNat) e i j])) (ints_app ys ([smpV x (wvsL x (1100 : Int).toNat x.n.cnt.toNat) e i j])) (fun _ => rfl) ?_
      intro v15
      refine hl_v rfl rfl rfl (rv_ev rfl) ?_
      refine hl_less (sx 0 rfl (sx 1 rfl (sx 2 rfl (sx 4 rfl (sx 5 rfl (sx 6 rfl (sx 7 rfl (sx 8 rfl (sx 9 rfl (sx 10 rfl (sx 18 rfl (sx 23 rfl (sx 24 rfl (sx 25 rfl (sx 26 rfl (sx 31 rfl (sx 32 rfl (sx 33 rfl (sx 34 rfl (sub_nil _)))))))))))))))))))) (.refl _) ?_
      refine hl_nil ?_
      refine hq_block_normal ?_
      refine hq_then ?_
      refine hc_region ?_
      refine hl_v rfl rfl rfl (rv_add rfl rfl rfl (by constructor <;> omega)) ?_
      refine hl_v rfl rfl rfl (rv_ev rfl) ?_
      refine hl_less (sx 0 rfl (sx 1 rfl (sx 2 rfl (sx 4 rfl (sx 5 rfl (sx 6 rfl (sx 7 rfl (sx 8 rfl (sx 9 rfl (sx 10 rfl (sx 18 rfl (sx 23 rfl (sx 24 rfl (sx 25 rfl (sx 26 rfl (sx 31 rfl (sx 32 rfl (sx 33 rfl (sx 34 rfl (sub_nil _)))))))))))))))))))) (.refl _) ?_
      refine hl_nil ?_
      exact hq_round3 (j + 1) v15 (ys ++ ([smpV x (wvsL x (1100 : Int).toNat x.n.cnt.toNat) e i j])) ⟨by omega, by rw [hy, smpI_succ, List.append_assoc], by rw [List.length_append, List.length_singleton]; omega⟩ (by omega) (sx 0 rfl (sx 1 rfl (sx 2 rfl (sx 4 rfl (sx 5 rfl (sx 6 rfl (sx 7 rfl (sx 8 rfl (sx 18 rfl (sx 23 rfl (sx 24 rfl (sx 25 rfl (sx 26 rfl (sx 31 rfl (sx 32 rfl (sx 33 rfl (sub_nil _))))))))))))))))) ((.cons _ (.cons_cons _ (.cons_cons _ (.cons_cons _ (.cons_cons _ (.cons_cons _ (.cons_cons _ (.cons_cons _ .slnil)))))))))
    ·
     refine hl_less (sx 0 rfl (sx 1 rfl (sx 2 rfl (sx 4 rfl (sx 5 rfl (sx 6 rfl (sx 7 rfl (sx 8 rfl (sx 18 rfl (sx 23 rfl (sx 24 rfl (sx 25 rfl (sx 26 rfl (sx 31 rfl (sx 32 rfl (sx 33 rfl (sx 34 rfl (sub_nil _)))))))))))))))))) (.refl _) ?_
     refine hl_nil ?_
     refine hq_then ?_
     refine hc_seq ?_
     refine hc_false rfl ?_
     refine hc_exit ?_
     refine hq_then_exit ?_
     refine hq_then_exit ?_
     refine hq_block_exit ?_
     refine hq_block_normal ?_
     refine hq_then ?_
     refine hc_region ?_
     refine hl_v rfl rfl rfl (rv_add rfl rfl rfl (by constructor <;> omega)) ?_
     refine hl_v rfl rfl rfl (rv_ev rfl) ?_
     refine hl_less (sx 0 rfl (sx 1 rfl (sx 2 rfl (sx 4 rfl (sx 5 rfl (sx 6 rfl (sx 7 rfl (sx 8 rfl (sx 18 rfl (sx 23 rfl (sx 24 rfl (sx 25 rfl (sx 26 rfl (sx 31 rfl (sx 32 rfl (sx 33 rfl (sx 34 rfl (sub_nil _)))))))))))))))))) (.refl _) ?_
     refine hl_nil ?_
     exact hq_round3 (i + 1) u2 ys ⟨by omega, by rw [hy, show j = (x.n.ss.getD i sq0).xs.length by omega]; rfl, by omega⟩ (by omega) (sx 0 rfl (sx 1 rfl (sx 2 rfl (sx 4 rfl (sx 5 rfl (sx 6 rfl (sx 18 rfl (sx 23 rfl (sx 24 rfl (sx 25 rfl (sub_nil _))))))))))) ((.cons _ (.cons_cons _ (.cons_cons _ (.cons_cons _ (.cons_cons _ (.cons_cons _ (.cons_cons _ .slnil))))))))
   ·
    refine hl_less (sx 0 rfl (sx 1 rfl (sx 2 rfl (sx 4 rfl (sx 5 rfl (sx 6 rfl (sx 18 rfl (sx 23 rfl (sx 24 rfl (sx 25 rfl (sx 26 rfl (sub_nil _)))))))))))) (.refl _) ?_
    refine hl_nil ?_
    refine hq_then ?_
    refine hc_seq ?_
    refine hc_false rfl ?_
    refine hc_exit ?_
    refine hq_then_exit ?_
    refine hq_then_exit ?_
    refine hq_block_exit ?_
    refine hq_then ?_
    refine hc_seq ?_
    refine hc_region ?_
    refine hl_v rfl rfl rfl (rv_ev rfl) ?_
    refine hl_v rfl rfl rfl (rv_ev rfl) ?_
    refine hl_less (sx 0 rfl (sx 1 rfl (sx 2 rfl (sx 4 rfl (sx 5 rfl (sx 6 rfl (sx 18 rfl (sx 23 rfl (sx 24 rfl (sx 25 rfl (sx 26 rfl (sub_nil _)))))))))))) (.refl _) ?_
    refine hl_nil ?_
    refine hq_then ?_
    refine hc_ret ?_
    have hsR : zs = smpR x e := by rw [smpR_ok hok (by omega) (a := (1100 : Int).toNat) (by omega), hz, show i = x.n.ss.length by omega]
    exact hq_retR (post := [rowE 3 1 u zs.length (zs.map (Value.int .i64))]) rfl rfl ((.cons_cons _ (.cons _ (.cons _ (.cons _ (.cons _ (.cons _ .slnil))))))) (by first | (rw [hsR]; done) | (rw [hsR]; rfl))
  ·
   have h4a := inR_notL h4
   refine hl_v rfl rfl rfl (rv_ev rfl) ?_
   refine hl_v rfl rfl rfl (rv_ev rfl) ?_
   refine hl_less (sx 0 rfl (sx 1 rfl (sx 2 rfl (sx 4 rfl (sx 18 rfl (sub_nil _)))))) (.refl _) ?_
   refine hl_nil ?_
   refine hq_then ?_
   refine hc_true rfl ?_
   refine hc_seq ?_
   refine hc_region ?_
   refine hl_nilRow 3 1 ?_
   refine hl_v rfl rfl rfl (rv_ev rfl) ?_
   refine hl_less (sx 0 rfl (sx 1 rfl (sx 2 rfl (sx 4 rfl (sx 18 rfl (sub_nil _)))))) (.refl _) ?_
   refine hl_nil ?_
   refine hq_then ?_
   refine hc_ret ?_
   refine hq_then_ret ?_
   have hsR : smpR x e = [] := by first | exact smpR_no (.inl hno) | exact smpR_no (.inr (by omega))
   exact hq_retR (post := [rowE 3 1 (.slice none 0 0) 0 ([])]) rfl rfl ((.cons_cons _ (.cons _ (.cons _ .slnil)))) (by first | (rw [hsR]; done) | (rw [hsR]; rfl))
 ·
  have hno := of_pBn h3
  refine hl_v rfl rfl rfl (rv_ev rfl) ?_
  refine hl_v rfl rfl rfl (rv_ev rfl) ?_
  refine hl_skip rfl rfl rfl ?_
  refine hl_skip rfl rfl rfl ?_
  refine hl_skip rfl rfl rfl ?_
  refine hl_v rfl rfl rfl (rv_ev rfl) ?_
  refine hl_less (sx 0 rfl (sx 1 rfl (sx 2 rfl (sx 4 rfl (sx 18 rfl (sub_nil _)))))) (.refl _) ?_
  refine hl_nil ?_
  refine hq_then ?_
  refine hc_true rfl ?_
  refine hc_seq ?_
  refine hc_region ?_
  refine hl_nilRow 3 1 ?_
  refine hl_v rfl rfl rfl (rv_ev rfl) ?_
  refine hl_less (sx 0 rfl (sx 1 rfl (sx 2 rfl (sx 4 rfl (sx 18 rfl (sub_nil _)))))) (.refl _) ?_
  refine hl_nil ?_
  refine hq_then ?_
  refine hc_ret ?_
  refine hq_then_ret ?_
  have hsR : smpR x e = [] := by first | exact smpR_no (.inl hno) | exact smpR_no (.inr (by omega))
  exact hq_retR (post := [rowE 3 1 (.slice none 0 0) 0 ([])]) rfl rfl ((.cons_cons _ (.cons _ (.cons _ .slnil)))) (by first | (rw [hsR]; done) | (rw [hsR]; rfl))
set_option maxHeartbeats 4000000 in
set_option maxRecDepth 100000 in
theorem specSampledAt_ret (x : Td) (e : Int) (w : World) (hr : RdsTd w x) :
  Calls Try.prog 38 #[.agg #[.int .i64 x.n.ins, x.n.sv, x.n.lv, x.n.ov, x.pv, x.qv, x.kv, x.av, x.bv, .int .i64 x.oi, .int .i64 x.ni], .int .i64 e] w (Ret w (fun v' post => post = [rowE 3 1 v' (smpR x e).length ((smpR x e).map (Value.int .i64))])) := by
 have t1 := sml hr.ks
 have t2 := sml hr.ao
 have t3 := sml hr.bs
 have t4 := hr.dl.small
 have t5 := hr.ds.small
 have t6 := hr.n.sq.small
 have t7 := hr.n.lt.small
 have t8 := sml hr.n.ou
 have hcnt : x.n.cnt = 1 + x.n.ins + x.n.ss.length + x.n.ls.length := rfl
 have hfst : x.n.fst = 1 + x.n.ins + x.n.ss.length := rfl
 refine calls_hc (N := 92) (args := [.agg #[.int .i64 x.n.ins, x.n.sv, x.n.lv, x.n.ov, x.pv, x.qv, x.kv, x.av, x.bv, .int .i64 x.oi, .int .i64 x.ni], .int .i64 e]) Try.func38 rfl rfl ?_
 refine hc_less _ (sx 0 rfl (sx 1 rfl (sub_nil _))) (.refl _) ?_
 refine hc_seq ?_
 refine hc_region ?_
 refine hl_box rfl rfl rfl (rq_box rfl rfl) ?_
 intro b1
 refine hl_nilRow 3 1 ?_
 refine hl_v rfl rfl rfl (rv_ev rfl) ?_
 refine hl_less (sx 0 rfl (sx 1 rfl (sx 2 rfl (sx 4 rfl (sub_nil _))))) (.refl _) ?_
 refine hl_nil ?_
 refine hq_then ?_
 refine hc_seq ?_
 refine hc_region ?_
 refine hl_row rfl rfl rfl (rq_slice0 (s := 1) rfl Try.underlying24 (by kernel_rfl)) ?_
 intro g3
 refine hl_v rfl rfl rfl (rv_ev rfl) ?_
 refine hl_less (sx 0 rfl (sx 1 rfl (sx 2 rfl (sx 4 rfl (sx 5 rfl (sub_nil _)))))) (.refl _) ?_
 refine hl_nil ?_
 refine hq_then ?_
 refine hc_seq ?_
 refine hc_seq ?_
 refine hc_region ?_
 refine hl_v rfl rfl rfl (rv_loadN (cs := [.int .i64 x.n.ins, x.n.sv, x.n.lv, x.n.ov, x.pv, x.qv, x.kv, x.av, x.bv, .int .i64 x.oi, .int .i64 x.ni]) rfl (by kernel_rfl) (by kernel_rfl) rfl rfl (box_part 2 rfl 0 rfl)) ?_
 refine hl_callV rfl rfl rfl (rq_call (by kernel_rfl) rfl (fun w hm => ret_ans (specTimedOk_ans x w (hr.below hm.bel)))) ?_
 refine hl_bool (fun h4 => ?_) (fun h4 => ?_)
 ·
  have hok := of_pB h4
  obtain ⟨ci, cs_, cl, ck, ca, cb, cd, ce⟩ := hok.bnd
  have hi0 := ci.1
  have hi1 := ci.2
  refine hl_v rfl rfl rfl (rv_ev rfl) ?_
  refine hl_v rfl rfl rfl (rv_ev rfl) ?_
  refine hl_v rfl rfl rfl (rv_ev rfl) ?_
  refine hl_callV rfl rfl rfl (rq_call (by kernel_rfl) rfl (fun w hm => ret_ans (l01In_ans e 0 1000 w))) ?_
  refine hl_bool (fun h5 => ?_) (fun h5 => ?_)
  ·
   obtain ⟨h5a, h5b⟩ := (inR_iff _ _ _).1 h5
   refine hl_v rfl rfl rfl (rv_ev rfl) ?_
   refine hl_v rfl rfl rfl (rv_ev rfl) ?_
   refine hl_less (sx 0 rfl (sx 1 rfl (sx 2 rfl (sx 4 rfl (sx 5 rfl (sx 19 rfl (sub_nil _))))))) (.refl _) ?_
   refine hl_nil ?_
   refine hq_then ?_
   refine hc_false rfl ?_
   refine hc_skip ?_
   refine hq_then ?_
   refine hc_seq ?_
   refine hc_region ?_
   refine hl_v rfl rfl rfl (rv_field (k0 := 0) rfl (by kernel_rfl) rfl) ?_
   refine hl_v rfl rfl rfl (rv_loadN (cs := [.int .i64 x.n.ins, x.n.sv, x.n.lv, x.n.ov]) rfl (by kernel_rfl) (by kernel_rfl) rfl rfl (box_part 2 rfl 0 rfl)) ?_
   refine hl_v rfl rfl rfl (rv_field (k0 := 7) rfl (by kernel_rfl) rfl) ?_
   refine hl_v rfl rfl rfl (rv_load rfl (by kernel_rfl) rfl (box_cell 2 rfl rfl)) ?_
   refine hl_v rfl rfl rfl (rv_field (k0 := 9) rfl (by kernel_rfl) rfl) ?_
   refine hl_v rfl rfl rfl (rv_load rfl (by kernel_rfl) rfl (box_cell 2 rfl rfl)) ?_
   refine hl_q rfl rfl rfl (rq_call (by kernel_rfl) rfl (fun w hm => specLutValues_ret x.n x.ao _ x.oi w (hr.n.below hm.bel) (hr.ao.below hm.bel) hok.n hok.a)) ?_
   intro v6 p7 hR8
   subst hR8
   refine hl_v rfl rfl rfl (rv_ev rfl) ?_
   refine hl_less (sx 0 rfl (sx 1 rfl (sx 2 rfl (sx 4 rfl (sx 5 rfl (sx 6 rfl (sx 19 rfl (sub_nil _)))))))) (.refl _) ?_
   refine hl_nil ?_
   refine hq_then ?_
   refine hc_seq ?_
   refine hc_region ?_
   refine hl_v rfl rfl rfl (rv_loadN (cs := [.int .i64 x.n.ins, x.n.sv, x.n.lv, x.n.ov, x.pv, x.qv, x.kv, x.av, x.bv, .int .i64 x.oi, .int .i64 x.ni]) rfl (by kernel_rfl) (by kernel_rfl) rfl rfl (box_part 3 rfl 0 rfl)) ?_
   refine hl_v rfl rfl rfl (rv_ev rfl) ?_
   refine hl_v rfl rfl rfl (rv_add rfl rfl rfl (by constructor <;> omega)) ?_
   refine hl_q rfl rfl rfl (rq_call (by kernel_rfl) rfl (fun w hm => l37Waves_ret x (e + 50) w (hr.below hm.bel) hok (by omega))) ?_
   intro v9 p10 hR11
   obtain ⟨es, rfl, hw⟩ := hR11
   have hwl := hw.len
   refine hl_v rfl rfl rfl (rv_ev rfl) ?_
   refine hl_less (sx 0 rfl (sx 1 rfl (sx 2 rfl (sx 4 rfl (sx 5 rfl (sx 6 rfl (sx 7 rfl (sx 19 rfl (sub_nil _))))))))) (.refl _) ?_
   refine hl_nil ?_
   refine hq_then ?_
   refine hc_seq ?_
   refine hc_seq ?_
   refine hc_region ?_
   refine hl_v rfl rfl rfl (rv_ev rfl) ?_
   refine hl_less (sx 0 rfl (sx 1 rfl (sx 2 rfl (sx 4 rfl (sx 5 rfl (sx 6 rfl (sx 7 rfl (sx 8 rfl (sx 19 rfl (sub_nil _)))))))))) (.refl _) ?_
   refine hl_nil ?_
   refine hq_then ?_
   refine hc_block ?_
   refine hc_loop3 (α := Nat) (β := Value) (γ := List Int) (fun i u zs => [irsE v9 es, rowE 3 1 v6 ((valT x.n x.ao x.oi).length) ((valT x.n x.ao x.oi).map (Value.int .i64)), rowE 3 1 u zs.length (zs.map (Value.int .i64)), rowE 3 1 (.slice none 0 0) 0 ([]), boxE b1 #[.int .i64 x.n.ins, x.n.sv, x.n.lv, x.n.ov, x.pv, x.qv, x.kv, x.av, x.bv, .int .i64 x.oi, .int .i64 x.ni] 40]) (fun i u zs => [(0, .agg #[.int .i64 x.n.ins, x.n.sv, x.n.lv, x.n.ov, x.pv, x.qv, x.kv, x.av, x.bv, .int .i64 x.oi, .int .i64 x.ni]), (1, .int .i64 e), (2, .pointer (some ⟨b1, 0, none⟩)), (4, .slice none 0 0), (5, u), (6, v6), (7, v9), (8, .int .i64 (i : Int)), (19, .bool false)]) (fun i u zs => i ≤ x.n.ss.length ∧ zs = smpL x (wvsL x (e + 50).toNat x.n.cnt.toNat) e i ∧ zs.length ≤ 4 * i) (fun i u zs => x.n.ss.length - i) 0 _ [] ⟨Nat.zero_le _, rfl, by simp⟩ (sx 0 rfl (sx 1 rfl (sx 2 rfl (sx 4 rfl (sx 5 rfl (sx 6 rfl (sx 7 rfl (sx 8 rfl (sx 19 rfl (sub_nil _)))))))))) ((.cons_cons _ (.cons_cons _ (.cons_cons _ (.cons_cons _ (.cons_cons _ .slnil)))))) ?_
   intro i u zs hi12
   obtain ⟨hi, hz, hzl⟩ := hi12
   refine hc_seq ?_
   refine hc_seq ?_
   refine hc_region ?_
   refine hl_v rfl rfl rfl (rv_ev rfl) ?_
   refine hl_v rfl rfl rfl (rv_field (k0 := 0) rfl (by kernel_rfl) rfl) ?_
   refine hl_v rfl rfl rfl (rv_field (k0 := 1) rfl (by kernel_rfl) rfl) ?_
   refine hl_v rfl rfl rfl (rv_load rfl (by kernel_rfl) rfl (box_cell 4 rfl rfl)) ?_
   refine hl_v rfl rfl rfl (rv_len rfl Try.underlying34 rfl (rd_old ((hr).n.sq.row))) ?_
   refine hl_lss rfl rfl rfl rfl rfl rfl (fun h13 => ?_) (fun h13 => ?_)
   ·
    refine hl_less (sx 0 rfl (sx 1 rfl (sx 2 rfl (sx 4 rfl (sx 5 rfl (sx 6 rfl (sx 7 rfl (sx 8 rfl (sx 19 rfl (sx 37 rfl (sub_nil _))))))))))) (.refl _) ?_
    refine hl_nil ?_
    refine hq_then ?_
    refine hc_true rfl ?_
    refine hc_skip ?_
    refine hq_then ?_
    refine hc_seq ?_
    refine hc_block ?_
    refine hc_seq ?_
    refine hc_region ?_
    have hx4 := (hok.n.sq i (by omega)).1.len
    have hdl : (x.ds.getD i ir0).xs.length = (x.n.ss.getD i sq0).xs.length := by have := (hok.ds i (by omega)).1; omega
    refine hl_v rfl rfl rfl (rv_ev rfl) ?_
    refine hl_less (sx 0 rfl (sx 1 rfl (sx 2 rfl (sx 4 rfl (sx 5 rfl (sx 6 rfl (sx 7 rfl (sx 8 rfl (sx 9 rfl (sx 19 rfl (sx 37 rfl (sub_nil _)))))))))))) (.refl _) ?_
    refine hl_nil ?_
    refine hq_then ?_
    refine hc_block ?_
    refine hc_loop3 (α := Nat) (β := Value) (γ := List Int) (fun j u2 ys => [irsE v9 es, rowE 3 1 v6 ((valT x.n x.ao x.oi).length) ((valT x.n x.ao x.oi).map (Value.int .i64)), rowE 3 1 u2 ys.length (ys.map (Value.int .i64)), rowE 3 1 (.slice none 0 0) 0 ([]), boxE b1 #[.int .i64 x.n.ins, x.n.sv, x.n.lv, x.n.ov, x.pv, x.qv, x.kv, x.av, x.bv, .int .i64 x.oi, .int .i64 x.ni] 40]) (fun j u2 ys => [(0, .agg #[.int .i64 x.n.ins, x.n.sv, x.n.lv, x.n.ov, x.pv, x.qv, x.kv, x.av, x.bv, .int .i64 x.oi, .int .i64 x.ni]), (1, .int .i64 e), (2, .pointer (some ⟨b1, 0, none⟩)), (4, .slice none 0 0), (5, u2), (6, v6), (7, v9), (8, .int .i64 (i : Int)), (9, .int .i64 (j : Int)), (19, .bool false), (37, .bool true)]) (fun j u2 ys => j ≤ (x.n.ss.getD i sq0).xs.length ∧ ys = smpL x (wvsL x (e + 50).toNat x.n.cnt.toNat) e i ++ smpI x (wvsL x (e + 50).toNat x.n.cnt.toNat) e i j ∧ ys.length ≤ 4 * i + j) (fun j u2 ys => (x.n.ss.getD i sq0).xs.length - j) 0 _ zs ⟨Nat.zero_le _, by rw [hz]; exact (List.append_nil _).symm, by omega⟩ (sx 0 rfl (sx 1 rfl (sx 2 rfl (sx 4 rfl (sx 5 rfl (sx 6 rfl (sx 7 rfl (sx 8 rfl (sx 9 rfl (sx 19 rfl (sx 37 rfl (sub_nil _)))))))))))) ((.cons_cons _ (.cons_cons _ (.cons_cons _ (.cons_cons _ (.cons_cons _ .slnil)))))) ?_
    intro j u2 ys hi14
    obtain ⟨hj, hy, hyl⟩ := hi14
    refine hc_seq ?_
    refine hc_seq ?_
    refine hc_region ?_
    refine hl_v rfl rfl rfl (rv_ev rfl) ?_
    refine hl_v rfl rfl rfl (rv_field (k0 := 0) rfl (by kernel_rfl) rfl) ?_
    refine hl_v rfl rfl rfl (rv_field (k0 := 1) rfl (by kernel_rfl) rfl) ?_
    refine hl_v rfl rfl rfl (rv_load rfl (by kernel_rfl) rfl (box_cell 4 rfl rfl)) ?_
    refine hl_v rfl rfl rfl (rv_ev rfl) ?_
    refine hl_v rfl rfl rfl (rv_index (s := 3) rfl Try.underlying34 (by kernel_rfl) rfl rfl (rd_old ((hr).n.sq.row)) (by omega) (by first | omega | (simp only [List.length_set]; omega))) ?_
    refine hl_v rfl rfl rfl (rv_fieldEl (k0 := 2) rfl (by kernel_rfl) rfl (rd_old ((hr).n.sq.row)) (by first | omega | (simp only [List.length_set]; omega))) ?_
    refine hl_v rfl rfl rfl (rv_loadEl (u := (x.n.ss.getD i sq0).iv) rfl (by kernel_rfl) rfl (rd_old ((hr).n.sq.row)) ((flat_at sqC 3 (fun _ => rfl) x.n.ss sq0 (show i < _ by first | omega | (simp only [List.length_set]; omega)) (by decide)).trans rfl)) ?_
    refine hl_v rfl rfl rfl (rv_len rfl Try.underlying24 rfl (rd_old ((hr).n.sq.at (d := sq0) (k := i) (by omega)))) ?_
    refine hl_lss rfl rfl rfl rfl rfl rfl (fun h15 => ?_) (fun h15 => ?_)
    ·
     refine hl_less (sx 0 rfl (sx 1 rfl (sx 2 rfl (sx 4 rfl (sx 5 rfl (sx 6 rfl (sx 7 rfl (sx 8 rfl (sx 9 rfl (sx 19 rfl (sx 37 rfl (sx 49 rfl (sub_nil _))))))))))))) (.refl _) ?_
     refine hl_nil ?_
     refine hq_then ?_
     refine hc_true rfl ?_
     refine hc_skip ?_
     refine hq_then ?_
     refine hc_seq ?_
     refine hc_block ?_
     refine hc_seq ?_
     refine hc_region ?_
     refine hl_v rfl rfl rfl (rv_field (k0 := 0) rfl (by kernel_rfl) rfl) ?_
     refine hl_v rfl rfl rfl (rv_field (k0 := 1) rfl (by kernel_rfl) rfl) ?_
     refine hl_v rfl rfl rfl (rv_load rfl (by kernel_rfl) rfl (box_cell 4 rfl rfl)) ?_
     refine hl_v rfl rfl rfl (rv_ev rfl) ?_
     refine hl_v rfl rfl rfl (rv_index (s := 3) rfl Try.underlying34 (by kernel_rfl) rfl rfl (rd_old ((hr).n.sq.row)) (by omega) (by first | omega | (simp only [List.length_set]; omega))) ?_
     refine hl_v rfl rfl rfl (rv_fieldEl (k0 := 2) rfl (by kernel_rfl) rfl (rd_old ((hr).n.sq.row)) (by first | omega | (simp only [List.length_set]; omega))) ?_
     refine hl_v rfl rfl rfl (rv_loadEl (u := (x.n.ss.getD i sq0).iv) rfl (by kernel_rfl) rfl (rd_old ((hr).n.sq.row)) ((flat_at sqC 3 (fun _ => rfl) x.n.ss sq0 (show i < _ by first | omega | (simp only [List.length_set]; omega)) (by decide)).trans rfl)) ?_
     refine hl_v rfl rfl rfl (rv_ev rfl) ?_
     refine hl_v rfl rfl rfl (rv_index (s := 1) rfl Try.underlying24 (by kernel_rfl) rfl rfl (rd_old ((hr).n.sq.at (d := sq0) (k := i) (by omega))) (by omega) (by first | omega | (simp only [List.length_set]; omega))) ?_
     refine hl_v rfl rfl rfl (rv_loadEl (u := .int .i64 (((x.n.ss.getD i sq0).xs).getD j 0)) rfl (by kernel_rfl) rfl (rd_old ((hr).n.sq.at (d := sq0) (k := i) (by omega))) (ints_at1 (show _ < ((x.n.ss.getD i sq0).xs).length by first | omega | (simp only [List.length_set]; omega)))) ?_
     refine hl_v rfl rfl rfl (rv_ev rfl) ?_
     refine hl_less (sx 0 rfl (sx 1 rfl (sx 2 rfl (sx 4 rfl (sx 5 rfl (sx 6 rfl (sx 7 rfl (sx 8 rfl (sx 9 rfl (sx 10 rfl (sx 19 rfl (sx 37 rfl (sx 49 rfl (sub_nil _)))))))))))))) (.refl _) ?_
     refine hl_nil ?_
     refine hq_then ?_
     have hns := (hok.n.sq i (by omega)).2 j (by omega)
     have hds := (hok.ds i (by omega)).2 j (by omega)
     have hks := hok.k.2 i (by omega)
     have hov : (ovX x).length = x.n.cnt.toNat := by have := vl_len x.n x.ao x.oi x.n.ls.length; show (vlL _ _ _ _).length = _; omega
     have hov2 : (valT x.n x.ao x.oi).length = x.n.cnt.toNat := hov
     refine hc_draw (by kernel_rfl) 28 [0, 1, 2, 3, 4, 5, 6, 7, 8, 9, 10, 11, 12, 13, 14, 15, 16, 17, 18, 19, 20, 21, 22, 23, 24, 25, 26, 27] (List.take 28 _) (List.drop 28 _) [[], [], [], [1, 2], [3], [], [], [5, 6], [7], [], [], [10], [], [11, 12], [13], [9, 14], [], [16], [17], [], [18, 19], [20], [], [21, 22], [23], [15, 24], [4, 8, 25], [26]] [62, 63, 64, 65, 66, 67, 68, 69, 70, 71, 72, 73, 74, 75, 76, 77, 78, 79, 80, 81, 82, 83, 84, 85, 86, 87, 88, 89] (fun i_ vs_ v_ p_ => match i_ with | 0 => v_ = u2 ∧ p_ = [] | 1 => v_ = v9 ∧ p_ = [] | 2 => v_ = .int .i64 (((x.n.ss.getD i sq0).xs).getD j 0) ∧ p_ = [] | 3 => v_ = elP v9 ((((x.n.ss.getD i sq0).xs).getD j 0).toNat * 1) ∧ p_ = [] | 4 => v_ = (es.getD ((x.n.ss.getD i sq0).xs.getD j 0).toNat ir0).v ∧ p_ = [] | 5 => v_ = v6 ∧ p_ = [] | 6 => v_ = .int .i64 (((x.n.ss.getD i sq0).xs).getD j 0) ∧ p_ = [] | 7 => v_ = elP v6 ((((x.n.ss.getD i sq0).xs).getD j 0).toNat * 1) ∧ p_ = [] | 8 => v_ = .int .i64 ((valT x.n x.ao x.oi).getD ((((x.n.ss.getD i sq0).xs).getD j 0).toNat) 0) ∧ p_ = [] | 9 => v_ = .int .i64 e ∧ p_ = [] | 10 => v_ = .pointer (some ⟨b1, 0 + 6, none⟩) ∧ p_ = [] | 11 => v_ = x.kv ∧ p_ = [] | 12 => v_ = .int .i64 (i : Int) ∧ p_ = [] | 13 => v_ = elP x.kv (((i : Int)).toNat * 1) ∧ p_ = [] | 14 => v_ = .int .i64 (x.ks.getD i 0) ∧ p_ = [] | 15 => v_ = .int .i64 (e + (x.ks.getD i 0)) ∧ p_ = [] | 16 => v_ = .pointer (some ⟨b1, 0 + 4, none⟩) ∧ p_ = [] | 17 => v_ = .pointer (some ⟨b1, 0 + 4 + 1, none⟩) ∧ p_ = [] | 18 => v_ = x.qv ∧ p_ = [] | 19 => v_ = .int .i64 (i : Int) ∧ p_ = [] | 20 => v_ = elP x.qv (((i : Int)).toNat * 1) ∧ p_ = [] | 21 => v_ = (x.ds.getD i ir0).v ∧ p_ = [] | 22 => v_ = .int .i64 (j : Int) ∧ p_ = [] | 23 => v_ = elP ((x.ds.getD i ir0).v) (((j : Int)).toNat * 1) ∧ p_ = [] | 24 => v_ = .int .i64 (((x.ds.getD i ir0).xs).getD j 0) ∧ p_ = [] | 25 => v_ = .int .i64 ((e + (x.ks.getD i 0)) - (((x.ds.getD i ir0).xs).getD j 0)) ∧ p_ = [] | 26 => v_ = .int .i64 (smpV x (wvsL x (e + 50).toNat x.n.cnt.toNat) e i j) ∧ p_ = [] | 27 => IsRow_o 3 1 1 ([smpV x (wvsL x (e + 50).toNat x.n.cnt.toNat) e i j].map (Value.int .i64)) v_ p_ | _ => True) (List.take_append_drop 28 _).symm (by kernel_rfl) (by kernel_rfl) rfl rfl ?_ ?_
     ·
      refine ⟨?_, ?_, ?_, ?_, ?_, ?_, ?_, ?_, ?_, ?_, ?_, ?_, ?_, ?_, ?_, ?_, ?_, ?_, ?_, ?_, ?_, ?_, ?_, ?_, ?_, ?_, ?_, ?_, trivial⟩
      ·
       intro vf pf hR
       refine Or.inl ⟨rfl, ?_⟩
       refine rq_less (sx 5 rfl (sub_nil _)) (List.sublist_append_right _ _) ?_
       exact rq_v (rv_ev rfl)
      ·
       intro vf pf hR
       refine Or.inl ⟨rfl, ?_⟩
       refine rq_less (sx 7 rfl (sub_nil _)) (List.sublist_append_right _ _) ?_
       exact rq_v (rv_ev rfl)
      ·
       intro vf pf hR
       refine Or.inl ⟨rfl, ?_⟩
       refine rq_less (sx 10 rfl (sub_nil _)) (List.sublist_append_right _ _) ?_
       exact rq_v (rv_ev rfl)
      ·
       intro vf pf hR
       have e1 : (vf 1) = v9 ∧ (pf 1) = [] := hR 1 (by decide)
       have e2 : (vf 2) = .int .i64 (((x.n.ss.getD i sq0).xs).getD j 0) ∧ (pf 2) = [] := hR 2 (by decide)
       refine Or.inl ⟨rfl, ?_⟩
       refine rq_less (sx 63 (congrArg some e1.1) (sx 64 (congrArg some e2.1) (sub_nil _))) (List.sublist_append_right _ _) ?_
       exact rq_v (rv_index (s := 1) rfl Try.underlying27 (by kernel_rfl) rfl rfl (fun w hm => (rdsX_of (f := irC) (iv := IR.v) (xs := IR.xs) 0 rfl w hm).row) (by omega) (by first | omega | (simp only [List.length_set]; omega)))
      ·
       intro vf pf hR
       have e3 : (vf 3) = elP v9 ((((x.n.ss.getD i sq0).xs).getD j 0).toNat * 1) ∧ (pf 3) = [] := hR 3 (by decide)
       refine Or.inl ⟨rfl, ?_⟩
       refine rq_less (sx 65 (congrArg some e3.1) (sub_nil _)) (List.sublist_append_right _ _) ?_
       exact rq_v (rv_loadEl (u := (es.getD ((x.n.ss.getD i sq0).xs.getD j 0).toNat ir0).v) rfl (by kernel_rfl) rfl (fun w hm => (rdsX_of (f := irC) (iv := IR.v) (xs := IR.xs) 0 rfl w hm).row) (flat_one irC (fun r => r.v) (fun _ => rfl) es ir0 (show (((x.n.ss.getD i sq0).xs).getD j 0).toNat < _ by first | omega | (simp only [List.length_set]; omega))))
      ·
       intro vf pf hR
       refine Or.inl ⟨rfl, ?_⟩
       refine rq_less (sx 6 rfl (sub_nil _)) (List.sublist_append_right _ _) ?_
       exact rq_v (rv_ev rfl)
      ·
       intro vf pf hR
       refine Or.inl ⟨rfl, ?_⟩
       refine rq_less (sx 10 rfl (sub_nil _)) (List.sublist_append_right _ _) ?_
       exact rq_v (rv_ev rfl)
      ·
       intro vf pf hR
       have e5 : (vf 5) = v6 ∧ (pf 5) = [] := hR 5 (by decide)
       have e6 : (vf 6) = .int .i64 (((x.n.ss.getD i sq0).xs).getD j 0) ∧ (pf 6) = [] := hR 6 (by decide)
       refine Or.inl ⟨rfl, ?_⟩
       refine rq_less (sx 67 (congrArg some e5.1) (sx 68 (congrArg some e6.1) (sub_nil _))) (List.sublist_append_right _ _) ?_
       exact rq_v (rv_index (s := 1) rfl Try.underlying24 (by kernel_rfl) rfl rfl (rd_row 1 rfl) (by omega) (by first | omega | (simp only [List.length_set]; omega)))
      ·
       intro vf pf hR
       have e7 : (vf 7) = elP v6 ((((x.n.ss.getD i sq0).xs).getD j 0).toNat * 1) ∧ (pf 7) = [] := hR 7 (by decide)
       refine Or.inl ⟨rfl, ?_⟩
       refine rq_less (sx 69 (congrArg some e7.1) (sub_nil _)) (List.sublist_append_right _ _) ?_
       exact rq_v (rv_loadEl (u := .int .i64 ((valT x.n x.ao x.oi).getD ((((x.n.ss.getD i sq0).xs).getD j 0).toNat) 0)) rfl (by kernel_rfl) rfl (rd_row 1 rfl) (ints_at1 (show _ < (valT x.n x.ao x.oi).length by first | omega | (simp only [List.length_set]; omega))))
      ·
       intro vf pf hR
       refine Or.inl ⟨rfl, ?_⟩
       refine rq_less (sx 1 rfl (sub_nil _)) (List.sublist_append_right _ _) ?_
       exact rq_v (rv_ev rfl)
      ·
       intro vf pf hR
       refine Or.inl ⟨rfl, ?_⟩
       refine rq_less (sx 2 rfl (sub_nil _)) (List.sublist_append_right _ _) ?_
       exact rq_v (rv_field (k0 := 6) rfl (by kernel_rfl) rfl)
      ·
       intro vf pf hR
       have e10 : (vf 10) = .pointer (some ⟨b1, 0 + 6, none⟩) ∧ (pf 10) = [] := hR 10 (by decide)
       refine Or.inl ⟨rfl, ?_⟩
       refine rq_less (sx 72 (congrArg some e10.1) (sub_nil _)) (List.sublist_append_right _ _) ?_
       exact rq_v (rv_load rfl (by kernel_rfl) rfl (box_cell 4 rfl rfl))
      ·
       intro vf pf hR
       refine Or.inl ⟨rfl, ?_⟩
       refine rq_less (sx 8 rfl (sub_nil _)) (List.sublist_append_right _ _) ?_
       exact rq_v (rv_ev rfl)
      ·
       intro vf pf hR
       have e11 : (vf 11) = x.kv ∧ (pf 11) = [] := hR 11 (by decide)
       have e12 : (vf 12) = .int .i64 (i : Int) ∧ (pf 12) = [] := hR 12 (by decide)
       refine Or.inl ⟨rfl, ?_⟩
       refine rq_less (sx 73 (congrArg some e11.1) (sx 74 (congrArg some e12.1) (sub_nil _))) (List.sublist_append_right _ _) ?_
       exact rq_v (rv_index (s := 1) rfl Try.underlying24 (by kernel_rfl) rfl rfl (rd_old ((hr).ks)) (by omega) (by first | omega | (simp only [List.length_set]; omega)))
      ·
       intro vf pf hR
       have e13 : (vf 13) = elP x.kv (((i : Int)).toNat * 1) ∧ (pf 13) = [] := hR 13 (by decide)
       refine Or.inl ⟨rfl, ?_⟩
       refine rq_less (sx 75 (congrArg some e13.1) (sub_nil _)) (List.sublist_append_right _ _) ?_
       exact rq_v (rv_loadEl (u := .int .i64 (x.ks.getD i 0)) rfl (by kernel_rfl) rfl (rd_old ((hr).ks)) (ints_at1 (show _ < x.ks.length by first | omega | (simp only [List.length_set]; omega))))
      ·
       intro vf pf hR
       have e9 : (vf 9) = .int .i64 e ∧ (pf 9) = [] := hR 9 (by decide)
       have e14 : (vf 14) = .int .i64 (x.ks.getD i 0) ∧ (pf 14) = [] := hR 14 (by decide)
       refine Or.inl ⟨rfl, ?_⟩
       refine rq_less (sx 71 (congrArg some e9.1) (sx 76 (congrArg some e14.1) (sub_nil _))) (List.sublist_append_right _ _) ?_
       exact rq_v (rv_add rfl rfl rfl (by constructor <;> omega))
      ·
       intro vf pf hR
       refine Or.inl ⟨rfl, ?_⟩
       refine rq_less (sx 2 rfl (sub_nil _)) (List.sublist_append_right _ _) ?_
       exact rq_v (rv_field (k0 := 4) rfl (by kernel_rfl) rfl)
      ·
       intro vf pf hR
       have e16 : (vf 16) = .pointer (some ⟨b1, 0 + 4, none⟩) ∧ (pf 16) = [] := hR 16 (by decide)
       refine Or.inl ⟨rfl, ?_⟩
       refine rq_less (sx 78 (congrArg some e16.1) (sub_nil _)) (List.sublist_append_right _ _) ?_
       exact rq_v (rv_field (k0 := 1) rfl (by kernel_rfl) rfl)
      ·
       intro vf pf hR
       have e17 : (vf 17) = .pointer (some ⟨b1, 0 + 4 + 1, none⟩) ∧ (pf 17) = [] := hR 17 (by decide)
       refine Or.inl ⟨rfl, ?_⟩
       refine rq_less (sx 79 (congrArg some e17.1) (sub_nil _)) (List.sublist_append_right _ _) ?_
       exact rq_v (rv_load rfl (by kernel_rfl) rfl (box_cell 4 rfl rfl))
      ·
       intro vf pf hR
       refine Or.inl ⟨rfl, ?_⟩
       refine rq_less (sx 8 rfl (sub_nil _)) (List.sublist_append_right _ _) ?_
       exact rq_v (rv_ev rfl)
      ·
       intro vf pf hR
       have e18 : (vf 18) = x.qv ∧ (pf 18) = [] := hR 18 (by decide)
       have e19 : (vf 19) = .int .i64 (i : Int) ∧ (pf 19) = [] := hR 19 (by decide)
       refine Or.inl ⟨rfl, ?_⟩
       refine rq_less (sx 80 (congrArg some e18.1) (sx 81 (congrArg some e19.1) (sub_nil _))) (List.sublist_append_right _ _) ?_
       exact rq_v (rv_index (s := 1) rfl Try.underlying27 (by kernel_rfl) rfl rfl (rd_old ((hr).ds.row)) (by omega) (by first | omega | (simp only [List.length_set]; omega)))
      ·
       intro vf pf hR
       have e20 : (vf 20) = elP x.qv (((i : Int)).toNat * 1) ∧ (pf 20) = [] := hR 20 (by decide)
       refine Or.inl ⟨rfl, ?_⟩
       refine rq_less (sx 82 (congrArg some e20.1) (sub_nil _)) (List.sublist_append_right _ _) ?_
       exact rq_v (rv_loadEl (u := (x.ds.getD i ir0).v) rfl (by kernel_rfl) rfl (rd_old ((hr).ds.row)) (flat_one irC (fun r => r.v) (fun _ => rfl) x.ds ir0 (show i < _ by first | omega | (simp only [List.length_set]; omega))))
      ·
       intro vf pf hR
       refine Or.inl ⟨rfl, ?_⟩
       refine rq_less (sx 9 rfl (sub_nil _)) (List.sublist_append_right _ _) ?_
       exact rq_v (rv_ev rfl)
      ·
       intro vf pf hR
       have e21 : (vf 21) = (x.ds.getD i ir0).v ∧ (pf 21) = [] := hR 21 (by decide)
       have e22 : (vf 22) = .int .i64 (j : Int) ∧ (pf 22) = [] := hR 22 (by decide)
       refine Or.inl ⟨rfl, ?_⟩
       refine rq_less (sx 83 (congrArg some e21.1) (sx 84 (congrArg some e22.1) (sub_nil _))) (List.sublist_append_right _ _) ?_
       exact rq_v (rv_index (s := 1) rfl Try.underlying24 (by kernel_rfl) rfl rfl (rd_old ((hr).ds.at (d := ir0) (k := i) (by omega))) (by omega) (by first | omega | (simp only [List.length_set]; omega)))
      ·
       intro vf pf hR
       have e23 : (vf 23) = elP ((x.ds.getD i ir0).v) (((j : Int)).toNat * 1) ∧ (pf 23) = [] := hR 23 (by decide)
       refine Or.inl ⟨rfl, ?_⟩
       refine rq_less (sx 85 (congrArg some e23.1) (sub_nil _)) (List.sublist_append_right _ _) ?_
       exact rq_v (rv_loadEl (u := .int .i64 (((x.ds.getD i ir0).xs).getD j 0)) rfl (by kernel_rfl) rfl (rd_old ((hr).ds.at (d := ir0) (k := i) (by omega))) (ints_at1 (show _ < ((x.ds.getD i ir0).xs).length by first | omega | (simp only [List.length_set]; omega))))
      ·
       intro vf pf hR
       have e15 : (vf 15) = .int .i64 (e + (x.ks.getD i 0)) ∧ (pf 15) = [] := hR 15 (by decide)
       have e24 : (vf 24) = .int .i64 (((x.ds.getD i ir0).xs).getD j 0) ∧ (pf 24) = [] := hR 24 (by decide)
       refine Or.inl ⟨rfl, ?_⟩
       refine rq_less (sx 77 (congrArg some e15.1) (sx 86 (congrArg some e24.1) (sub_nil _))) (List.sublist_append_right _ _) ?_
       exact rq_v (rv_sub rfl rfl rfl (by constructor <;> omega))
      ·
       intro vf pf hR
       have e4 : (vf 4) = (es.getD ((x.n.ss.getD i sq0).xs.getD j 0).toNat ir0).v ∧ (pf 4) = [] := hR 4 (by decide)
       have e8 : (vf 8) = .int .i64 ((valT x.n x.ao x.oi).getD ((((x.n.ss.getD i sq0).xs).getD j 0).toNat) 0) ∧ (pf 8) = [] := hR 8 (by decide)
       have e25 : (vf 25) = .int .i64 ((e + (x.ks.getD i 0)) - (((x.ds.getD i ir0).xs).getD j 0)) ∧ (pf 25) = [] := hR 25 (by decide)
       refine Or.inl ⟨rfl, ?_⟩
       refine rq_less (sx 66 (congrArg some e4.1) (sx 70 (congrArg some e8.1) (sx 87 (congrArg some e25.1) (sub_nil _)))) (List.sublist_append_right _ _) ?_
       exact (rq_call (by kernel_rfl) rfl (fun w hm => ret_ans (l37At_smp w (rdsX_of 0 rfl w hm) hw rfl rfl rfl rfl (by omega) (by omega))))
      ·
       intro vf pf hR
       have e26 : (vf 26) = .int .i64 (smpV x (wvsL x (e + 50).toNat x.n.cnt.toNat) e i j) ∧ (pf 26) = [] := hR 26 (by decide)
       refine Or.inl ⟨rfl, ?_⟩
       refine rq_less (sx 88 (congrArg some e26.1) (sub_nil _)) (List.sublist_append_right _ _) ?_
       exact rq_buildSlice (z := .int .i64 0) (s := 1) (cs := ([smpV x (wvsL x (e + 50).toNat x.n.cnt.toNat) e i j].map (Value.int .i64))) rfl Try.underlying24 (by kernel_rfl) (by decide) rfl (by kernel_rfl) rfl
     ·
      intro vf pf hR
      have e0 : (vf 0) = u2 ∧ (pf 0) = [] := hR 0 (by decide)
      have e27 : IsRow_o 3 1 1 ([smpV x (wvsL x (e + 50).toNat x.n.cnt.toNat) e i j].map (Value.int .i64)) (vf 27) (pf 27) := hR 27 (by decide)
      obtain ⟨g16, v27, p27⟩ := e27
      have q0 : (vf 0) = u2 ∧ (pf 0) = [] := hR 0 (by decide)
      have q1 : (vf 1) = v9 ∧ (pf 1) = [] := hR 1 (by decide)
      have q2 : (vf 2) = .int .i64 (((x.n.ss.getD i sq0).xs).getD j 0) ∧ (pf 2) = [] := hR 2 (by decide)
      have q3 : (vf 3) = elP v9 ((((x.n.ss.getD i sq0).xs).getD j 0).toNat * 1) ∧ (pf 3) = [] := hR 3 (by decide)
      have q4 : (vf 4) = (es.getD ((x.n.ss.getD i sq0).xs.getD j 0).toNat ir0).v ∧ (pf 4) = [] := hR 4 (by decide)
      have q5 : (vf 5) = v6 ∧ (pf 5) = [] := hR 5 (by decide)
      have q6 : (vf 6) = .int .i64 (((x.n.ss.getD i sq0).xs).getD j 0) ∧ (pf 6) = [] := hR 6 (by decide)
      have q7 : (vf 7) = elP v6 ((((x.n.ss.getD i sq0).xs).getD j 0).toNat * 1) ∧ (pf 7) = [] := hR 7 (by decide)
      have q8 : (vf 8) = .int .i64 ((valT x.n x.ao x.oi).getD ((((x.n.ss.getD i sq0).xs).getD j 0).toNat) 0) ∧ (pf 8) = [] := hR 8 (by decide)
      have q9 : (vf 9) = .int .i64 e ∧ (pf 9) = [] := hR 9 (by decide)
      have q10 : (vf 10) = .pointer (some ⟨b1, 0 + 6, none⟩) ∧ (pf 10) = [] := hR 10 (by decide)
      have q11 : (vf 11) = x.kv ∧ (pf 11) = [] := hR 11 (by decide)
      have q12 : (vf 12) = .int .i64 (i : Int) ∧ (pf 12) = [] := hR 12 (by decide)
      have q13 : (vf 13) = elP x.kv (((i : Int)).toNat * 1) ∧ (pf 13) = [] := hR 13 (by decide)
      have q14 : (vf 14) = .int .i64 (x.ks.getD i 0) ∧ (pf 14) = [] := hR 14 (by decide)
      have q15 : (vf 15) = .int .i64 (e + (x.ks.getD i 0)) ∧ (pf 15) = [] := hR 15 (by decide)
      have q16 : (vf 16) = .pointer (some ⟨b1, 0 + 4, none⟩) ∧ (pf 16) = [] := hR 16 (by decide)
      have q17 : (vf 17) = .pointer (some ⟨b1, 0 + 4 + 1, none⟩) ∧ (pf 17) = [] := hR 17 (by decide)
      have q18 : (vf 18) = x.qv ∧ (pf 18) = [] := hR 18 (by decide)
      have q19 : (vf 19) = .int .i64 (i : Int) ∧ (pf 19) = [] := hR 19 (by decide)
      have q20 : (vf 20) = elP x.qv (((i : Int)).toNat * 1) ∧ (pf 20) = [] := hR 20 (by decide)
      have q21 : (vf 21) = (x.ds.getD i ir0).v ∧ (pf 21) = [] := hR 21 (by decide)
      have q22 : (vf 22) = .int .i64 (j : Int) ∧ (pf 22) = [] := hR 22 (by decide)
      have q23 : (vf 23) = elP ((x.ds.getD i ir0).v) (((j : Int)).toNat * 1) ∧ (pf 23) = [] := hR 23 (by decide)
      have q24 : (vf 24) = .int .i64 (((x.ds.getD i ir0).xs).getD j 0) ∧ (pf 24) = [] := hR 24 (by decide)
      have q25 : (vf 25) = .int .i64 ((e + (x.ks.getD i 0)) - (((x.ds.getD i ir0).xs).getD j 0)) ∧ (pf 25) = [] := hR 25 (by decide)
      have q26 : (vf 26) = .int .i64 (smpV x (wvsL x (e + 50).toNat x.n.cnt.toNat) e i j) ∧ (pf 26) = [] := hR 26 (by decide)
      refine hl_less (l' := [rowE 3 1 (.slice (some ⟨g16, 0, none⟩) 1 1) 1 ([smpV x (wvsL x (e + 50).toNat x.n.cnt.toNat) e i j].map (Value.int .i64)), irsE v9 es, rowE 3 1 v6 ((valT x.n x.ao x.oi).length) ((valT x.n x.ao x.oi).map (Value.int .i64)), rowE 3 1 u2 ys.length (ys.map (Value.int .i64)), rowE 3 1 (.slice none 0 0) 0 ([]), boxE b1 #[.int .i64 x.n.ins, x.n.sv, x.n.lv, x.n.ov, x.pv, x.qv, x.kv, x.av, x.bv, .int .i64 x.oi, .int .i64 x.ni] 40]) (sx 0 rfl (sx 1 rfl (sx 2 rfl (sx 4 rfl (sx 5 rfl (sx 6 rfl (sx 7 rfl (sx 8 rfl (sx 9 rfl (sx 10 rfl (sx 19 rfl (sx 37 rfl (sx 49 rfl (sx 62 (congrArg some e0.1) (sx 89 (congrArg some v27) (sub_nil _)))))))))))))))) (by first | (simp only [p27, v27, q0.2, q1.2, q2.2, q3.2, q4.2, q5.2, q6.2, q7.2, q8.2, q9.2, q10.2, q11.2, q12.2, q13.2, q14.2, q15.2, q16.2, q17.2, q18.2, q19.2, q20.2, q21.2, q22.2, q23.2, q24.2, q25.2, q26.2, List.flatMap_cons, List.flatMap_nil, List.append_nil, List.nil_append, List.cons_append]; exact List.Sublist.refl _) | simp [p27, v27, q0.2, q1.2, q2.2, q3.2, q4.2, q5.2, q6.2, q7.2, q8.2, q9.2, q10.2, q11.2, q12.2, q13.2, q14.2, q15.2, q16.2, q17.2, q18.2, q19.2, q20.2, q21.2, q22.2, q23.2, q24.2, q25.2, q26.2]) ?_
      simp only [List.drop_succ_cons, List.drop_zero]
      refine hl_append (i := 3) (z := .int .i64 0) (bytes := 8) (n' := (ys ++ ([smpV x (wvsL x (e + 50).toNat x.n.cnt.toNat) e i j])).length) (xs' := ((ys ++ ([smpV x (wvsL x (e + 50).toNat x.n.cnt.toNat) e i j])).map (Value.int .i64))) (L := fun v17 => [rowE 3 1 (.slice (some ⟨g16, 0, none⟩) 1 1) 1 ([smpV x (wvsL x (e + 50).toNat x.n.cnt.toNat) e i j].map (Value.int .i64)), irsE v9 es, rowE 3 1 v6 ((valT x.n x.ao x.oi).length) ((valT x.n x.ao x.oi).map (Value.int .i64)), rowE 3 1 v17 ((ys ++ ([smpV x (wvsL x (e + 50).toNat x.n.cnt.toNat) e i j])).length) ((ys ++ ([smpV x (wvsL x (e + 50).toNat x.n.cnt.toNat) e i j])).map (Value.int .i64)), rowE 3 1 (.slice none 0 0) 0 ([]), boxE b1 #[.int .i64 x.n.ins, x.n.sv, x.n.lv, x.n.ov, x.pv, x.qv, x.kv, x.av, x.bv, .int .i64 x.oi, .int .i64 x.ni] 40]) rfl rfl rfl rfl Try.underlying24 (by kernel_rfl) (by kernel_rfl) rfl rfl rfl (rd_row 0 rfl) (ints_one _) (by first | omega | (simp; omega)) (len_app ys ([smpV x (wvsL x (e + 50).toNat x.n.cnt.toNat) e i j])) (ints_app ys ([smpV x (wvsL x (e + 50).toNat x.n.cnt.toNat) e i j])) (fun _ => rfl) ?_
      intro v17
      refine hl_v rfl rfl rfl (rv_ev rfl) ?_
      refine hl_less (sx 0 rfl (sx 1 rfl (sx 2 rfl (sx 4 rfl (sx 5 rfl (sx 6 rfl (sx 7 rfl (sx 8 rfl (sx 9 rfl (sx 10 rfl (sx 19 rfl (sx 37 rfl (sx 49 rfl (sub_nil _)))))))))))))) (.refl _) ?_
      refine hl_nil ?_
      refine hq_block_normal ?_
      refine hq_then ?_
      refine hc_region ?_
      refine hl_v rfl rfl rfl (rv_ev rfl) ?_
      refine hl_v rfl rfl rfl (rv_add rfl rfl rfl (by constructor <;> omega)) ?_
      have hx4 := (hok.n.sq i (by omega)).1.len
      have hdl : (x.ds.getD i ir0).xs.length = (x.n.ss.getD i sq0).xs.length := by have := (hok.ds i (by omega)).1; omega
      refine hl_v rfl rfl rfl (rv_ev rfl) ?_
      refine hl_less (sx 0 rfl (sx 1 rfl (sx 2 rfl (sx 4 rfl (sx 5 rfl (sx 6 rfl (sx 7 rfl (sx 8 rfl (sx 9 rfl (sx 10 rfl (sx 19 rfl (sx 37 rfl (sx 49 rfl (sub_nil _)))))))))))))) (.refl _) ?_
      refine hl_nil ?_
      exact hq_round3 (j + 1) v17 (ys ++ ([smpV x (wvsL x (e + 50).toNat x.n.cnt.toNat) e i j])) ⟨by omega, by rw [hy, smpI_succ, List.append_assoc], by rw [List.length_append, List.length_singleton]; omega⟩ (by omega) (sx 0 rfl (sx 1 rfl (sx 2 rfl (sx 4 rfl (sx 5 rfl (sx 6 rfl (sx 7 rfl (sx 8 rfl (sx 9 rfl (sx 19 rfl (sx 37 rfl (sub_nil _)))))))))))) ((.cons _ (.cons_cons _ (.cons_cons _ (.cons_cons _ (.cons_cons _ (.cons_cons _ .slnil)))))))
    ·
     refine hl_less (sx 0 rfl (sx 1 rfl (sx 2 rfl (sx 4 rfl (sx 5 rfl (sx 6 rfl (sx 7 rfl (sx 8 rfl (sx 9 rfl (sx 19 rfl (sx 37 rfl (sx 49 rfl (sub_nil _))))))))))))) (.refl _) ?_
     refine hl_nil ?_
     refine hq_then ?_
     refine hc_false rfl ?_
     refine hc_exit ?_
     refine hq_then_exit ?_
     refine hq_then_exit ?_
     refine hq_block_exit ?_
     refine hq_block_normal ?_
     refine hq_then ?_
     refine hc_region ?_
     refine hl_v rfl rfl rfl (rv_ev rfl) ?_
     refine hl_v rfl rfl rfl (rv_add rfl rfl rfl (by constructor <;> omega)) ?_
     refine hl_v rfl rfl rfl (rv_ev rfl) ?_
     refine hl_less (sx 0 rfl (sx 1 rfl (sx 2 rfl (sx 4 rfl (sx 5 rfl (sx 6 rfl (sx 7 rfl (sx 8 rfl (sx 9 rfl (sx 19 rfl (sx 37 rfl (sx 49 rfl (sub_nil _))))))))))))) (.refl _) ?_
     refine hl_nil ?_
     exact hq_round3 (i + 1) u2 ys ⟨by omega, by rw [hy, show j = (x.n.ss.getD i sq0).xs.length by omega]; rfl, by omega⟩ (by omega) (sx 0 rfl (sx 1 rfl (sx 2 rfl (sx 4 rfl (sx 5 rfl (sx 6 rfl (sx 7 rfl (sx 8 rfl (sx 19 rfl (sub_nil _)))))))))) ((.cons_cons _ (.cons_cons _ (.cons_cons _ (.cons_cons _ (.cons_cons _ .slnil))))))
   ·
    refine hl_less (sx 0 rfl (sx 1 rfl (sx 2 rfl (sx 4 rfl (sx 5 rfl (sx 6 rfl (sx 7 rfl (sx 8 rfl (sx 19 rfl (sx 37 rfl (sub_nil _))))))))))) (.refl _) ?_
    refine hl_nil ?_
    refine hq_then ?_
    refine hc_false rfl ?_
    refine hc_exit ?_
    refine hq_then_exit ?_
    refine hq_then_exit ?_
    refine hq_block_exit ?_
    refine hq_then ?_
    refine hc_seq ?_
    refine hc_region ?_
    refine hl_v rfl rfl rfl (rv_ev rfl) ?_
    refine hl_v rfl rfl rfl (rv_ev rfl) ?_
    refine hl_less (sx 0 rfl (sx 1 rfl (sx 2 rfl (sx 4 rfl (sx 5 rfl (sx 6 rfl (sx 7 rfl (sx 8 rfl (sx 19 rfl (sx 37 rfl (sub_nil _))))))))))) (.refl _) ?_
    refine hl_nil ?_
    refine hq_then ?_
    refine hc_ret ?_
    have hsR : zs = smpR x e := by rw [smpR_ok hok (by omega) (a := (e + 50).toNat) (by omega), hz, show i = x.n.ss.length by omega]
    exact hq_retR (post := [rowE 3 1 u zs.length (zs.map (Value.int .i64))]) rfl rfl ((.cons _ (.cons _ (.cons_cons _ (.cons _ (.cons _ .slnil)))))) (by first | (rw [hsR]; done) | (rw [hsR]; rfl))
  ·
   have h5a := inR_notL h5
   refine hl_v rfl rfl rfl (rv_ev rfl) ?_
   refine hl_v rfl rfl rfl (rv_ev rfl) ?_
   refine hl_less (sx 0 rfl (sx 1 rfl (sx 2 rfl (sx 4 rfl (sx 5 rfl (sx 19 rfl (sub_nil _))))))) (.refl _) ?_
   refine hl_nil ?_
   refine hq_then ?_
   refine hc_true rfl ?_
   refine hc_seq ?_
   refine hc_region ?_
   refine hl_v rfl rfl rfl (rv_ev rfl) ?_
   refine hl_v rfl rfl rfl (rv_ev rfl) ?_
   refine hl_less (sx 0 rfl (sx 1 rfl (sx 2 rfl (sx 4 rfl (sx 5 rfl (sx 19 rfl (sub_nil _))))))) (.refl _) ?_
   refine hl_nil ?_
   refine hq_then ?_
   refine hc_ret ?_
   refine hq_then_ret ?_
   have hsR : smpR x e = [] := by first | exact smpR_no (.inl hno) | exact smpR_no (.inr (by omega))
   exact hq_retR (post := [rowE 3 1 (.slice (some ⟨g3, 0, none⟩) 0 0) 0 ([])]) rfl rfl ((.cons_cons _ (.cons _ (.cons _ .slnil)))) (by first | (rw [hsR]; done) | (rw [hsR]; rfl))
 ·
  have hno := of_pBn h4
  refine hl_v rfl rfl rfl (rv_ev rfl) ?_
  refine hl_v rfl rfl rfl (rv_ev rfl) ?_
  refine hl_skip rfl rfl rfl ?_
  refine hl_skip rfl rfl rfl ?_
  refine hl_skip rfl rfl rfl ?_
  refine hl_v rfl rfl rfl (rv_ev rfl) ?_
  refine hl_less (sx 0 rfl (sx 1 rfl (sx 2 rfl (sx 4 rfl (sx 5 rfl (sx 19 rfl (sub_nil _))))))) (.refl _) ?_
  refine hl_nil ?_
  refine hq_then ?_
  refine hc_true rfl ?_
  refine hc_seq ?_
  refine hc_region ?_
  refine hl_v rfl rfl rfl (rv_ev rfl) ?_
  refine hl_v rfl rfl rfl (rv_ev rfl) ?_
  refine hl_less (sx 0 rfl (sx 1 rfl (sx 2 rfl (sx 4 rfl (sx 5 rfl (sx 19 rfl (sub_nil _))))))) (.refl _) ?_
  refine hl_nil ?_
  refine hq_then ?_
  refine hc_ret ?_
  refine hq_then_ret ?_
  have hsR : smpR x e = [] := by first | exact smpR_no (.inl hno) | exact smpR_no (.inr (by omega))
  exact hq_retR (post := [rowE 3 1 (.slice (some ⟨g3, 0, none⟩) 0 0) 0 ([])]) rfl rfl ((.cons_cons _ (.cons _ (.cons _ .slnil)))) (by first | (rw [hsR]; done) | (rw [hsR]; rfl))
open Go.RowKit
theorem smpL_le {x : Td} (h : TdOk x) (ws : List (List Int)) (e : Int) : ∀ i, i ≤ x.n.ss.length → (smpL x ws e i).length ≤ 4 * i
  | 0, _ => by show ([] : List Int).length ≤ _; simp
  | i + 1, hi => by
    have h1 := smpL_le h ws e i (by omega)
    have h2 := (h.n.sq i (by omega)).1.len
    unfold smpL smpI
    rw [List.length_append, List.length_map, List.length_range]; omega
theorem smpR_le (x : Td) (e : Int) : (smpR x e).length ≤ 500 := by
  by_cases h : TdOk x
  · by_cases h2 : 0 ≤ e ∧ e ≤ 1000
    · unfold smpR; rw [if_pos (pB_yes h), if_pos h2]
      have := smpL_le h (wvsL x 1100 x.n.cnt.toNat) e x.n.ss.length (Nat.le_refl _)
      have := h.bnd.s
      omega
    · rw [smpR_no (.inr h2)]; simp
  · rw [smpR_no (.inl h)]; simp
set_option maxHeartbeats 4000000 in
set_option maxRecDepth 100000 in
theorem walk_FnExactSampledAt (x : Td) (e : Int) (w : World) (hr : RdsTd w x) :
  Calls Try.prog 9 #[.agg #[.int .i64 x.n.ins, x.n.sv, x.n.lv, x.n.ov, x.pv, x.qv, x.kv, x.av, x.bv, .int .i64 x.oi, .int .i64 x.ni], .int .i64 e] w (Ans w (.bool true)) := by
 refine calls_hc (N := 74) (args := [.agg #[.int .i64 x.n.ins, x.n.sv, x.n.lv, x.n.ov, x.pv, x.qv, x.kv, x.av, x.bv, .int .i64 x.oi, .int .i64 x.ni], .int .i64 e]) Try.func9 rfl rfl ?_
 refine hc_less _ (sx 0 rfl (sx 1 rfl (sub_nil _))) (.refl _) ?_
 refine hc_seq ?_
 refine hc_region ?_
 refine hl_box rfl rfl rfl (rq_box rfl rfl) ?_
 intro b1
 refine hl_v rfl rfl rfl (rv_ev rfl) ?_
 refine hl_less (sx 0 rfl (sx 1 rfl (sx 2 rfl (sx 4 rfl (sub_nil _))))) (.refl _) ?_
 refine hl_nil ?_
 refine hq_then ?_
 refine hc_seq ?_
 refine hc_region ?_
 refine hl_v rfl rfl rfl (rv_ev rfl) ?_
 refine hl_less (sx 0 rfl (sx 1 rfl (sx 2 rfl (sx 4 rfl (sx 5 rfl (sub_nil _)))))) (.refl _) ?_
 refine hl_nil ?_
 refine hq_then ?_
 refine hc_seq ?_
 refine hc_region ?_
 refine hl_v rfl rfl rfl (rv_loadN (cs := [.int .i64 x.n.ins, x.n.sv, x.n.lv, x.n.ov, x.pv, x.qv, x.kv, x.av, x.bv, .int .i64 x.oi, .int .i64 x.ni]) rfl (by kernel_rfl) (by kernel_rfl) rfl rfl (box_part 0 rfl 0 rfl)) ?_
 refine hl_v rfl rfl rfl (rv_ev rfl) ?_
 refine hl_q rfl rfl rfl (rq_call (by kernel_rfl) rfl (fun w hm => szTimed_ret x 1048576 w (hr.below hm.bel) (by omega))) ?_
 intro v2 p3 hR4
 obtain ⟨rfl, rhR4, rfl, hszx⟩ := hR4
 refine hl_v rfl rfl rfl (rv_ev rfl) ?_
 refine hl_less (sx 0 rfl (sx 1 rfl (sx 2 rfl (sx 4 rfl (sx 5 rfl (sub_nil _)))))) (.refl _) ?_
 refine hl_nil ?_
 refine hq_then ?_
 refine hc_seq ?_
 refine hc_seq ?_
 refine hc_region ?_
 refine hl_v rfl rfl rfl (rv_ev rfl) ?_
 refine hl_lss rfl rfl rfl rfl rfl rfl (fun h5 => ?_) (fun h5 => ?_)
 ·
  refine hl_less (sx 0 rfl (sx 1 rfl (sx 2 rfl (sx 4 rfl (sx 5 rfl (sx 17 rfl (sub_nil _))))))) (.refl _) ?_
  refine hl_nil ?_
  refine hq_then ?_
  refine hc_true rfl ?_
  refine hc_seq ?_
  refine hc_region ?_
  refine hl_v rfl rfl rfl (rv_ev rfl) ?_
  refine hl_less (sx 0 rfl (sx 1 rfl (sx 2 rfl (sx 4 rfl (sx 5 rfl (sx 17 rfl (sub_nil _))))))) (.refl _) ?_
  refine hl_nil ?_
  refine hq_then ?_
  refine hc_ret ?_
  refine hq_then_ret ?_
  exact hq_ans rfl rfl rfl
 ·
  refine hl_less (sx 0 rfl (sx 1 rfl (sx 2 rfl (sx 4 rfl (sx 5 rfl (sx 17 rfl (sub_nil _))))))) (.refl _) ?_
  refine hl_nil ?_
  refine hq_then ?_
  refine hc_false rfl ?_
  refine hc_skip ?_
  refine hq_then ?_
  refine hc_seq ?_
  refine hc_region ?_
  have hz := hszx (by omega)
  have hrl := smpR_le x e
  refine hl_v rfl rfl rfl (rv_loadN (cs := [.int .i64 x.n.ins, x.n.sv, x.n.lv, x.n.ov, x.pv, x.qv, x.kv, x.av, x.bv, .int .i64 x.oi, .int .i64 x.ni]) rfl (by kernel_rfl) (by kernel_rfl) rfl rfl (box_part 0 rfl 0 rfl)) ?_
  refine hl_q rfl rfl rfl (rq_call (by kernel_rfl) rfl (fun w hm => toTimed_ret x w (hr.below hm.bel) hz)) ?_
  intro v6 p7 hR8
  obtain ⟨yhR8, rfl, rfl, hshR8, hohR8⟩ := hR8
  have hzhR8 := hz.same hshR8
  refine hl_v rfl rfl rfl (rv_ev rfl) ?_
  refine hl_q rfl rfl rfl (rq_call (by kernel_rfl) rfl (fun w hm => by have h9 := specSampledAt_ret yhR8 e w (td_rds 0 rfl w hm); rw [smpR_same hshR8] at h9; exact h9)) ?_
  intro v9 p10 hR11
  subst hR11
  refine hl_v rfl rfl rfl (rv_ev rfl) ?_
  refine hl_less (sx 0 rfl (sx 1 rfl (sx 2 rfl (sx 4 rfl (sx 5 rfl (sx 6 rfl (sx 17 rfl (sub_nil _)))))))) (.refl _) ?_
  refine hl_nil ?_
  refine hq_then ?_
  refine hc_seq ?_
  refine hc_region ?_
  refine hl_v rfl rfl rfl (rv_loadN (cs := [.int .i64 x.n.ins, x.n.sv, x.n.lv, x.n.ov, x.pv, x.qv, x.kv, x.av, x.bv, .int .i64 x.oi, .int .i64 x.ni]) rfl (by kernel_rfl) (by kernel_rfl) rfl rfl (box_part 2 rfl 0 rfl)) ?_
  refine hl_q rfl rfl rfl (rq_call (by kernel_rfl) rfl (fun w hm => toTimed_ret x w (hr.below hm.bel) hz)) ?_
  intro v12 p13 hR14
  obtain ⟨yhR14, rfl, rfl, hshR14, hohR14⟩ := hR14
  have hzhR14 := hz.same hshR14
  refine hl_box rfl rfl rfl (rq_alloc (z := .agg #[.int .i64 0, .slice none 0 0, .slice none 0 0, .slice none 0 0, .slice none 0 0, .slice none 0 0, .slice none 0 0, .slice none 0 0, .slice none 0 0, .int .i64 0, .int .i64 0]) rfl (by kernel_rfl)) ?_
  intro b15
  refine hl_storeBoxN (i := 0) (off := 0) (us := [.int .i64 yhR14.n.ins, yhR14.n.sv, yhR14.n.lv, yhR14.n.ov, yhR14.pv, yhR14.qv, yhR14.kv, yhR14.av, yhR14.bv, .int .i64 yhR14.oi, .int .i64 yhR14.ni]) (cs' := #[.int .i64 yhR14.n.ins, yhR14.n.sv, yhR14.n.lv, yhR14.n.ov, yhR14.pv, yhR14.qv, yhR14.kv, yhR14.av, yhR14.bv, .int .i64 yhR14.oi, .int .i64 yhR14.ni]) (l' := [boxE b15 #[.int .i64 yhR14.n.ins, yhR14.n.sv, yhR14.n.lv, yhR14.n.ov, yhR14.pv, yhR14.qv, yhR14.kv, yhR14.av, yhR14.bv, .int .i64 yhR14.oi, .int .i64 yhR14.ni] 40, tdE yhR14, rowE 3 1 v9 ((smpR x e).length) ((smpR x e).map (Value.int .i64)), tdE yhR8, boxE b1 #[.int .i64 x.n.ins, x.n.sv, x.n.lv, x.n.ov, x.pv, x.qv, x.kv, x.av, x.bv, .int .i64 x.oi, .int .i64 x.ni] 31]) rfl rfl rfl (by kernel_rfl) rfl rfl rfl (all_cons rfl (all_cons hohR14.sv (all_cons hohR14.lv (all_cons hohR14.ov (all_cons hohR14.pv (all_cons hohR14.qv (all_cons hohR14.kv (all_cons hohR14.av (all_cons hohR14.bv (all_cons rfl (all_cons rfl all_nil))))))))))) rfl (by kernel_rfl) rfl ?_
  refine hl_less (sx 0 rfl (sx 1 rfl (sx 2 rfl (sx 4 rfl (sx 5 rfl (sx 6 rfl (sx 7 rfl (sx 17 rfl (sub_nil _))))))))) (.refl _) ?_
  refine hl_nil ?_
  refine hq_then ?_
  refine hc_seq ?_
  refine hc_region ?_
  refine hl_v rfl rfl rfl (rv_loadN (cs := [.int .i64 yhR14.n.ins, yhR14.n.sv, yhR14.n.lv, yhR14.n.ov, yhR14.pv, yhR14.qv, yhR14.kv, yhR14.av, yhR14.bv, .int .i64 yhR14.oi, .int .i64 yhR14.ni]) rfl (by kernel_rfl) (by kernel_rfl) rfl rfl (box_part 0 rfl 0 rfl)) ?_
  refine hl_v rfl rfl rfl (rv_ev rfl) ?_
  refine hl_q rfl rfl rfl (rq_call (by kernel_rfl) rfl (fun w hm => by have h9 := implSampledAt_ret yhR14 e w (td_rds 1 rfl w hm); rw [smpR_same hshR14] at h9; exact h9)) ?_
  intro v16 p17 hR18
  subst hR18
  refine hl_v rfl rfl rfl (rv_ev rfl) ?_
  refine hl_less (sx 0 rfl (sx 1 rfl (sx 2 rfl (sx 4 rfl (sx 5 rfl (sx 6 rfl (sx 7 rfl (sx 8 rfl (sx 17 rfl (sub_nil _)))))))))) (.refl _) ?_
  refine hl_nil ?_
  refine hq_then ?_
  refine hc_seq ?_
  refine hc_seq ?_
  refine hc_region ?_
  refine hl_v rfl rfl rfl (rv_ev rfl) ?_
  refine hl_v rfl rfl rfl (rv_ev rfl) ?_
  refine hl_callV rfl rfl rfl (rq_call (by kernel_rfl) rfl (fun w hm => ret_ans (eqIntS_ans (smpR x e) (smpR x e) _ _ w ((rd_row 0 rfl) w hm) ((rd_row 3 rfl) w hm) (by omega)))) ?_
  refine hl_bool (fun h19 => ?_) (fun h19 => absurd (((decide_eq_true (by first | rfl | assumption | (symm; assumption)))).symm.trans h19) (by decide))
  refine hl_v rfl rfl rfl (rv_ev rfl) ?_
  refine hl_less (sx 0 rfl (sx 1 rfl (sx 2 rfl (sx 4 rfl (sx 5 rfl (sx 6 rfl (sx 7 rfl (sx 8 rfl (sx 17 rfl (sx 30 rfl (sub_nil _))))))))))) (.refl _) ?_
  refine hl_nil ?_
  refine hq_then ?_
  refine hc_false rfl ?_
  refine hc_skip ?_
  refine hq_then ?_
  refine hc_seq ?_
  refine hc_seq ?_
  refine hc_draw (by kernel_rfl) 5 [0, 1, 2, 3, 4] (List.take 5 _) (List.drop 5 _) [[], [], [1], [0, 2], [2, 3]] [31, 32, 33, 34, 35] (fun i_ vs_ v_ p_ => match i_ with | 0 => v_ = .agg #[.int .i64 yhR14.n.ins, yhR14.n.sv, yhR14.n.lv, yhR14.n.ov, yhR14.pv, yhR14.qv, yhR14.kv, yhR14.av, yhR14.bv, .int .i64 yhR14.oi, .int .i64 yhR14.ni] ∧ p_ = [] | 1 => v_ = .agg #[.int .i64 x.n.ins, x.n.sv, x.n.lv, x.n.ov, x.pv, x.qv, x.kv, x.av, x.bv, .int .i64 x.oi, .int .i64 x.ni] ∧ p_ = [] | 2 => (fun v_ p_ => ∃ y : Td, v_ = y.agg ∧ p_ = [tdE y] ∧ Same x y ∧ OneTd y) v_ p_ | 3 => v_ = .bool true ∧ p_ = [] | 4 => v_ = .bool false ∧ p_ = [] | _ => True) (List.take_append_drop 5 _).symm (by kernel_rfl) (by kernel_rfl) rfl rfl ?_ ?_
  ·
   refine ⟨?_, ?_, ?_, ?_, ?_, trivial⟩
   ·
    intro vf pf hR
    refine Or.inl ⟨rfl, ?_⟩
    refine rq_less (sx 7 rfl (sub_nil _)) (List.sublist_append_right _ _) ?_
    exact rq_v (rv_loadN (cs := [.int .i64 yhR14.n.ins, yhR14.n.sv, yhR14.n.lv, yhR14.n.ov, yhR14.pv, yhR14.qv, yhR14.kv, yhR14.av, yhR14.bv, .int .i64 yhR14.oi, .int .i64 yhR14.ni]) rfl (by kernel_rfl) (by kernel_rfl) rfl rfl (box_part 1 rfl 0 rfl))
   ·
    intro vf pf hR
    refine Or.inl ⟨rfl, ?_⟩
    refine rq_less (sx 2 rfl (sub_nil _)) (List.sublist_append_right _ _) ?_
    exact rq_v (rv_loadN (cs := [.int .i64 x.n.ins, x.n.sv, x.n.lv, x.n.ov, x.pv, x.qv, x.kv, x.av, x.bv, .int .i64 x.oi, .int .i64 x.ni]) rfl (by kernel_rfl) (by kernel_rfl) rfl rfl (box_part 5 rfl 0 rfl))
   ·
    intro vf pf hR
    have e1 : (vf 1) = .agg #[.int .i64 x.n.ins, x.n.sv, x.n.lv, x.n.ov, x.pv, x.qv, x.kv, x.av, x.bv, .int .i64 x.oi, .int .i64 x.ni] ∧ (pf 1) = [] := hR 1 (by decide)
    refine Or.inl ⟨rfl, ?_⟩
    refine rq_less (sx 32 (congrArg some e1.1) (sub_nil _)) (List.sublist_append_right _ _) ?_
    exact rq_call (by kernel_rfl) rfl (fun w hm => toTimed_ret x w (hr.below hm.bel) hz)
   ·
    intro vf pf hR
    have e0 : (vf 0) = .agg #[.int .i64 yhR14.n.ins, yhR14.n.sv, yhR14.n.lv, yhR14.n.ov, yhR14.pv, yhR14.qv, yhR14.kv, yhR14.av, yhR14.bv, .int .i64 yhR14.oi, .int .i64 yhR14.ni] ∧ (pf 0) = [] := hR 0 (by decide)
    have e2 : (fun v_ p_ => ∃ y : Td, v_ = y.agg ∧ p_ = [tdE y] ∧ Same x y ∧ OneTd y) (vf 2) (pf 2) := hR 2 (by decide)
    obtain ⟨v20, v2⟩ : ∃ x, vf 2 = x := ⟨_, rfl⟩
    obtain ⟨p21, p2⟩ : ∃ x, pf 2 = x := ⟨_, rfl⟩
    have hR22 := e2
    rw [v2, p2] at hR22
    obtain ⟨yhR22, rfl, rfl, hshR22, hohR22⟩ := hR22
    have hzhR22 := hz.same hshR22
    refine Or.inl ⟨rfl, ?_⟩
    refine rq_less (l' := [tdE yhR22, rowE 3 1 v16 ((smpR x e).length) ((smpR x e).map (Value.int .i64)), boxE b15 #[.int .i64 yhR14.n.ins, yhR14.n.sv, yhR14.n.lv, yhR14.n.ov, yhR14.pv, yhR14.qv, yhR14.kv, yhR14.av, yhR14.bv, .int .i64 yhR14.oi, .int .i64 yhR14.ni] 40, tdE yhR14, rowE 3 1 v9 ((smpR x e).length) ((smpR x e).map (Value.int .i64)), tdE yhR8, boxE b1 #[.int .i64 x.n.ins, x.n.sv, x.n.lv, x.n.ov, x.pv, x.qv, x.kv, x.av, x.bv, .int .i64 x.oi, .int .i64 x.ni] 31]) (sx 31 (congrArg some e0.1) (sx 33 (congrArg some v2) (sub_nil _))) (by first | (simp only [p2, v2, e0.2, List.flatMap_cons, List.flatMap_nil, List.append_nil, List.nil_append, List.cons_append]; exact List.Sublist.refl _) | simp [p2, v2, e0.2]) ?_
    exact (rq_call (by kernel_rfl) rfl (fun w hm => ret_ans (eqTimed_yes yhR14 yhR22 w (td_rds 3 rfl w hm) (td_rds 0 rfl w hm) (hshR22.symm.trans hshR14) hzhR14)))
   ·
    intro vf pf hR
    have e2 : (fun v_ p_ => ∃ y : Td, v_ = y.agg ∧ p_ = [tdE y] ∧ Same x y ∧ OneTd y) (vf 2) (pf 2) := hR 2 (by decide)
    obtain ⟨v20, v2⟩ : ∃ x, vf 2 = x := ⟨_, rfl⟩
    obtain ⟨p21, p2⟩ : ∃ x, pf 2 = x := ⟨_, rfl⟩
    have hR22 := e2
    rw [v2, p2] at hR22
    obtain ⟨yhR22, rfl, rfl, hshR22, hohR22⟩ := hR22
    have hzhR22 := hz.same hshR22
    have e3 : (vf 3) = .bool true ∧ (pf 3) = [] := hR 3 (by decide)
    refine Or.inl ⟨rfl, ?_⟩
    refine rq_less (l' := [tdE yhR22, rowE 3 1 v16 ((smpR x e).length) ((smpR x e).map (Value.int .i64)), boxE b15 #[.int .i64 yhR14.n.ins, yhR14.n.sv, yhR14.n.lv, yhR14.n.ov, yhR14.pv, yhR14.qv, yhR14.kv, yhR14.av, yhR14.bv, .int .i64 yhR14.oi, .int .i64 yhR14.ni] 40, tdE yhR14, rowE 3 1 v9 ((smpR x e).length) ((smpR x e).map (Value.int .i64)), tdE yhR8, boxE b1 #[.int .i64 x.n.ins, x.n.sv, x.n.lv, x.n.ov, x.pv, x.qv, x.kv, x.av, x.bv, .int .i64 x.oi, .int .i64 x.ni] 31]) (sx 34 (congrArg some e3.1) (sub_nil _)) (by first | (simp only [p2, v2, e3.2, List.flatMap_cons, List.flatMap_nil, List.append_nil, List.nil_append, List.cons_append]; exact List.Sublist.refl _) | simp [p2, v2, e3.2]) ?_
    exact rq_v (rv_ev rfl)
  ·
   intro vf pf hR
   have e2 : (fun v_ p_ => ∃ y : Td, v_ = y.agg ∧ p_ = [tdE y] ∧ Same x y ∧ OneTd y) (vf 2) (pf 2) := hR 2 (by decide)
   obtain ⟨v20, v2⟩ : ∃ x, vf 2 = x := ⟨_, rfl⟩
   obtain ⟨p21, p2⟩ : ∃ x, pf 2 = x := ⟨_, rfl⟩
   have hR22 := e2
   rw [v2, p2] at hR22
   obtain ⟨yhR22, rfl, rfl, hshR22, hohR22⟩ := hR22
   have hzhR22 := hz.same hshR22
   have e4 : (vf 4) = .bool false ∧ (pf 4) = [] := hR 4 (by decide)
   have q0 : (vf 0) = .agg #[.int .i64 yhR14.n.ins, yhR14.n.sv, yhR14.n.lv, yhR14.n.ov, yhR14.pv, yhR14.qv, yhR14.kv, yhR14.av, yhR14.bv, .int .i64 yhR14.oi, .int .i64 yhR14.ni] ∧ (pf 0) = [] := hR 0 (by decide)
   have q1 : (vf 1) = .agg #[.int .i64 x.n.ins, x.n.sv, x.n.lv, x.n.ov, x.pv, x.qv, x.kv, x.av, x.bv, .int .i64 x.oi, .int .i64 x.ni] ∧ (pf 1) = [] := hR 1 (by decide)
   have q3 : (vf 3) = .bool true ∧ (pf 3) = [] := hR 3 (by decide)
   have q4 : (vf 4) = .bool false ∧ (pf 4) = [] := hR 4 (by decide)
   refine hl_less (l' := [tdE yhR22, rowE 3 1 v16 ((smpR x e).length) ((smpR x e).map (Value.int .i64)), boxE b15 #[.int .i64 yhR14.n.ins, yhR14.n.sv, yhR14.n.lv, yhR14.n.ov, yhR14.pv, yhR14.qv, yhR14.kv, yhR14.av, yhR14.bv, .int .i64 yhR14.oi, .int .i64 yhR14.ni] 40, tdE yhR14, rowE 3 1 v9 ((smpR x e).length) ((smpR x e).map (Value.int .i64)), tdE yhR8, boxE b1 #[.int .i64 x.n.ins, x.n.sv, x.n.lv, x.n.ov, x.pv, x.qv, x.kv, x.av, x.bv, .int .i64 x.oi, .int .i64 x.ni] 31]) (sx 0 rfl (sx 1 rfl (sx 2 rfl (sx 4 rfl (sx 5 rfl (sx 6 rfl (sx 7 rfl (sx 8 rfl (sx 17 rfl (sx 30 rfl (sx 35 (congrArg some e4.1) (sub_nil _)))))))))))) (by first | (simp only [p2, v2, q0.2, q1.2, q3.2, q4.2, List.flatMap_cons, List.flatMap_nil, List.append_nil, List.nil_append, List.cons_append]; exact List.Sublist.refl _) | simp [p2, v2, q0.2, q1.2, q3.2, q4.2]) ?_
   simp only [List.drop_succ_cons, List.drop_zero]
   refine hl_less (sx 0 rfl (sx 1 rfl (sx 2 rfl (sx 4 rfl (sx 5 rfl (sx 6 rfl (sx 7 rfl (sx 8 rfl (sx 17 rfl (sx 30 rfl (sx 35 rfl (sub_nil _)))))))))))) (.refl _) ?_
   refine hl_nil ?_
   refine hq_then ?_
   refine hc_false rfl ?_
   refine hc_skip ?_
   refine hq_then ?_
   refine hc_seq ?_
   refine hc_region ?_
   refine hl_v rfl rfl rfl (rv_ev rfl) ?_
   refine hl_less (sx 0 rfl (sx 1 rfl (sx 2 rfl (sx 4 rfl (sx 5 rfl (sx 6 rfl (sx 7 rfl (sx 8 rfl (sx 9 rfl (sx 17 rfl (sx 30 rfl (sx 35 rfl (sub_nil _))))))))))))) (.refl _) ?_
   refine hl_nil ?_
   refine hq_then ?_
   refine hc_seq ?_
   refine hc_region ?_
   refine hl_v rfl rfl rfl (rv_loadN (cs := [.int .i64 yhR14.n.ins, yhR14.n.sv, yhR14.n.lv, yhR14.n.ov, yhR14.pv, yhR14.qv, yhR14.kv, yhR14.av, yhR14.bv, .int .i64 yhR14.oi, .int .i64 yhR14.ni]) rfl (by kernel_rfl) (by kernel_rfl) rfl rfl (box_part 2 rfl 0 rfl)) ?_
   refine hl_v rfl rfl rfl (rv_ev rfl) ?_
   refine hl_callM (R := (fun u_ p_ => ∃ q : Int, u_ = .int .i64 q ∧ 1 ≤ q ∧ q ≤ 1 + 30000000000000)) 3 rfl rfl (by kernel_rfl) rfl rfl (fun l' w hm => markTimed_mut yhR14 1 _ _ w hm (by omega) hzhR14 hohR14) ?_
   intro v23 p24 hR25
   obtain ⟨qhR25, rfl, ahR25, bhR25⟩ := hR25
   refine hl_eqL (l' := [tdE yhR22, rowE 3 1 v16 ((smpR x e).length) ((smpR x e).map (Value.int .i64)), boxE b15 #[.int .i64 yhR14.n.ins, yhR14.n.sv, yhR14.n.lv, yhR14.n.ov, yhR14.pv, yhR14.qv, yhR14.kv, yhR14.av, yhR14.bv, .int .i64 yhR14.oi, .int .i64 yhR14.ni] 40, p24, rowE 3 1 v9 ((smpR x e).length) ((smpR x e).map (Value.int .i64)), tdE yhR8, boxE b1 #[.int .i64 x.n.ins, x.n.sv, x.n.lv, x.n.ov, x.pv, x.qv, x.kv, x.av, x.bv, .int .i64 x.oi, .int .i64 x.ni] 31]) rfl ?_
   refine hl_v rfl rfl rfl (rv_ev rfl) ?_
   refine hl_less (sx 0 rfl (sx 1 rfl (sx 2 rfl (sx 4 rfl (sx 5 rfl (sx 6 rfl (sx 7 rfl (sx 8 rfl (sx 9 rfl (sx 17 rfl (sx 30 rfl (sx 35 rfl (sub_nil _))))))))))))) (.refl _) ?_
   refine hl_nil ?_
   refine hq_then ?_
   refine hc_seq ?_
   refine hc_seq ?_
   refine hc_region ?_
   refine hl_v rfl rfl rfl (rv_ev rfl) ?_
   refine hl_lss rfl rfl rfl rfl rfl rfl (fun h26 => ?_) (fun h26 => ?_)
   ·
    refine hl_v rfl rfl rfl (rv_ev rfl) ?_
    refine hl_skip rfl rfl rfl ?_
    refine hl_skip rfl rfl rfl ?_
    refine hl_skip rfl rfl rfl ?_
    refine hl_skip rfl rfl rfl ?_
    refine hl_v rfl rfl rfl (rv_ev rfl) ?_
    refine hl_less (sx 0 rfl (sx 1 rfl (sx 2 rfl (sx 4 rfl (sx 5 rfl (sx 6 rfl (sx 7 rfl (sx 8 rfl (sx 9 rfl (sx 17 rfl (sx 30 rfl (sx 35 rfl (sx 46 rfl (sub_nil _)))))))))))))) (.refl _) ?_
    refine hl_nil ?_
    refine hq_then ?_
    refine hc_true rfl ?_
    refine hc_seq ?_
    refine hc_region ?_
    refine hl_v rfl rfl rfl (rv_ev rfl) ?_
    refine hl_less (sx 0 rfl (sx 1 rfl (sx 2 rfl (sx 4 rfl (sx 5 rfl (sx 6 rfl (sx 7 rfl (sx 8 rfl (sx 9 rfl (sx 17 rfl (sx 30 rfl (sx 35 rfl (sx 46 rfl (sub_nil _)))))))))))))) (.refl _) ?_
    refine hl_nil ?_
    refine hq_then ?_
    refine hc_ret ?_
    refine hq_then_ret ?_
    exfalso
    omega
   ·
    refine hl_v rfl rfl rfl (rv_ev rfl) ?_
    refine hl_v rfl rfl rfl (rv_ev rfl) ?_
    refine hl_v rfl rfl rfl (rv_ev rfl) ?_
    refine hl_callV rfl rfl rfl (rq_call (by kernel_rfl) rfl (fun w hm => ret_ans (eqIntS_ans (smpR x e) (smpR x e) _ _ w ((rd_row 1 rfl) w hm) ((rd_row 4 rfl) w hm) (by omega)))) ?_
    refine hl_bool (fun h27 => ?_) (fun h27 => absurd (((decide_eq_true (by first | rfl | assumption | (symm; assumption)))).symm.trans h27) (by decide))
    refine hl_v rfl rfl rfl (rv_ev rfl) ?_
    refine hl_v rfl rfl rfl (rv_ev rfl) ?_
    refine hl_less (sx 0 rfl (sx 1 rfl (sx 2 rfl (sx 4 rfl (sx 5 rfl (sx 6 rfl (sx 7 rfl (sx 8 rfl (sx 9 rfl (sx 17 rfl (sx 30 rfl (sx 35 rfl (sx 46 rfl (sub_nil _)))))))))))))) (.refl _) ?_
    refine hl_nil ?_
    refine hq_then ?_
    refine hc_false rfl ?_
    refine hc_skip ?_
    refine hq_then ?_
    refine hc_seq ?_
    refine hc_region ?_
    refine hl_v rfl rfl rfl (rv_ev rfl) ?_
    refine hl_less (sx 0 rfl (sx 1 rfl (sx 2 rfl (sx 4 rfl (sx 5 rfl (sx 6 rfl (sx 7 rfl (sx 8 rfl (sx 9 rfl (sx 10 rfl (sx 17 rfl (sx 30 rfl (sx 35 rfl (sx 46 rfl (sub_nil _))))))))))))))) (.refl _) ?_
    refine hl_nil ?_
    refine hq_then ?_
    refine hc_seq ?_
    refine hc_region ?_
    refine hl_v rfl rfl rfl (rv_ev rfl) ?_
    refine hl_v rfl rfl rfl (rv_ev rfl) ?_
    refine hl_callM (R := (fun u_ p_ => u_ = .int .i64 (1 + (smpR x e).length) ∧ p_ = rowE 3 1 v16 (smpR x e).length ((seqL 1 (smpR x e).length).map (Value.int .i64)))) 1 rfl rfl (by kernel_rfl) rfl rfl (fun l' w hm => markIntS_mut (smpR x e) 1 v16 _ _ w hm (by omega) (by omega)) ?_
    intro v28 p29 hR30
    obtain ⟨rfl, rfl⟩ := hR30
    refine hl_eqL (l' := [tdE yhR22, rowE 3 1 v16 ((smpR x e).length) ((seqL 1 (smpR x e).length).map (Value.int .i64)), boxE b15 #[.int .i64 yhR14.n.ins, yhR14.n.sv, yhR14.n.lv, yhR14.n.ov, yhR14.pv, yhR14.qv, yhR14.kv, yhR14.av, yhR14.bv, .int .i64 yhR14.oi, .int .i64 yhR14.ni] 40, p24, rowE 3 1 v9 ((smpR x e).length) ((smpR x e).map (Value.int .i64)), tdE yhR8, boxE b1 #[.int .i64 x.n.ins, x.n.sv, x.n.lv, x.n.ov, x.pv, x.qv, x.kv, x.av, x.bv, .int .i64 x.oi, .int .i64 x.ni] 31]) rfl ?_
    refine hl_v rfl rfl rfl (rv_ev rfl) ?_
    refine hl_less (sx 0 rfl (sx 1 rfl (sx 2 rfl (sx 4 rfl (sx 5 rfl (sx 6 rfl (sx 7 rfl (sx 8 rfl (sx 9 rfl (sx 10 rfl (sx 17 rfl (sx 30 rfl (sx 35 rfl (sx 46 rfl (sub_nil _))))))))))))))) (.refl _) ?_
    refine hl_nil ?_
    refine hq_then ?_
    refine hc_seq ?_
    refine hc_region ?_
    refine hl_v rfl rfl rfl (rv_ev rfl) ?_
    refine hl_less (sx 0 rfl (sx 1 rfl (sx 2 rfl (sx 4 rfl (sx 5 rfl (sx 6 rfl (sx 7 rfl (sx 8 rfl (sx 9 rfl (sx 10 rfl (sx 11 rfl (sx 17 rfl (sx 30 rfl (sx 35 rfl (sx 46 rfl (sub_nil _)))))))))))))))) (.refl _) ?_
    refine hl_nil ?_
    refine hq_then ?_
    refine hc_seq ?_
    refine hc_region ?_
    refine hl_v rfl rfl rfl (rv_ev rfl) ?_
    refine hl_v rfl rfl rfl (rv_ev rfl) ?_
    refine hl_callV rfl rfl rfl (rq_call (by kernel_rfl) rfl (fun w hm => ret_ans (heldIntS_ans (smpR x e).length 1 v16 w (rd_row 1 rfl w hm) (by omega) (by omega)))) ?_
    refine hl_v rfl rfl rfl (rv_ev rfl) ?_
    refine hl_less (sx 0 rfl (sx 1 rfl (sx 2 rfl (sx 4 rfl (sx 5 rfl (sx 6 rfl (sx 7 rfl (sx 8 rfl (sx 9 rfl (sx 10 rfl (sx 11 rfl (sx 17 rfl (sx 30 rfl (sx 35 rfl (sx 46 rfl (sub_nil _)))))))))))))))) (.refl _) ?_
    refine hl_nil ?_
    refine hq_then ?_
    refine hc_seq ?_
    refine hc_seq ?_
    refine hc_region ?_
    refine hl_v rfl rfl rfl (rv_ev rfl) ?_
    refine hl_lss rfl rfl rfl rfl rfl rfl (fun h31 => ?_) (fun h31 => ?_)
    ·
     refine hl_less (sx 0 rfl (sx 1 rfl (sx 2 rfl (sx 4 rfl (sx 5 rfl (sx 6 rfl (sx 7 rfl (sx 8 rfl (sx 9 rfl (sx 10 rfl (sx 11 rfl (sx 17 rfl (sx 30 rfl (sx 35 rfl (sx 46 rfl (sx 54 rfl (sub_nil _))))))))))))))))) (.refl _) ?_
     refine hl_nil ?_
     refine hq_then ?_
     refine hc_true rfl ?_
     refine hc_seq ?_
     refine hc_region ?_
     refine hl_v rfl rfl rfl (rv_ev rfl) ?_
     refine hl_less (sx 0 rfl (sx 1 rfl (sx 2 rfl (sx 4 rfl (sx 5 rfl (sx 6 rfl (sx 7 rfl (sx 8 rfl (sx 9 rfl (sx 10 rfl (sx 11 rfl (sx 17 rfl (sx 30 rfl (sx 35 rfl (sx 46 rfl (sx 54 rfl (sub_nil _))))))))))))))))) (.refl _) ?_
     refine hl_nil ?_
     refine hq_then ?_
     refine hc_ret ?_
     refine hq_then_ret ?_
     exfalso
     omega
    ·
     refine hl_less (sx 0 rfl (sx 1 rfl (sx 2 rfl (sx 4 rfl (sx 5 rfl (sx 6 rfl (sx 7 rfl (sx 8 rfl (sx 9 rfl (sx 10 rfl (sx 11 rfl (sx 17 rfl (sx 30 rfl (sx 35 rfl (sx 46 rfl (sx 54 rfl (sub_nil _))))))))))))))))) (.refl _) ?_
     refine hl_nil ?_
     refine hq_then ?_
     refine hc_false rfl ?_
     refine hc_skip ?_
     refine hq_then ?_
     refine hc_seq ?_
     refine hc_seq ?_
     refine hc_region ?_
     refine hl_v rfl rfl rfl (rv_ev rfl) ?_
     refine hl_v rfl rfl rfl (rv_ev rfl) ?_
     refine hl_neq rfl rfl rfl rfl rfl rfl (fun h32 => ?_) (fun h32 => ?_)
     ·
      refine hl_less (sx 0 rfl (sx 1 rfl (sx 2 rfl (sx 4 rfl (sx 5 rfl (sx 6 rfl (sx 7 rfl (sx 8 rfl (sx 9 rfl (sx 10 rfl (sx 11 rfl (sx 17 rfl (sx 30 rfl (sx 35 rfl (sx 46 rfl (sx 54 rfl (sx 57 rfl (sub_nil _)))))))))))))))))) (.refl _) ?_
      refine hl_nil ?_
      refine hq_then ?_
      refine hc_true rfl ?_
      refine hc_seq ?_
      refine hc_region ?_
      refine hl_v rfl rfl rfl (rv_ev rfl) ?_
      refine hl_less (sx 0 rfl (sx 1 rfl (sx 2 rfl (sx 4 rfl (sx 5 rfl (sx 6 rfl (sx 7 rfl (sx 8 rfl (sx 9 rfl (sx 10 rfl (sx 11 rfl (sx 17 rfl (sx 30 rfl (sx 35 rfl (sx 46 rfl (sx 54 rfl (sx 57 rfl (sub_nil _)))))))))))))))))) (.refl _) ?_
      refine hl_nil ?_
      refine hq_then ?_
      refine hc_ret ?_
      refine hq_then_ret ?_
      exfalso
      omega
     ·
      refine hl_less (sx 0 rfl (sx 1 rfl (sx 2 rfl (sx 4 rfl (sx 5 rfl (sx 6 rfl (sx 7 rfl (sx 8 rfl (sx 9 rfl (sx 10 rfl (sx 11 rfl (sx 17 rfl (sx 30 rfl (sx 35 rfl (sx 46 rfl (sx 54 rfl (sx 57 rfl (sub_nil _)))))))))))))))))) (.refl _) ?_
      refine hl_nil ?_
      refine hq_then ?_
      refine hc_false rfl ?_
      refine hc_skip ?_
      refine hq_then ?_
      refine hc_seq ?_
      refine hc_region ?_
      refine hl_v rfl rfl rfl (rv_loadN (cs := [.int .i64 x.n.ins, x.n.sv, x.n.lv, x.n.ov, x.pv, x.qv, x.kv, x.av, x.bv, .int .i64 x.oi, .int .i64 x.ni]) rfl (by kernel_rfl) (by kernel_rfl) rfl rfl (box_part 6 rfl 0 rfl)) ?_
      refine hl_q rfl rfl rfl (rq_call (by kernel_rfl) rfl (fun w hm => toTimed_ret x w (hr.below hm.bel) hz)) ?_
      intro v33 p34 hR35
      obtain ⟨yhR35, rfl, rfl, hshR35, hohR35⟩ := hR35
      have hzhR35 := hz.same hshR35
      refine hl_v rfl rfl rfl (rv_ev rfl) ?_
      refine hl_q rfl rfl rfl (rq_call (by kernel_rfl) rfl (fun w hm => by have h9 := implSampledAt_ret yhR35 e w (td_rds 0 rfl w hm); rw [smpR_same hshR35] at h9; exact h9)) ?_
      intro v36 p37 hR38
      subst hR38
      refine hl_v rfl rfl rfl (rv_ev rfl) ?_
      refine hl_less (sx 0 rfl (sx 1 rfl (sx 2 rfl (sx 4 rfl (sx 5 rfl (sx 6 rfl (sx 7 rfl (sx 8 rfl (sx 9 rfl (sx 10 rfl (sx 11 rfl (sx 12 rfl (sx 17 rfl (sx 30 rfl (sx 35 rfl (sx 46 rfl (sx 54 rfl (sx 57 rfl (sub_nil _))))))))))))))))))) (.refl _) ?_
      refine hl_nil ?_
      refine hq_then ?_
      refine hc_seq ?_
      refine hc_seq ?_
      refine hc_region ?_
      refine hl_v rfl rfl rfl (rv_ev rfl) ?_
      refine hl_v rfl rfl rfl (rv_ev rfl) ?_
      refine hl_callV rfl rfl rfl (rq_call (by kernel_rfl) rfl (fun w hm => ret_ans (eqIntS_ans (smpR x e) (smpR x e) _ _ w ((rd_row 0 rfl) w hm) ((rd_row 6 rfl) w hm) (by omega)))) ?_
      refine hl_bool (fun h39 => ?_) (fun h39 => absurd (((decide_eq_true (by first | rfl | assumption | (symm; assumption)))).symm.trans h39) (by decide))
      refine hl_v rfl rfl rfl (rv_ev rfl) ?_
      refine hl_less (sx 0 rfl (sx 1 rfl (sx 2 rfl (sx 4 rfl (sx 5 rfl (sx 6 rfl (sx 7 rfl (sx 8 rfl (sx 9 rfl (sx 10 rfl (sx 11 rfl (sx 12 rfl (sx 17 rfl (sx 30 rfl (sx 35 rfl (sx 46 rfl (sx 54 rfl (sx 57 rfl (sx 65 rfl (sub_nil _)))))))))))))))))))) (.refl _) ?_
      refine hl_nil ?_
      refine hq_then ?_
      refine hc_false rfl ?_
      refine hc_skip ?_
      refine hq_then ?_
      refine hc_seq ?_
      refine hc_region ?_
      refine hl_v rfl rfl rfl (rv_ev rfl) ?_
      refine hl_less (sx 0 rfl (sx 1 rfl (sx 2 rfl (sx 4 rfl (sx 5 rfl (sx 6 rfl (sx 7 rfl (sx 8 rfl (sx 9 rfl (sx 10 rfl (sx 11 rfl (sx 12 rfl (sx 17 rfl (sx 30 rfl (sx 35 rfl (sx 46 rfl (sx 54 rfl (sx 57 rfl (sx 65 rfl (sub_nil _)))))))))))))))))))) (.refl _) ?_
      refine hl_nil ?_
      refine hq_then ?_
      refine hc_seq ?_
      refine hc_region ?_
      refine hl_v rfl rfl rfl (rv_ev rfl) ?_
      refine hl_v rfl rfl rfl (rv_ev rfl) ?_
      refine hl_callV rfl rfl rfl (rq_call (by kernel_rfl) rfl (fun w hm => ret_ans (heldIntS_ans (smpR x e).length 1 v16 w (rd_row 3 rfl w hm) (by omega) (by omega)))) ?_
      refine hl_v rfl rfl rfl (rv_ev rfl) ?_
      refine hl_less (sx 0 rfl (sx 1 rfl (sx 2 rfl (sx 4 rfl (sx 5 rfl (sx 6 rfl (sx 7 rfl (sx 8 rfl (sx 9 rfl (sx 10 rfl (sx 11 rfl (sx 12 rfl (sx 17 rfl (sx 30 rfl (sx 35 rfl (sx 46 rfl (sx 54 rfl (sx 57 rfl (sx 65 rfl (sub_nil _)))))))))))))))))))) (.refl _) ?_
      refine hl_nil ?_
      refine hq_then ?_
      refine hc_seq ?_
      refine hc_seq ?_
      refine hc_region ?_
      refine hl_v rfl rfl rfl (rv_ev rfl) ?_
      refine hl_lss rfl rfl rfl rfl rfl rfl (fun h40 => ?_) (fun h40 => ?_)
      ·
       refine hl_less (sx 0 rfl (sx 1 rfl (sx 2 rfl (sx 4 rfl (sx 5 rfl (sx 6 rfl (sx 7 rfl (sx 8 rfl (sx 9 rfl (sx 10 rfl (sx 11 rfl (sx 12 rfl (sx 17 rfl (sx 30 rfl (sx 35 rfl (sx 46 rfl (sx 54 rfl (sx 57 rfl (sx 65 rfl (sx 70 rfl (sub_nil _))))))))))))))))))))) (.refl _) ?_
       refine hl_nil ?_
       refine hq_then ?_
       refine hc_true rfl ?_
       refine hc_seq ?_
       refine hc_region ?_
       refine hl_v rfl rfl rfl (rv_ev rfl) ?_
       refine hl_less (sx 0 rfl (sx 1 rfl (sx 2 rfl (sx 4 rfl (sx 5 rfl (sx 6 rfl (sx 7 rfl (sx 8 rfl (sx 9 rfl (sx 10 rfl (sx 11 rfl (sx 12 rfl (sx 17 rfl (sx 30 rfl (sx 35 rfl (sx 46 rfl (sx 54 rfl (sx 57 rfl (sx 65 rfl (sx 70 rfl (sub_nil _))))))))))))))))))))) (.refl _) ?_
       refine hl_nil ?_
       refine hq_then ?_
       refine hc_ret ?_
       refine hq_then_ret ?_
       exfalso
       omega
      ·
       refine hl_less (sx 0 rfl (sx 1 rfl (sx 2 rfl (sx 4 rfl (sx 5 rfl (sx 6 rfl (sx 7 rfl (sx 8 rfl (sx 9 rfl (sx 10 rfl (sx 11 rfl (sx 12 rfl (sx 17 rfl (sx 30 rfl (sx 35 rfl (sx 46 rfl (sx 54 rfl (sx 57 rfl (sx 65 rfl (sx 70 rfl (sub_nil _))))))))))))))))))))) (.refl _) ?_
       refine hl_nil ?_
       refine hq_then ?_
       refine hc_false rfl ?_
       refine hc_skip ?_
       refine hq_then ?_
       refine hc_seq ?_
       refine hc_seq ?_
       refine hc_region ?_
       refine hl_v rfl rfl rfl (rv_ev rfl) ?_
       refine hl_v rfl rfl rfl (rv_ev rfl) ?_
       refine hl_neq rfl rfl rfl rfl rfl rfl (fun h41 => ?_) (fun h41 => ?_)
       ·
        refine hl_less (sx 0 rfl (sx 1 rfl (sx 2 rfl (sx 4 rfl (sx 5 rfl (sx 6 rfl (sx 7 rfl (sx 8 rfl (sx 9 rfl (sx 10 rfl (sx 11 rfl (sx 12 rfl (sx 17 rfl (sx 30 rfl (sx 35 rfl (sx 46 rfl (sx 54 rfl (sx 57 rfl (sx 65 rfl (sx 70 rfl (sx 73 rfl (sub_nil _)))))))))))))))))))))) (.refl _) ?_
        refine hl_nil ?_
        refine hq_then ?_
        refine hc_true rfl ?_
        refine hc_seq ?_
        refine hc_region ?_
        refine hl_v rfl rfl rfl (rv_ev rfl) ?_
        refine hl_less (sx 0 rfl (sx 1 rfl (sx 2 rfl (sx 4 rfl (sx 5 rfl (sx 6 rfl (sx 7 rfl (sx 8 rfl (sx 9 rfl (sx 10 rfl (sx 11 rfl (sx 12 rfl (sx 17 rfl (sx 30 rfl (sx 35 rfl (sx 46 rfl (sx 54 rfl (sx 57 rfl (sx 65 rfl (sx 70 rfl (sx 73 rfl (sub_nil _)))))))))))))))))))))) (.refl _) ?_
        refine hl_nil ?_
        refine hq_then ?_
        refine hc_ret ?_
        refine hq_then_ret ?_
        exfalso
        omega
       ·
        refine hl_less (sx 0 rfl (sx 1 rfl (sx 2 rfl (sx 4 rfl (sx 5 rfl (sx 6 rfl (sx 7 rfl (sx 8 rfl (sx 9 rfl (sx 10 rfl (sx 11 rfl (sx 12 rfl (sx 17 rfl (sx 30 rfl (sx 35 rfl (sx 46 rfl (sx 54 rfl (sx 57 rfl (sx 65 rfl (sx 70 rfl (sx 73 rfl (sub_nil _)))))))))))))))))))))) (.refl _) ?_
        refine hl_nil ?_
        refine hq_then ?_
        refine hc_false rfl ?_
        refine hc_skip ?_
        refine hq_then ?_
        refine hc_seq ?_
        refine hc_region ?_
        refine hl_v rfl rfl rfl (rv_ev rfl) ?_
        refine hl_less (sx 0 rfl (sx 1 rfl (sx 2 rfl (sx 4 rfl (sx 5 rfl (sx 6 rfl (sx 7 rfl (sx 8 rfl (sx 9 rfl (sx 10 rfl (sx 11 rfl (sx 12 rfl (sx 17 rfl (sx 30 rfl (sx 35 rfl (sx 46 rfl (sx 54 rfl (sx 57 rfl (sx 65 rfl (sx 70 rfl (sx 73 rfl (sub_nil _)))))))))))))))))))))) (.refl _) ?_
        refine hl_nil ?_
        refine hq_then ?_
        refine hc_ret ?_
        exact hq_ans rfl rfl rfl
end Go.Proofs.Ytceebbcoikgocaa
