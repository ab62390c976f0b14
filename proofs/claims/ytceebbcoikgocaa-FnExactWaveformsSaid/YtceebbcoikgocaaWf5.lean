/- Texts of the law FnExactWaveforms, part 5: what it uses. -/
import Derived.Test.YtceebbcoikgocaaWf4
set_option linter.unusedVariables false
set_option linter.unusedSimpArgs false
namespace Go.Proofs.Ytceebbcoikgocaa
open Go.RowKit Go.ChangeShapes
open Go.RowKit
set_option maxHeartbeats 4000000 in
set_option maxRecDepth 100000 in
theorem l37Waves_ret (x : Td) (a : Int) (w : World) (hr : RdsTd w x) (hok : TdOk x) (ha : 0 ≤ a ∧ a ≤ 1100) :
  Calls Try.prog 65 #[.agg #[.int .i64 x.n.ins, x.n.sv, x.n.lv, x.n.ov, x.pv, x.qv, x.kv, x.av, x.bv, .int .i64 x.oi, .int .i64 x.ni], .int .i64 a] w (Ret w (fun v' post => ∃ es : List IR, post = [irsE v' es] ∧ WOk x a.toNat x.n.cnt.toNat x.n.cnt.toNat es)) := by
 have t1 := sml hr.ks
 have t2 := sml hr.ao
 have t3 := sml hr.bs
 have t4 := hr.dl.small
 have t5 := hr.ds.small
 have t6 := hr.n.sq.small
 have t7 := hr.n.lt.small
 have t8 := sml hr.n.ou
 have hcnt : x.n.cnt = 1 + x.n.ins + x.n.ss.length + x.n.ls.length := rfl
 have hfst : x.n.fst = 1 + x.n.ins + x.n.ss.length := rfl
 obtain ⟨ci, cs_, cl, ck, ca, cb, cd, ce⟩ := hok.bnd
 have hi0 := ci.1
 have hi1 := ci.2
 have hvl := vl_len x.n x.ao x.oi x.n.ls.length
 have hov : (ovX x).length = x.n.cnt.toNat := by show (vlL _ _ _ _).length = _; omega
 have hrl : (List.replicate x.n.cnt.toNat ir0).length = x.n.cnt.toNat := List.length_replicate
 have hvl2 := vl_len x.n x.bs x.ni x.n.ls.length
 have hnv : (valT x.n x.bs x.ni).length = x.n.cnt.toNat := by show (vlL _ _ _ _).length = _; omega
 have hov2 : (valT x.n x.ao x.oi).length = x.n.cnt.toNat := hov
 refine calls_hc (N := 145) (args := [.agg #[.int .i64 x.n.ins, x.n.sv, x.n.lv, x.n.ov, x.pv, x.qv, x.kv, x.av, x.bv, .int .i64 x.oi, .int .i64 x.ni], .int .i64 a]) Try.func65 rfl rfl ?_
 refine hc_less _ (sx 0 rfl (sx 1 rfl (sub_nil _))) (.refl _) ?_
 refine hc_seq ?_
 refine hc_region ?_
 refine hl_box rfl rfl rfl (rq_box rfl rfl) ?_
 intro b1
 refine hl_v rfl rfl rfl (rv_ev rfl) ?_
 refine hl_less (sx 0 rfl (sx 1 rfl (sx 2 rfl (sx 4 rfl (sub_nil _))))) (.refl _) ?_
 refine hl_nil ?_
 refine hq_then ?_
 refine hc_seq ?_
 refine hc_region ?_
 refine hl_v rfl rfl rfl (rv_field (k0 := 0) rfl (by kernel_rfl) rfl) ?_
 refine hl_v rfl rfl rfl (rv_loadN (cs := [.int .i64 x.n.ins, x.n.sv, x.n.lv, x.n.ov]) rfl (by kernel_rfl) (by kernel_rfl) rfl rfl (box_part 0 rfl 0 rfl)) ?_
 refine hl_v rfl rfl rfl (rv_field (k0 := 7) rfl (by kernel_rfl) rfl) ?_
 refine hl_v rfl rfl rfl (rv_load rfl (by kernel_rfl) rfl (box_cell 0 rfl rfl)) ?_
 refine hl_v rfl rfl rfl (rv_field (k0 := 9) rfl (by kernel_rfl) rfl) ?_
 refine hl_v rfl rfl rfl (rv_load rfl (by kernel_rfl) rfl (box_cell 0 rfl rfl)) ?_
 refine hl_q rfl rfl rfl (rq_call (by kernel_rfl) rfl (fun w hm => specLutValues_ret x.n x.ao _ x.oi w (hr.n.below hm.bel) (hr.ao.below hm.bel) hok.n hok.a)) ?_
 intro v2 p3 hR4
 subst hR4
 refine hl_v rfl rfl rfl (rv_ev rfl) ?_
 refine hl_less (sx 0 rfl (sx 1 rfl (sx 2 rfl (sx 4 rfl (sx 5 rfl (sub_nil _)))))) (.refl _) ?_
 refine hl_nil ?_
 refine hq_then ?_
 refine hc_seq ?_
 refine hc_region ?_
 refine hl_v rfl rfl rfl (rv_field (k0 := 0) rfl (by kernel_rfl) rfl) ?_
 refine hl_v rfl rfl rfl (rv_loadN (cs := [.int .i64 x.n.ins, x.n.sv, x.n.lv, x.n.ov]) rfl (by kernel_rfl) (by kernel_rfl) rfl rfl (box_part 1 rfl 0 rfl)) ?_
 refine hl_v rfl rfl rfl (rv_field (k0 := 8) rfl (by kernel_rfl) rfl) ?_
 refine hl_v rfl rfl rfl (rv_load rfl (by kernel_rfl) rfl (box_cell 1 rfl rfl)) ?_
 refine hl_v rfl rfl rfl (rv_field (k0 := 10) rfl (by kernel_rfl) rfl) ?_
 refine hl_v rfl rfl rfl (rv_load rfl (by kernel_rfl) rfl (box_cell 1 rfl rfl)) ?_
 refine hl_q rfl rfl rfl (rq_call (by kernel_rfl) rfl (fun w hm => specLutValues_ret x.n x.bs _ x.ni w (hr.n.below hm.bel) (hr.bs.below hm.bel) hok.n hok.b)) ?_
 intro v5 p6 hR7
 subst hR7
 refine hl_v rfl rfl rfl (rv_ev rfl) ?_
 refine hl_less (sx 0 rfl (sx 1 rfl (sx 2 rfl (sx 4 rfl (sx 5 rfl (sx 6 rfl (sub_nil _))))))) (.refl _) ?_
 refine hl_nil ?_
 refine hq_then ?_
 refine hc_seq ?_
 refine hc_region ?_
 refine hl_row rfl rfl rfl (rq_slice0 (s := 1) rfl Try.underlying27 (by kernel_rfl)) ?_
 intro g8
 refine hl_v rfl rfl rfl (rv_ev rfl) ?_
 refine hl_less (sx 0 rfl (sx 1 rfl (sx 2 rfl (sx 4 rfl (sx 5 rfl (sx 6 rfl (sx 7 rfl (sub_nil _)))))))) (.refl _) ?_
 refine hl_nil ?_
 refine hq_then ?_
 refine hc_seq ?_
 refine hc_seq ?_
 refine hc_region ?_
 refine hl_v rfl rfl rfl (rv_ev rfl) ?_
 refine hl_less (sx 0 rfl (sx 1 rfl (sx 2 rfl (sx 4 rfl (sx 5 rfl (sx 6 rfl (sx 7 rfl (sx 8 rfl (sub_nil _))))))))) (.refl _) ?_
 refine hl_nil ?_
 refine hq_then ?_
 refine hc_block ?_
 refine hc_conv [bigE (([] : List IR).map irPart), rowE 24 1 (.slice (some ⟨g8, 0, none⟩) 0 0) 0 ([]), rowE 3 1 v5 ((valT x.n x.bs x.ni).length) ((valT x.n x.bs x.ni).map (Value.int .i64)), rowE 3 1 v2 ((valT x.n x.ao x.oi).length) ((valT x.n x.ao x.oi).map (Value.int .i64)), boxE b1 #[.int .i64 x.n.ins, x.n.sv, x.n.lv, x.n.ov, x.pv, x.qv, x.kv, x.av, x.bv, .int .i64 x.oi, .int .i64 x.ni] 40] (fun w hm => Mem.big (ps := []) hm) ?_
 refine hc_loop3 (α := Nat) (β := Value) (γ := List IR) (fun m u es => [bigE (es.map irPart), rowE 24 1 u es.length (es.flatMap irC), rowE 3 1 v5 ((valT x.n x.bs x.ni).length) ((valT x.n x.bs x.ni).map (Value.int .i64)), rowE 3 1 v2 ((valT x.n x.ao x.oi).length) ((valT x.n x.ao x.oi).map (Value.int .i64)), boxE b1 #[.int .i64 x.n.ins, x.n.sv, x.n.lv, x.n.ov, x.pv, x.qv, x.kv, x.av, x.bv, .int .i64 x.oi, .int .i64 x.ni] 40]) (fun m u es => [(0, .agg #[.int .i64 x.n.ins, x.n.sv, x.n.lv, x.n.ov, x.pv, x.qv, x.kv, x.av, x.bv, .int .i64 x.oi, .int .i64 x.ni]), (1, .int .i64 a), (2, .pointer (some ⟨b1, 0, none⟩)), (4, .slice none 0 0), (5, v2), (6, v5), (7, u), (8, .int .i64 (m : Int))]) (fun m u es => m ≤ x.n.cnt.toNat ∧ WOk x a.toNat m m es) (fun m u es => x.n.cnt.toNat - m) 0 _ [] ⟨by omega, ⟨rfl, fun q hq => absurd hq (by omega)⟩⟩ (sx 0 rfl (sx 1 rfl (sx 2 rfl (sx 4 rfl (sx 5 rfl (sx 6 rfl (sx 7 rfl (sx 8 rfl (sub_nil _))))))))) ((.cons_cons _ (.cons_cons _ (.cons_cons _ (.cons_cons _ (.cons_cons _ .slnil)))))) ?_
 intro m u es hi9
 obtain ⟨hm9, hw⟩ := hi9
 have hel := hw.len
 refine hc_seq ?_
 refine hc_seq ?_
 refine hc_region ?_
 refine hl_v rfl rfl rfl (rv_ev rfl) ?_
 refine hl_v rfl rfl rfl (rv_ev rfl) ?_
 refine hl_v rfl rfl rfl (rv_len rfl Try.underlying24 rfl (rd_row 3 rfl)) ?_
 refine hl_lss rfl rfl rfl rfl rfl rfl (fun h10 => ?_) (fun h10 => ?_)
 ·
  refine hl_less (sx 0 rfl (sx 1 rfl (sx 2 rfl (sx 4 rfl (sx 5 rfl (sx 6 rfl (sx 7 rfl (sx 8 rfl (sx 35 rfl (sub_nil _)))))))))) (.refl _) ?_
  refine hl_nil ?_
  refine hq_then ?_
  refine hc_true rfl ?_
  refine hc_skip ?_
  refine hq_then ?_
  refine hc_seq ?_
  refine hc_block ?_
  refine hc_seq ?_
  refine hc_region ?_
  refine hl_row rfl rfl rfl (rq_slice0 (s := 1) rfl Try.underlying24 (by kernel_rfl)) ?_
  intro g11
  refine hl_v rfl rfl rfl (rv_ev rfl) ?_
  refine hl_less (sx 0 rfl (sx 1 rfl (sx 2 rfl (sx 4 rfl (sx 5 rfl (sx 6 rfl (sx 7 rfl (sx 8 rfl (sx 9 rfl (sx 35 rfl (sub_nil _))))))))))) (.refl _) ?_
  refine hl_nil ?_
  refine hq_then ?_
  refine hc_seq ?_
  refine hc_seq ?_
  refine hc_region ?_
  refine hl_v rfl rfl rfl (rv_ev rfl) ?_
  refine hl_less (sx 0 rfl (sx 1 rfl (sx 2 rfl (sx 4 rfl (sx 5 rfl (sx 6 rfl (sx 7 rfl (sx 8 rfl (sx 9 rfl (sx 10 rfl (sx 35 rfl (sub_nil _)))))))))))) (.refl _) ?_
  refine hl_nil ?_
  refine hq_then ?_
  refine hc_block ?_
  refine hc_loop3 (α := Nat) (β := Value) (γ := List Int) (fun t u2 zs => [rowE 3 1 u2 zs.length (zs.map (Value.int .i64)), bigE (es.map irPart), rowE 24 1 u es.length (es.flatMap irC), rowE 3 1 v5 ((valT x.n x.bs x.ni).length) ((valT x.n x.bs x.ni).map (Value.int .i64)), rowE 3 1 v2 ((valT x.n x.ao x.oi).length) ((valT x.n x.ao x.oi).map (Value.int .i64)), boxE b1 #[.int .i64 x.n.ins, x.n.sv, x.n.lv, x.n.ov, x.pv, x.qv, x.kv, x.av, x.bv, .int .i64 x.oi, .int .i64 x.ni] 40]) (fun t u2 zs => [(0, .agg #[.int .i64 x.n.ins, x.n.sv, x.n.lv, x.n.ov, x.pv, x.qv, x.kv, x.av, x.bv, .int .i64 x.oi, .int .i64 x.ni]), (1, .int .i64 a), (2, .pointer (some ⟨b1, 0, none⟩)), (4, .slice none 0 0), (5, v2), (6, v5), (7, u), (8, .int .i64 (m : Int)), (9, u2), (10, .int .i64 (t : Int)), (35, .bool true)]) (fun t u2 zs => t ≤ a.toNat + 1 ∧ zs = rowW x (wvsL x a.toNat m) m t) (fun t u2 zs => a.toNat + 1 - t) 0 _ [] ⟨by omega, rfl⟩ (sx 0 rfl (sx 1 rfl (sx 2 rfl (sx 4 rfl (sx 5 rfl (sx 6 rfl (sx 7 rfl (sx 8 rfl (sx 9 rfl (sx 10 rfl (sx 35 rfl (sub_nil _)))))))))))) ((.cons_cons _ (.cons_cons _ (.cons_cons _ (.cons_cons _ (.cons_cons _ (.cons_cons _ .slnil))))))) ?_
  intro t u2 zs hi12
  obtain ⟨ht, hz⟩ := hi12
  have hzl : zs.length = t := by rw [hz]; exact rowW_len _ _ _ _
  refine hc_seq ?_
  refine hc_seq ?_
  refine hc_region ?_
  refine hl_v rfl rfl rfl (rv_ev rfl) ?_
  refine hl_v rfl rfl rfl (rv_ev rfl) ?_
  refine hl_leq rfl rfl rfl rfl rfl rfl (fun h13 => ?_) (fun h13 => ?_)
  ·
   refine hl_less (sx 0 rfl (sx 1 rfl (sx 2 rfl (sx 4 rfl (sx 5 rfl (sx 6 rfl (sx 7 rfl (sx 8 rfl (sx 9 rfl (sx 10 rfl (sx 35 rfl (sx 41 rfl (sub_nil _))))))))))))) (.refl _) ?_
   refine hl_nil ?_
   refine hq_then ?_
   refine hc_true rfl ?_
   refine hc_skip ?_
   refine hq_then ?_
   refine hc_seq ?_
   refine hc_block ?_
   refine hc_seq ?_
   refine hc_region ?_
   refine hl_v rfl rfl rfl (rv_ev rfl) ?_
   refine hl_v rfl rfl rfl (rv_ev rfl) ?_
   refine hl_v rfl rfl rfl (rv_index (s := 1) rfl Try.underlying24 (by kernel_rfl) rfl rfl (rd_row 3 rfl) (by omega) (by first | omega | (simp only [List.length_set]; omega))) ?_
   refine hl_v rfl rfl rfl (rv_loadEl (u := .int .i64 ((valT x.n x.bs x.ni).getD m 0)) rfl (by kernel_rfl) rfl (rd_row 3 rfl) (ints_at1 (show _ < (valT x.n x.bs x.ni).length by first | omega | (simp only [List.length_set]; omega)))) ?_
   refine hl_v rfl rfl rfl (rv_ev rfl) ?_
   refine hl_less (sx 0 rfl (sx 1 rfl (sx 2 rfl (sx 4 rfl (sx 5 rfl (sx 6 rfl (sx 7 rfl (sx 8 rfl (sx 9 rfl (sx 10 rfl (sx 11 rfl (sx 35 rfl (sx 41 rfl (sub_nil _)))))))))))))) (.refl _) ?_
   refine hl_nil ?_
   refine hq_then ?_
   refine hc_seq ?_
   refine hc_region ?_
   refine hl_v rfl rfl rfl (rv_ev rfl) ?_
   refine hl_v rfl rfl rfl (rv_sub rfl rfl rfl (by constructor <;> omega)) ?_
   refine hl_v rfl rfl rfl (rv_field (k0 := 0) rfl (by kernel_rfl) rfl) ?_
   refine hl_v rfl rfl rfl (rv_field (k0 := 0) rfl (by kernel_rfl) rfl) ?_
   refine hl_v rfl rfl rfl (rv_load rfl (by kernel_rfl) rfl (box_cell 5 rfl rfl)) ?_
   refine hl_v rfl rfl rfl (rv_sub rfl rfl rfl (by constructor <;> omega)) ?_
   refine hl_v rfl rfl rfl (rv_ev rfl) ?_
   refine hl_less (sx 0 rfl (sx 1 rfl (sx 2 rfl (sx 4 rfl (sx 5 rfl (sx 6 rfl (sx 7 rfl (sx 8 rfl (sx 9 rfl (sx 10 rfl (sx 11 rfl (sx 12 rfl (sx 35 rfl (sx 41 rfl (sub_nil _))))))))))))))) (.refl _) ?_
   refine hl_nil ?_
   refine hq_then ?_
   refine hc_seq ?_
   refine hc_region ?_
   refine hl_v rfl rfl rfl (rv_ev rfl) ?_
   refine hl_v rfl rfl rfl (rv_field (k0 := 0) rfl (by kernel_rfl) rfl) ?_
   refine hl_v rfl rfl rfl (rv_loadN (cs := [.int .i64 x.n.ins, x.n.sv, x.n.lv, x.n.ov]) rfl (by kernel_rfl) (by kernel_rfl) rfl rfl (box_part 5 rfl 0 rfl)) ?_
   refine hl_callV rfl rfl rfl (rq_call (by kernel_rfl) rfl (fun w hm => ret_ans (l20First_ans x.n w (hr.n.below hm.bel) hok.n.sz))) ?_
   refine hl_v rfl rfl rfl (rv_sub rfl rfl rfl (by constructor <;> omega)) ?_
   refine hl_v rfl rfl rfl (rv_ev rfl) ?_
   refine hl_less (sx 0 rfl (sx 1 rfl (sx 2 rfl (sx 4 rfl (sx 5 rfl (sx 6 rfl (sx 7 rfl (sx 8 rfl (sx 9 rfl (sx 10 rfl (sx 11 rfl (sx 12 rfl (sx 13 rfl (sx 35 rfl (sx 41 rfl (sub_nil _)))))))))))))))) (.refl _) ?_
   refine hl_nil ?_
   refine hq_then ?_
   refine hc_seq ?_
   refine hc_seq ?_
   refine hc_region ?_
   refine hl_v rfl rfl rfl (rv_ev rfl) ?_
   refine hl_geq rfl rfl rfl rfl rfl rfl (fun h14 => ?_) (fun h14 => ?_)
   ·
    refine hl_v rfl rfl rfl (rv_ev rfl) ?_
    refine hl_v rfl rfl rfl (rv_ev rfl) ?_
    refine hl_lss rfl rfl rfl rfl rfl rfl (fun h15 => ?_) (fun h15 => ?_)
    ·
     refine hl_v rfl rfl rfl (rv_ev rfl) ?_
     refine hl_v rfl rfl rfl (rv_ev rfl) ?_
     refine hl_v rfl rfl rfl (rv_ev rfl) ?_
     refine hl_v rfl rfl rfl (rv_field (k0 := 6) rfl (by kernel_rfl) rfl) ?_
     refine hl_v rfl rfl rfl (rv_load rfl (by kernel_rfl) rfl (box_cell 5 rfl rfl)) ?_
     refine hl_v rfl rfl rfl (rv_ev rfl) ?_
     refine hl_v rfl rfl rfl (rv_index (s := 1) rfl Try.underlying24 (by kernel_rfl) rfl rfl (rd_old ((hr).ks)) (by omega) (by first | omega | (simp only [List.length_set]; omega))) ?_
     refine hl_v rfl rfl rfl (rv_loadEl (u := .int .i64 (x.ks.getD ((((m : Int) - 1) - x.n.ins).toNat) 0)) rfl (by kernel_rfl) rfl (rd_old ((hr).ks)) (ints_at1 (show _ < x.ks.length by first | omega | (simp only [List.length_set]; omega)))) ?_
     refine hl_lss rfl rfl rfl rfl rfl rfl (fun h16 => ?_) (fun h16 => ?_)
     ·
      refine hl_v rfl rfl rfl (rv_ev rfl) ?_
      refine hl_less (sx 0 rfl (sx 1 rfl (sx 2 rfl (sx 4 rfl (sx 5 rfl (sx 6 rfl (sx 7 rfl (sx 8 rfl (sx 9 rfl (sx 10 rfl (sx 11 rfl (sx 12 rfl (sx 13 rfl (sx 35 rfl (sx 41 rfl (sx 73 rfl (sub_nil _))))))))))))))))) (.refl _) ?_
      refine hl_nil ?_
      refine hq_then ?_
      refine hc_true rfl ?_
      refine hc_region ?_
      refine hl_v rfl rfl rfl (rv_ev rfl) ?_
      refine hl_v rfl rfl rfl (rv_ev rfl) ?_
      refine hl_v rfl rfl rfl (rv_index (s := 1) rfl Try.underlying24 (by kernel_rfl) rfl rfl (rd_row 4 rfl) (by omega) (by first | omega | (simp only [List.length_set]; omega))) ?_
      refine hl_v rfl rfl rfl (rv_loadEl (u := .int .i64 ((valT x.n x.ao x.oi).getD m 0)) rfl (by kernel_rfl) rfl (rd_row 4 rfl) (ints_at1 (show _ < (valT x.n x.ao x.oi).length by first | omega | (simp only [List.length_set]; omega)))) ?_
      refine hl_v rfl rfl rfl (rv_ev rfl) ?_
      refine hl_less (sx 0 rfl (sx 1 rfl (sx 2 rfl (sx 4 rfl (sx 5 rfl (sx 6 rfl (sx 7 rfl (sx 8 rfl (sx 9 rfl (sx 10 rfl (sx 11 rfl (sx 12 rfl (sx 13 rfl (sx 35 rfl (sx 41 rfl (sx 73 rfl (sub_nil _))))))))))))))))) (.refl _) ?_
      refine hl_nil ?_
      refine hq_then ?_
      refine hc_seq ?_
      refine hc_seq ?_
      refine hc_region ?_
      refine hl_v rfl rfl rfl (rv_ev rfl) ?_
      refine hl_geq rfl rfl rfl rfl rfl rfl (fun h17 => ?_) (fun h17 => ?_)
      ·
       refine hl_less (sx 0 rfl (sx 1 rfl (sx 2 rfl (sx 4 rfl (sx 5 rfl (sx 6 rfl (sx 7 rfl (sx 8 rfl (sx 9 rfl (sx 10 rfl (sx 11 rfl (sx 12 rfl (sx 13 rfl (sx 35 rfl (sx 41 rfl (sx 73 rfl (sx 79 rfl (sub_nil _)))))))))))))))))) (.refl _) ?_
       refine hl_nil ?_
       refine hq_then ?_
       refine hc_true rfl ?_
       refine hc_seq ?_
       refine hc_region ?_
       obtain ⟨i, hmi⟩ : ∃ i : Nat, (m : Int) - x.n.fst = (i : Int) := ⟨((m : Int) - x.n.fst).toNat, by omega⟩
       rw [hmi]
       have hil : i < x.n.ls.length := by omega
       have hlt9 := hok.n.lt i hil
       have hx4 := hlt9.1.1
       have hdi : (x.dl.getD i ir0).xs.length = (x.n.ls.getD i lt0).xs.length := by have := (hok.dl i hil).1; omega
       refine hl_v rfl rfl rfl (rv_ev rfl) ?_
       refine hl_less (sx 0 rfl (sx 1 rfl (sx 2 rfl (sx 4 rfl (sx 5 rfl (sx 6 rfl (sx 7 rfl (sx 8 rfl (sx 9 rfl (sx 10 rfl (sx 11 rfl (sx 12 rfl (sx 13 rfl (sx 14 rfl (sx 35 rfl (sx 41 rfl (sx 73 rfl (sx 79 rfl (sub_nil _))))))))))))))))))) (.refl _) ?_
       refine hl_nil ?_
       refine hq_then ?_
       refine hc_seq ?_
       refine hc_seq ?_
       refine hc_region ?_
       refine hl_v rfl rfl rfl (rv_ev rfl) ?_
       refine hl_less (sx 0 rfl (sx 1 rfl (sx 2 rfl (sx 4 rfl (sx 5 rfl (sx 6 rfl (sx 7 rfl (sx 8 rfl (sx 9 rfl (sx 10 rfl (sx 11 rfl (sx 12 rfl (sx 13 rfl (sx 14 rfl (sx 15 rfl (sx 35 rfl (sx 41 rfl (sx 73 rfl (sx 79 rfl (sub_nil _)))))))))))))))))))) (.refl _) ?_
       refine hl_nil ?_
       refine hq_then ?_
       refine hc_block ?_
       refine hc_loop2 (α := Nat) (β := Int) (fun j q => [rowE 3 1 u2 zs.length (zs.map (Value.int .i64)), bigE (es.map irPart), rowE 24 1 u es.length (es.flatMap irC), rowE 3 1 v5 ((valT x.n x.bs x.ni).length) ((valT x.n x.bs x.ni).map (Value.int .i64)), rowE 3 1 v2 ((valT x.n x.ao x.oi).length) ((valT x.n x.ao x.oi).map (Value.int .i64)), boxE b1 #[.int .i64 x.n.ins, x.n.sv, x.n.lv, x.n.ov, x.pv, x.qv, x.kv, x.av, x.bv, .int .i64 x.oi, .int .i64 x.ni] 40]) (fun j q => [(0, .agg #[.int .i64 x.n.ins, x.n.sv, x.n.lv, x.n.ov, x.pv, x.qv, x.kv, x.av, x.bv, .int .i64 x.oi, .int .i64 x.ni]), (1, .int .i64 a), (2, .pointer (some ⟨b1, 0, none⟩)), (4, .slice none 0 0), (5, v2), (6, v5), (7, u), (8, .int .i64 (m : Int)), (9, u2), (10, .int .i64 (t : Int)), (11, .int .i64 ((valT x.n x.ao x.oi).getD m 0)), (12, .int .i64 (((m : Int) - 1) - x.n.ins)), (13, .int .i64 (i : Int)), (14, .int .i64 q), (15, .int .i64 (j : Int)), (35, .bool true), (41, .bool true), (73, .bool true), (79, .bool true)]) (fun j q => j ≤ (x.n.ls.getD i lt0).xs.length ∧ q = pk (lin x (wvsL x a.toNat m) i (t : Int)) j) (fun j q => (x.n.ls.getD i lt0).xs.length - j) 0 0 ⟨Nat.zero_le _, rfl⟩ (sx 0 rfl (sx 1 rfl (sx 2 rfl (sx 4 rfl (sx 5 rfl (sx 6 rfl (sx 7 rfl (sx 8 rfl (sx 9 rfl (sx 10 rfl (sx 11 rfl (sx 12 rfl (sx 13 rfl (sx 14 rfl (sx 15 rfl (sx 35 rfl (sx 41 rfl (sx 73 rfl (sx 79 rfl (sub_nil _)))))))))))))))))))) ((.cons_cons _ (.cons_cons _ (.cons_cons _ (.cons_cons _ (.cons_cons _ (.cons_cons _ .slnil))))))) ?_
       intro j q hi18
       obtain ⟨hj, hq⟩ := hi18
       refine hc_seq ?_
       refine hc_seq ?_
       refine hc_region ?_
       refine hl_v rfl rfl rfl (rv_ev rfl) ?_
       refine hl_v rfl rfl rfl (rv_field (k0 := 0) rfl (by kernel_rfl) rfl) ?_
       refine hl_v rfl rfl rfl (rv_field (k0 := 2) rfl (by kernel_rfl) rfl) ?_
       refine hl_v rfl rfl rfl (rv_load rfl (by kernel_rfl) rfl (box_cell 5 rfl rfl)) ?_
       refine hl_v rfl rfl rfl (rv_ev rfl) ?_
       refine hl_v rfl rfl rfl (rv_index (s := 2) rfl Try.underlying35 (by kernel_rfl) rfl rfl (rd_old ((hr).n.lt.row)) (by omega) (by first | omega | (simp only [List.length_set]; omega))) ?_
       refine hl_v rfl rfl rfl (rv_fieldEl (k0 := 0) rfl (by kernel_rfl) rfl (rd_old ((hr).n.lt.row)) (by first | omega | (simp only [List.length_set]; omega))) ?_
       refine hl_v rfl rfl rfl (rv_loadEl (u := (x.n.ls.getD i lt0).iv) rfl (by kernel_rfl) rfl (rd_old ((hr).n.lt.row)) ((flat_at ltC 2 (fun _ => rfl) x.n.ls lt0 (show i < _ by first | omega | (simp only [List.length_set]; omega)) (by decide)).trans rfl)) ?_
       refine hl_v rfl rfl rfl (rv_len rfl Try.underlying24 rfl (rd_old ((hr).n.lt.at (d := lt0) (k := i) (by omega)))) ?_
       refine hl_lss rfl rfl rfl rfl rfl rfl (fun h19 => ?_) (fun h19 => ?_)
       ·
        refine hl_less (sx 0 rfl (sx 1 rfl (sx 2 rfl (sx 4 rfl (sx 5 rfl (sx 6 rfl (sx 7 rfl (sx 8 rfl (sx 9 rfl (sx 10 rfl (sx 11 rfl (sx 12 rfl (sx 13 rfl (sx 14 rfl (sx 15 rfl (sx 35 rfl (sx 41 rfl (sx 73 rfl (sx 79 rfl (sx 89 rfl (sub_nil _))))))))))))))))))))) (.refl _) ?_
        refine hl_nil ?_
        refine hq_then ?_
        refine hc_true rfl ?_
        refine hc_skip ?_
        refine hq_then ?_
        refine hc_seq ?_
        refine hc_block ?_
        refine hc_seq ?_
        refine hc_region ?_
        refine hl_v rfl rfl rfl (rv_field (k0 := 0) rfl (by kernel_rfl) rfl) ?_
        refine hl_v rfl rfl rfl (rv_field (k0 := 2) rfl (by kernel_rfl) rfl) ?_
        refine hl_v rfl rfl rfl (rv_load rfl (by kernel_rfl) rfl (box_cell 5 rfl rfl)) ?_
        refine hl_v rfl rfl rfl (rv_ev rfl) ?_
        refine hl_v rfl rfl rfl (rv_index (s := 2) rfl Try.underlying35 (by kernel_rfl) rfl rfl (rd_old ((hr).n.lt.row)) (by omega) (by first | omega | (simp only [List.length_set]; omega))) ?_
        refine hl_v rfl rfl rfl (rv_fieldEl (k0 := 0) rfl (by kernel_rfl) rfl (rd_old ((hr).n.lt.row)) (by first | omega | (simp only [List.length_set]; omega))) ?_
        refine hl_v rfl rfl rfl (rv_loadEl (u := (x.n.ls.getD i lt0).iv) rfl (by kernel_rfl) rfl (rd_old ((hr).n.lt.row)) ((flat_at ltC 2 (fun _ => rfl) x.n.ls lt0 (show i < _ by first | omega | (simp only [List.length_set]; omega)) (by decide)).trans rfl)) ?_
        refine hl_v rfl rfl rfl (rv_ev rfl) ?_
        refine hl_v rfl rfl rfl (rv_index (s := 1) rfl Try.underlying24 (by kernel_rfl) rfl rfl (rd_old ((hr).n.lt.at (d := lt0) (k := i) (by omega))) (by omega) (by first | omega | (simp only [List.length_set]; omega))) ?_
        refine hl_v rfl rfl rfl (rv_loadEl (u := .int .i64 (((x.n.ls.getD i lt0).xs).getD j 0)) rfl (by kernel_rfl) rfl (rd_old ((hr).n.lt.at (d := lt0) (k := i) (by omega))) (ints_at1 (show _ < ((x.n.ls.getD i lt0).xs).length by first | omega | (simp only [List.length_set]; omega)))) ?_
        refine hl_v rfl rfl rfl (rv_ev rfl) ?_
        refine hl_less (sx 0 rfl (sx 1 rfl (sx 2 rfl (sx 4 rfl (sx 5 rfl (sx 6 rfl (sx 7 rfl (sx 8 rfl (sx 9 rfl (sx 10 rfl (sx 11 rfl (sx 12 rfl (sx 13 rfl (sx 14 rfl (sx 15 rfl (sx 16 rfl (sx 35 rfl (sx 41 rfl (sx 73 rfl (sx 79 rfl (sx 89 rfl (sub_nil _)))))))))))))))))))))) (.refl _) ?_
        refine hl_nil ?_
        refine hq_then ?_
        have hns := hlt9.1.2 j (by omega)
        have hdj := (hok.dl i hil).2 j (by omega)
        have hbk : (lin x (wvsL x a.toNat m) i (t : Int)) j = 0 ∨ (lin x (wvsL x a.toNat m) i (t : Int)) j = 1 := lin01 hok (by omega) hmi (by omega) j (by omega)
        have hal : ∀ z, z < j → (lin x (wvsL x a.toNat m) i (t : Int)) z = 0 ∨ (lin x (wvsL x a.toNat m) i (t : Int)) z = 1 := fun z hz => lin01 hok (by omega) hmi (by omega) z (by omega)
        have hpr := pk16 (b := (lin x (wvsL x a.toNat m) i (t : Int))) (k := j) hal (by omega)
        have hpw := pow4 (k := j) (by omega)
        have hpw0 : (0 : Int) < 2 ^ j := Int.pow_pos (by decide)
        refine hc_draw (by kernel_rfl) 24 [0, 1, 2, 3, 4, 5, 6, 7, 8, 9, 10, 11, 12, 13, 14, 15, 16, 17, 18, 19, 20, 21, 22, 23] (List.take 24 _) (List.drop 24 _) [[], [], [], [1, 2], [3], [], [], [5, 6], [7], [], [], [10], [11], [], [12, 13], [14], [], [15, 16], [17], [9, 18], [4, 8, 19], [], [20, 21], [0, 22]] [102, 103, 104, 105, 106, 107, 108, 109, 110, 111, 112, 113, 114, 115, 116, 117, 118, 119, 120, 121, 122, 123, 124, 125] (fun i_ vs_ v_ p_ => match i_ with | 0 => v_ = .int .i64 q ∧ p_ = [] | 1 => v_ = u ∧ p_ = [] | 2 => v_ = .int .i64 (((x.n.ls.getD i lt0).xs).getD j 0) ∧ p_ = [] | 3 => v_ = elP u ((((x.n.ls.getD i lt0).xs).getD j 0).toNat * 1) ∧ p_ = [] | 4 => v_ = (es.getD ((((x.n.ls.getD i lt0).xs).getD j 0).toNat) ir0).v ∧ p_ = [] | 5 => v_ = v2 ∧ p_ = [] | 6 => v_ = .int .i64 (((x.n.ls.getD i lt0).xs).getD j 0) ∧ p_ = [] | 7 => v_ = elP v2 ((((x.n.ls.getD i lt0).xs).getD j 0).toNat * 1) ∧ p_ = [] | 8 => v_ = .int .i64 ((valT x.n x.ao x.oi).getD ((((x.n.ls.getD i lt0).xs).getD j 0).toNat) 0) ∧ p_ = [] | 9 => v_ = .int .i64 (t : Int) ∧ p_ = [] | 10 => v_ = .pointer (some ⟨b1, 0 + 4, none⟩) ∧ p_ = [] | 11 => v_ = .pointer (some ⟨b1, 0 + 4 + 0, none⟩) ∧ p_ = [] | 12 => v_ = x.pv ∧ p_ = [] | 13 => v_ = .int .i64 (i : Int) ∧ p_ = [] | 14 => v_ = elP x.pv (((i : Int)).toNat * 1) ∧ p_ = [] | 15 => v_ = (x.dl.getD i ir0).v ∧ p_ = [] | 16 => v_ = .int .i64 (j : Int) ∧ p_ = [] | 17 => v_ = elP ((x.dl.getD i ir0).v) (((j : Int)).toNat * 1) ∧ p_ = [] | 18 => v_ = .int .i64 (((x.dl.getD i ir0).xs).getD j 0) ∧ p_ = [] | 19 => v_ = .int .i64 ((t : Int) - (((x.dl.getD i ir0).xs).getD j 0)) ∧ p_ = [] | 20 => v_ = .int .i64 ((lin x (wvsL x a.toNat m) i (t : Int)) j) ∧ p_ = [] | 21 => v_ = .int .i64 (j : Int) ∧ p_ = [] | 22 => v_ = .int .i64 ((lin x (wvsL x a.toNat m) i (t : Int)) j * 2 ^ j) ∧ p_ = [] | 23 => v_ = .int .i64 (q + ((lin x (wvsL x a.toNat m) i (t : Int)) j * 2 ^ j)) ∧ p_ = [] | _ => True) (List.take_append_drop 24 _).symm (by kernel_rfl) (by kernel_rfl) rfl rfl ?_ ?_
        ·
         refine ⟨?_, ?_, ?_, ?_, ?_, ?_, ?_, ?_, ?_, ?_, ?_, ?_, ?_, ?_, ?_, ?_, ?_, ?_, ?_, ?_, ?_, ?_, ?_, ?_, trivial⟩
         ·
          intro vf pf hR
          refine Or.inl ⟨rfl, ?_⟩
          refine rq_less (sx 14 rfl (sub_nil _)) (List.sublist_append_right _ _) ?_
          exact rq_v (rv_ev rfl)
         ·
          intro vf pf hR
          refine Or.inl ⟨rfl, ?_⟩
          refine rq_less (sx 7 rfl (sub_nil _)) (List.sublist_append_right _ _) ?_
          exact rq_v (rv_ev rfl)
         ·
          intro vf pf hR
          refine Or.inl ⟨rfl, ?_⟩
          refine rq_less (sx 16 rfl (sub_nil _)) (List.sublist_append_right _ _) ?_
          exact rq_v (rv_ev rfl)
         ·
          intro vf pf hR
          have e1 : (vf 1) = u ∧ (pf 1) = [] := hR 1 (by decide)
          have e2 : (vf 2) = .int .i64 (((x.n.ls.getD i lt0).xs).getD j 0) ∧ (pf 2) = [] := hR 2 (by decide)
          refine Or.inl ⟨rfl, ?_⟩
          refine rq_less (sx 103 (congrArg some e1.1) (sx 104 (congrArg some e2.1) (sub_nil _))) (List.sublist_append_right _ _) ?_
          exact rq_v (rv_index (s := 1) rfl Try.underlying27 (by kernel_rfl) rfl rfl (rd_row 2 rfl) (by omega) (by first | omega | (simp only [List.length_set]; omega)))
         ·
          intro vf pf hR
          have e3 : (vf 3) = elP u ((((x.n.ls.getD i lt0).xs).getD j 0).toNat * 1) ∧ (pf 3) = [] := hR 3 (by decide)
          refine Or.inl ⟨rfl, ?_⟩
          refine rq_less (sx 105 (congrArg some e3.1) (sub_nil _)) (List.sublist_append_right _ _) ?_
          exact rq_v (rv_loadEl (u := (es.getD ((((x.n.ls.getD i lt0).xs).getD j 0).toNat) ir0).v) rfl (by kernel_rfl) rfl (rd_row 2 rfl) (flat_one irC (fun r => r.v) (fun _ => rfl) es ir0 (show (((x.n.ls.getD i lt0).xs).getD j 0).toNat < _ by first | omega | (simp only [List.length_set]; omega))))
         ·
          intro vf pf hR
          refine Or.inl ⟨rfl, ?_⟩
          refine rq_less (sx 5 rfl (sub_nil _)) (List.sublist_append_right _ _) ?_
          exact rq_v (rv_ev rfl)
         ·
          intro vf pf hR
          refine Or.inl ⟨rfl, ?_⟩
          refine rq_less (sx 16 rfl (sub_nil _)) (List.sublist_append_right _ _) ?_
          exact rq_v (rv_ev rfl)
         ·
          intro vf pf hR
          have e5 : (vf 5) = v2 ∧ (pf 5) = [] := hR 5 (by decide)
          have e6 : (vf 6) = .int .i64 (((x.n.ls.getD i lt0).xs).getD j 0) ∧ (pf 6) = [] := hR 6 (by decide)
          refine Or.inl ⟨rfl, ?_⟩
          refine rq_less (sx 107 (congrArg some e5.1) (sx 108 (congrArg some e6.1) (sub_nil _))) (List.sublist_append_right _ _) ?_
          exact rq_v (rv_index (s := 1) rfl Try.underlying24 (by kernel_rfl) rfl rfl (rd_row 4 rfl) (by omega) (by first | omega | (simp only [List.length_set]; omega)))
         ·
          intro vf pf hR
          have e7 : (vf 7) = elP v2 ((((x.n.ls.getD i lt0).xs).getD j 0).toNat * 1) ∧ (pf 7) = [] := hR 7 (by decide)
          refine Or.inl ⟨rfl, ?_⟩
          refine rq_less (sx 109 (congrArg some e7.1) (sub_nil _)) (List.sublist_append_right _ _) ?_
          exact rq_v (rv_loadEl (u := .int .i64 ((valT x.n x.ao x.oi).getD ((((x.n.ls.getD i lt0).xs).getD j 0).toNat) 0)) rfl (by kernel_rfl) rfl (rd_row 4 rfl) (ints_at1 (show _ < (valT x.n x.ao x.oi).length by first | omega | (simp only [List.length_set]; omega))))
         ·
          intro vf pf hR
          refine Or.inl ⟨rfl, ?_⟩
          refine rq_less (sx 10 rfl (sub_nil _)) (List.sublist_append_right _ _) ?_
          exact rq_v (rv_ev rfl)
         ·
          intro vf pf hR
          refine Or.inl ⟨rfl, ?_⟩
          refine rq_less (sx 2 rfl (sub_nil _)) (List.sublist_append_right _ _) ?_
          exact rq_v (rv_field (k0 := 4) rfl (by kernel_rfl) rfl)
         ·
          intro vf pf hR
          have e10 : (vf 10) = .pointer (some ⟨b1, 0 + 4, none⟩) ∧ (pf 10) = [] := hR 10 (by decide)
          refine Or.inl ⟨rfl, ?_⟩
          refine rq_less (sx 112 (congrArg some e10.1) (sub_nil _)) (List.sublist_append_right _ _) ?_
          exact rq_v (rv_field (k0 := 0) rfl (by kernel_rfl) rfl)
         ·
          intro vf pf hR
          have e11 : (vf 11) = .pointer (some ⟨b1, 0 + 4 + 0, none⟩) ∧ (pf 11) = [] := hR 11 (by decide)
          refine Or.inl ⟨rfl, ?_⟩
          refine rq_less (sx 113 (congrArg some e11.1) (sub_nil _)) (List.sublist_append_right _ _) ?_
          exact rq_v (rv_load rfl (by kernel_rfl) rfl (box_cell 5 rfl rfl))
         ·
          intro vf pf hR
          refine Or.inl ⟨rfl, ?_⟩
          refine rq_less (sx 13 rfl (sub_nil _)) (List.sublist_append_right _ _) ?_
          exact rq_v (rv_ev rfl)
         ·
          intro vf pf hR
          have e12 : (vf 12) = x.pv ∧ (pf 12) = [] := hR 12 (by decide)
          have e13 : (vf 13) = .int .i64 (i : Int) ∧ (pf 13) = [] := hR 13 (by decide)
          refine Or.inl ⟨rfl, ?_⟩
          refine rq_less (sx 114 (congrArg some e12.1) (sx 115 (congrArg some e13.1) (sub_nil _))) (List.sublist_append_right _ _) ?_
          exact rq_v (rv_index (s := 1) rfl Try.underlying27 (by kernel_rfl) rfl rfl (rd_old ((hr).dl.row)) (by omega) (by first | omega | (simp only [List.length_set]; omega)))
         ·
          intro vf pf hR
          have e14 : (vf 14) = elP x.pv (((i : Int)).toNat * 1) ∧ (pf 14) = [] := hR 14 (by decide)
          refine Or.inl ⟨rfl, ?_⟩
          refine rq_less (sx 116 (congrArg some e14.1) (sub_nil _)) (List.sublist_append_right _ _) ?_
          exact rq_v (rv_loadEl (u := (x.dl.getD i ir0).v) rfl (by kernel_rfl) rfl (rd_old ((hr).dl.row)) (flat_one irC (fun r => r.v) (fun _ => rfl) x.dl ir0 (show i < _ by first | omega | (simp only [List.length_set]; omega))))
         ·
          intro vf pf hR
          refine Or.inl ⟨rfl, ?_⟩
          refine rq_less (sx 15 rfl (sub_nil _)) (List.sublist_append_right _ _) ?_
          exact rq_v (rv_ev rfl)
         ·
          intro vf pf hR
          have e15 : (vf 15) = (x.dl.getD i ir0).v ∧ (pf 15) = [] := hR 15 (by decide)
          have e16 : (vf 16) = .int .i64 (j : Int) ∧ (pf 16) = [] := hR 16 (by decide)
          refine Or.inl ⟨rfl, ?_⟩
          refine rq_less (sx 117 (congrArg some e15.1) (sx 118 (congrArg some e16.1) (sub_nil _))) (List.sublist_append_right _ _) ?_
          exact rq_v (rv_index (s := 1) rfl Try.underlying24 (by kernel_rfl) rfl rfl (rd_old ((hr).dl.at (d := ir0) (k := i) (by omega))) (by omega) (by first | omega | (simp only [List.length_set]; omega)))
         ·
          intro vf pf hR
          have e17 : (vf 17) = elP ((x.dl.getD i ir0).v) (((j : Int)).toNat * 1) ∧ (pf 17) = [] := hR 17 (by decide)
          refine Or.inl ⟨rfl, ?_⟩
          refine rq_less (sx 119 (congrArg some e17.1) (sub_nil _)) (List.sublist_append_right _ _) ?_
          exact rq_v (rv_loadEl (u := .int .i64 (((x.dl.getD i ir0).xs).getD j 0)) rfl (by kernel_rfl) rfl (rd_old ((hr).dl.at (d := ir0) (k := i) (by omega))) (ints_at1 (show _ < ((x.dl.getD i ir0).xs).length by first | omega | (simp only [List.length_set]; omega))))
         ·
          intro vf pf hR
          have e9 : (vf 9) = .int .i64 (t : Int) ∧ (pf 9) = [] := hR 9 (by decide)
          have e18 : (vf 18) = .int .i64 (((x.dl.getD i ir0).xs).getD j 0) ∧ (pf 18) = [] := hR 18 (by decide)
          refine Or.inl ⟨rfl, ?_⟩
          refine rq_less (sx 111 (congrArg some e9.1) (sx 120 (congrArg some e18.1) (sub_nil _))) (List.sublist_append_right _ _) ?_
          exact rq_v (rv_sub rfl rfl rfl (by constructor <;> omega))
         ·
          intro vf pf hR
          have e4 : (vf 4) = (es.getD ((((x.n.ls.getD i lt0).xs).getD j 0).toNat) ir0).v ∧ (pf 4) = [] := hR 4 (by decide)
          have e8 : (vf 8) = .int .i64 ((valT x.n x.ao x.oi).getD ((((x.n.ls.getD i lt0).xs).getD j 0).toNat) 0) ∧ (pf 8) = [] := hR 8 (by decide)
          have e19 : (vf 19) = .int .i64 ((t : Int) - (((x.dl.getD i ir0).xs).getD j 0)) ∧ (pf 19) = [] := hR 19 (by decide)
          refine Or.inl ⟨rfl, ?_⟩
          refine rq_less (sx 106 (congrArg some e4.1) (sx 110 (congrArg some e8.1) (sx 121 (congrArg some e19.1) (sub_nil _)))) (List.sublist_append_right _ _) ?_
          exact (rq_call (by kernel_rfl) rfl (fun w hm => ret_ans (l37At_lin w (rdsIr_sep hm 1 2 rfl rfl) hw rfl rfl rfl (by omega) (by omega))))
         ·
          intro vf pf hR
          refine Or.inl ⟨rfl, ?_⟩
          refine rq_less (sx 15 rfl (sub_nil _)) (List.sublist_append_right _ _) ?_
          exact rq_v (rv_ev rfl)
         ·
          intro vf pf hR
          have e20 : (vf 20) = .int .i64 ((lin x (wvsL x a.toNat m) i (t : Int)) j) ∧ (pf 20) = [] := hR 20 (by decide)
          have e21 : (vf 21) = .int .i64 (j : Int) ∧ (pf 21) = [] := hR 21 (by decide)
          refine Or.inl ⟨rfl, ?_⟩
          refine rq_less (sx 122 (congrArg some e20.1) (sx 123 (congrArg some e21.1) (sub_nil _))) (List.sublist_append_right _ _) ?_
          exact rq_v (rv_shlG (k := .i64) (kk := .i64) (r := (lin x (wvsL x a.toNat m) i (t : Int)) j * 2 ^ j) rfl rfl rfl rfl (by omega) (shl_pk hbk (by omega)))
         ·
          intro vf pf hR
          have e0 : (vf 0) = .int .i64 q ∧ (pf 0) = [] := hR 0 (by decide)
          have e22 : (vf 22) = .int .i64 ((lin x (wvsL x a.toNat m) i (t : Int)) j * 2 ^ j) ∧ (pf 22) = [] := hR 22 (by decide)
          refine Or.inl ⟨rfl, ?_⟩
          refine rq_less (sx 102 (congrArg some e0.1) (sx 124 (congrArg some e22.1) (sub_nil _))) (List.sublist_append_right _ _) ?_
          exact rq_v (rv_add rfl rfl rfl (by rw [hq]; constructor <;> (rcases hbk with e | e <;> rw [e] <;> omega)))
        ·
         intro vf pf hR
         have e23 : (vf 23) = .int .i64 (q + ((lin x (wvsL x a.toNat m) i (t : Int)) j * 2 ^ j)) ∧ (pf 23) = [] := hR 23 (by decide)
         refine hl_less (l' := [rowE 3 1 u2 zs.length (zs.map (Value.int .i64)), bigE (es.map irPart), rowE 24 1 u es.length (es.flatMap irC), rowE 3 1 v5 ((valT x.n x.bs x.ni).length) ((valT x.n x.bs x.ni).map (Value.int .i64)), rowE 3 1 v2 ((valT x.n x.ao x.oi).length) ((valT x.n x.ao x.oi).map (Value.int .i64)), boxE b1 #[.int .i64 x.n.ins, x.n.sv, x.n.lv, x.n.ov, x.pv, x.qv, x.kv, x.av, x.bv, .int .i64 x.oi, .int .i64 x.ni] 40]) (sx 0 rfl (sx 1 rfl (sx 2 rfl (sx 4 rfl (sx 5 rfl (sx 6 rfl (sx 7 rfl (sx 8 rfl (sx 9 rfl (sx 10 rfl (sx 11 rfl (sx 12 rfl (sx 13 rfl (sx 14 rfl (sx 15 rfl (sx 16 rfl (sx 35 rfl (sx 41 rfl (sx 73 rfl (sx 79 rfl (sx 89 rfl (sx 125 (congrArg some e23.1) (sub_nil _))))))))))))))))))))))) (List.sublist_append_right _ _) ?_
         simp only [List.drop_succ_cons, List.drop_zero]
         refine hl_v rfl rfl rfl (rv_ev rfl) ?_
         refine hl_less (sx 0 rfl (sx 1 rfl (sx 2 rfl (sx 4 rfl (sx 5 rfl (sx 6 rfl (sx 7 rfl (sx 8 rfl (sx 9 rfl (sx 10 rfl (sx 11 rfl (sx 12 rfl (sx 13 rfl (sx 14 rfl (sx 15 rfl (sx 16 rfl (sx 35 rfl (sx 41 rfl (sx 73 rfl (sx 79 rfl (sx 89 rfl (sub_nil _)))))))))))))))))))))) (.refl _) ?_
         refine hl_nil ?_
         refine hq_block_normal ?_
         refine hq_then ?_
         refine hc_region ?_
         refine hl_v rfl rfl rfl (rv_ev rfl) ?_
         refine hl_v rfl rfl rfl (rv_add rfl rfl rfl (by constructor <;> omega)) ?_
         refine hl_v rfl rfl rfl (rv_ev rfl) ?_
         refine hl_less (sx 0 rfl (sx 1 rfl (sx 2 rfl (sx 4 rfl (sx 5 rfl (sx 6 rfl (sx 7 rfl (sx 8 rfl (sx 9 rfl (sx 10 rfl (sx 11 rfl (sx 12 rfl (sx 13 rfl (sx 14 rfl (sx 15 rfl (sx 16 rfl (sx 35 rfl (sx 41 rfl (sx 73 rfl (sx 79 rfl (sx 89 rfl (sub_nil _)))))))))))))))))))))) (.refl _) ?_
         refine hl_nil ?_
         exact hq_round2 (j + 1) _ ⟨by omega, by first | rfl | (rw [hq]; rfl)⟩ (by omega) (sx 0 rfl (sx 1 rfl (sx 2 rfl (sx 4 rfl (sx 5 rfl (sx 6 rfl (sx 7 rfl (sx 8 rfl (sx 9 rfl (sx 10 rfl (sx 11 rfl (sx 12 rfl (sx 13 rfl (sx 14 rfl (sx 15 rfl (sx 35 rfl (sx 41 rfl (sx 73 rfl (sx 79 rfl (sub_nil _)))))))))))))))))))) ((.cons_cons _ (.cons_cons _ (.cons_cons _ (.cons_cons _ (.cons_cons _ (.cons_cons _ .slnil)))))))
       ·
        refine hl_less (sx 0 rfl (sx 1 rfl (sx 2 rfl (sx 4 rfl (sx 5 rfl (sx 6 rfl (sx 7 rfl (sx 8 rfl (sx 9 rfl (sx 10 rfl (sx 11 rfl (sx 12 rfl (sx 13 rfl (sx 14 rfl (sx 15 rfl (sx 35 rfl (sx 41 rfl (sx 73 rfl (sx 79 rfl (sx 89 rfl (sub_nil _))))))))))))))))))))) (.refl _) ?_
        refine hl_nil ?_
        refine hq_then ?_
        refine hc_false rfl ?_
        refine hc_exit ?_
        refine hq_then_exit ?_
        refine hq_then_exit ?_
        refine hq_block_exit ?_
        refine hq_then ?_
        refine hc_region ?_
        have hal : ∀ z, z < j → (lin x (wvsL x a.toNat m) i (t : Int)) z = 0 ∨ (lin x (wvsL x a.toNat m) i (t : Int)) z = 1 := fun z hz => lin01 hok (by omega) hmi (by omega) z (by omega)
        have hpr := pk16 (b := (lin x (wvsL x a.toNat m) i (t : Int))) (k := j) hal (by omega)
        refine hl_v rfl rfl rfl (rv_field (k0 := 0) rfl (by kernel_rfl) rfl) ?_
        refine hl_v rfl rfl rfl (rv_field (k0 := 2) rfl (by kernel_rfl) rfl) ?_
        refine hl_v rfl rfl rfl (rv_load rfl (by kernel_rfl) rfl (box_cell 5 rfl rfl)) ?_
        refine hl_v rfl rfl rfl (rv_ev rfl) ?_
        refine hl_v rfl rfl rfl (rv_index (s := 2) rfl Try.underlying35 (by kernel_rfl) rfl rfl (rd_old ((hr).n.lt.row)) (by omega) (by first | omega | (simp only [List.length_set]; omega))) ?_
        refine hl_v rfl rfl rfl (rv_fieldEl (k0 := 1) rfl (by kernel_rfl) rfl (rd_old ((hr).n.lt.row)) (by first | omega | (simp only [List.length_set]; omega))) ?_
        refine hl_v rfl rfl rfl (rv_loadEl (u := .int .i64 ((x.n.ls.getD i lt0).ma)) rfl (by kernel_rfl) rfl (rd_old ((hr).n.lt.row)) ((flat_at ltC 2 (fun _ => rfl) x.n.ls lt0 (show i < _ by first | omega | (simp only [List.length_set]; omega)) (by decide)).trans rfl)) ?_
        refine hl_v rfl rfl rfl (rv_ev rfl) ?_
        refine hl_v rfl rfl rfl (rv_shr rfl rfl rfl (by omega)) ?_
        refine hl_v rfl rfl rfl (rv_bits rfl (by decide) rfl rfl (r := (((x.n.ls.getD i lt0).ma) / 2 ^ (q : Int).toNat) % 2) (andOne _)) ?_
        refine hl_v rfl rfl rfl (rv_ev rfl) ?_
        refine hl_less (sx 0 rfl (sx 1 rfl (sx 2 rfl (sx 4 rfl (sx 5 rfl (sx 6 rfl (sx 7 rfl (sx 8 rfl (sx 9 rfl (sx 10 rfl (sx 11 rfl (sx 12 rfl (sx 13 rfl (sx 14 rfl (sx 15 rfl (sx 35 rfl (sx 41 rfl (sx 73 rfl (sx 79 rfl (sx 89 rfl (sub_nil _))))))))))))))))))))) (.refl _) ?_
        refine hl_nil ?_
        refine hq_then ?_
        refine hc_region ?_
        refine hl_v rfl rfl rfl (rv_ev rfl) ?_
        refine hl_v rfl rfl rfl (rv_ev rfl) ?_
        refine hl_row rfl rfl rfl (rq_buildSlice (z := .int .i64 0) (s := 1) (cs := ([(((x.n.ls.getD i lt0).ma) / 2 ^ (q : Int).toNat) % 2].map (Value.int .i64))) rfl Try.underlying24 (by kernel_rfl) (by decide) rfl (by kernel_rfl) rfl) ?_
        intro g20
        refine hl_append (i := 1) (z := .int .i64 0) (bytes := 8) (n' := (zs ++ ([(((x.n.ls.getD i lt0).ma) / 2 ^ (q : Int).toNat) % 2])).length) (xs' := ((zs ++ ([(((x.n.ls.getD i lt0).ma) / 2 ^ (q : Int).toNat) % 2])).map (Value.int .i64))) (L := fun v21 => [rowE 3 1 (.slice (some ⟨g20, 0, none⟩) 1 1) 1 ([(((x.n.ls.getD i lt0).ma) / 2 ^ (q : Int).toNat) % 2].map (Value.int .i64)), rowE 3 1 v21 ((zs ++ ([(((x.n.ls.getD i lt0).ma) / 2 ^ (q : Int).toNat) % 2])).length) ((zs ++ ([(((x.n.ls.getD i lt0).ma) / 2 ^ (q : Int).toNat) % 2])).map (Value.int .i64)), bigE (es.map irPart), rowE 24 1 u es.length (es.flatMap irC), rowE 3 1 v5 ((valT x.n x.bs x.ni).length) ((valT x.n x.bs x.ni).map (Value.int .i64)), rowE 3 1 v2 ((valT x.n x.ao x.oi).length) ((valT x.n x.ao x.oi).map (Value.int .i64)), boxE b1 #[.int .i64 x.n.ins, x.n.sv, x.n.lv, x.n.ov, x.pv, x.qv, x.kv, x.av, x.bv, .int .i64 x.oi, .int .i64 x.ni] 40]) rfl rfl rfl rfl Try.underlying24 (by kernel_rfl) (by kernel_rfl) rfl rfl rfl (rd_row 0 rfl) (ints_one _) (by first | omega | (simp; omega)) (len_app zs ([(((x.n.ls.getD i lt0).ma) / 2 ^ (q : Int).toNat) % 2])) (ints_app zs ([(((x.n.ls.getD i lt0).ma) / 2 ^ (q : Int).toNat) % 2])) (fun _ => rfl) ?_
        intro v21
        refine hl_v rfl rfl rfl (rv_ev rfl) ?_
        refine hl_less (sx 0 rfl (sx 1 rfl (sx 2 rfl (sx 4 rfl (sx 5 rfl (sx 6 rfl (sx 7 rfl (sx 8 rfl (sx 9 rfl (sx 10 rfl (sx 11 rfl (sx 12 rfl (sx 13 rfl (sx 14 rfl (sx 15 rfl (sx 35 rfl (sx 41 rfl (sx 73 rfl (sx 79 rfl (sx 89 rfl (sub_nil _))))))))))))))))))))) (.refl _) ?_
        refine hl_nil ?_
        refine hq_block_normal ?_
        refine hq_then ?_
        refine hc_region ?_
        refine hl_v rfl rfl rfl (rv_ev rfl) ?_
        refine hl_v rfl rfl rfl (rv_add rfl rfl rfl (by constructor <;> omega)) ?_
        refine hl_v rfl rfl rfl (rv_ev rfl) ?_
        refine hl_less (sx 0 rfl (sx 1 rfl (sx 2 rfl (sx 4 rfl (sx 5 rfl (sx 6 rfl (sx 7 rfl (sx 8 rfl (sx 9 rfl (sx 10 rfl (sx 11 rfl (sx 12 rfl (sx 13 rfl (sx 14 rfl (sx 15 rfl (sx 35 rfl (sx 41 rfl (sx 73 rfl (sx 79 rfl (sx 89 rfl (sub_nil _))))))))))))))))))))) (.refl _) ?_
        refine hl_nil ?_
        have hv9 : (((x.n.ls.getD i lt0).ma) / 2 ^ (q : Int).toNat) % 2 = wvV x (wvsL x a.toNat m) m (t : Int) := by rw [wv_lut x _ _ hmi]; unfold lutV; rw [hq, show j = (x.n.ls.getD i lt0).xs.length by omega]
        exact hq_round3 (t + 1) v21 (zs ++ ([(((x.n.ls.getD i lt0).ma) / 2 ^ (q : Int).toNat) % 2])) ⟨by omega, by rw [hv9, hz]; exact rowW_succ _ _ _ _⟩ (by omega) (sx 0 rfl (sx 1 rfl (sx 2 rfl (sx 4 rfl (sx 5 rfl (sx 6 rfl (sx 7 rfl (sx 8 rfl (sx 9 rfl (sx 10 rfl (sx 35 rfl (sub_nil _)))))))))))) ((.cons _ (.cons_cons _ (.cons_cons _ (.cons_cons _ (.cons_cons _ (.cons_cons _ (.cons_cons _ .slnil))))))))
      ·
       refine hl_less (sx 0 rfl (sx 1 rfl (sx 2 rfl (sx 4 rfl (sx 5 rfl (sx 6 rfl (sx 7 rfl (sx 8 rfl (sx 9 rfl (sx 10 rfl (sx 11 rfl (sx 12 rfl (sx 13 rfl (sx 35 rfl (sx 41 rfl (sx 73 rfl (sx 79 rfl (sub_nil _)))))))))))))))))) (.refl _) ?_
       refine hl_nil ?_
       refine hq_then ?_
       refine hc_false rfl ?_
       refine hc_skip ?_
       refine hq_then ?_
       refine hc_region ?_
       refine hl_v rfl rfl rfl (rv_ev rfl) ?_
       refine hl_v rfl rfl rfl (rv_ev rfl) ?_
       refine hl_row rfl rfl rfl (rq_buildSlice (z := .int .i64 0) (s := 1) (cs := ([(valT x.n x.ao x.oi).getD m 0].map (Value.int .i64))) rfl Try.underlying24 (by kernel_rfl) (by decide) rfl (by kernel_rfl) rfl) ?_
       intro g22
       refine hl_append (i := 1) (z := .int .i64 0) (bytes := 8) (n' := (zs ++ ([(valT x.n x.ao x.oi).getD m 0])).length) (xs' := ((zs ++ ([(valT x.n x.ao x.oi).getD m 0])).map (Value.int .i64))) (L := fun v23 => [rowE 3 1 (.slice (some ⟨g22, 0, none⟩) 1 1) 1 ([(valT x.n x.ao x.oi).getD m 0].map (Value.int .i64)), rowE 3 1 v23 ((zs ++ ([(valT x.n x.ao x.oi).getD m 0])).length) ((zs ++ ([(valT x.n x.ao x.oi).getD m 0])).map (Value.int .i64)), bigE (es.map irPart), rowE 24 1 u es.length (es.flatMap irC), rowE 3 1 v5 ((valT x.n x.bs x.ni).length) ((valT x.n x.bs x.ni).map (Value.int .i64)), rowE 3 1 v2 ((valT x.n x.ao x.oi).length) ((valT x.n x.ao x.oi).map (Value.int .i64)), boxE b1 #[.int .i64 x.n.ins, x.n.sv, x.n.lv, x.n.ov, x.pv, x.qv, x.kv, x.av, x.bv, .int .i64 x.oi, .int .i64 x.ni] 40]) rfl rfl rfl rfl Try.underlying24 (by kernel_rfl) (by kernel_rfl) rfl rfl rfl (rd_row 0 rfl) (ints_one _) (by first | omega | (simp; omega)) (len_app zs ([(valT x.n x.ao x.oi).getD m 0])) (ints_app zs ([(valT x.n x.ao x.oi).getD m 0])) (fun _ => rfl) ?_
       intro v23
       refine hl_v rfl rfl rfl (rv_ev rfl) ?_
       refine hl_less (sx 0 rfl (sx 1 rfl (sx 2 rfl (sx 4 rfl (sx 5 rfl (sx 6 rfl (sx 7 rfl (sx 8 rfl (sx 9 rfl (sx 10 rfl (sx 11 rfl (sx 12 rfl (sx 13 rfl (sx 35 rfl (sx 41 rfl (sx 73 rfl (sx 79 rfl (sub_nil _)))))))))))))))))) (.refl _) ?_
       refine hl_nil ?_
       refine hq_block_normal ?_
       refine hq_then ?_
       refine hc_region ?_
       refine hl_v rfl rfl rfl (rv_ev rfl) ?_
       refine hl_v rfl rfl rfl (rv_add rfl rfl rfl (by constructor <;> omega)) ?_
       refine hl_v rfl rfl rfl (rv_ev rfl) ?_
       refine hl_less (sx 0 rfl (sx 1 rfl (sx 2 rfl (sx 4 rfl (sx 5 rfl (sx 6 rfl (sx 7 rfl (sx 8 rfl (sx 9 rfl (sx 10 rfl (sx 11 rfl (sx 12 rfl (sx 13 rfl (sx 35 rfl (sx 41 rfl (sx 73 rfl (sx 79 rfl (sub_nil _)))))))))))))))))) (.refl _) ?_
       refine hl_nil ?_
       have hv9 : (valT x.n x.ao x.oi).getD m 0 = wvV x (wvsL x a.toNat m) m (t : Int) := by unfold wvV; rw [if_pos (by omega), if_pos ⟨by omega, by omega⟩]
       exact hq_round3 (t + 1) v23 (zs ++ ([(valT x.n x.ao x.oi).getD m 0])) ⟨by omega, by rw [hv9, hz]; exact rowW_succ _ _ _ _⟩ (by omega) (sx 0 rfl (sx 1 rfl (sx 2 rfl (sx 4 rfl (sx 5 rfl (sx 6 rfl (sx 7 rfl (sx 8 rfl (sx 9 rfl (sx 10 rfl (sx 35 rfl (sub_nil _)))))))))))) ((.cons _ (.cons_cons _ (.cons_cons _ (.cons_cons _ (.cons_cons _ (.cons_cons _ (.cons_cons _ .slnil))))))))
     ·
      refine hl_v rfl rfl rfl (rv_ev rfl) ?_
      refine hl_less (sx 0 rfl (sx 1 rfl (sx 2 rfl (sx 4 rfl (sx 5 rfl (sx 6 rfl (sx 7 rfl (sx 8 rfl (sx 9 rfl (sx 10 rfl (sx 11 rfl (sx 12 rfl (sx 13 rfl (sx 35 rfl (sx 41 rfl (sx 73 rfl (sub_nil _))))))))))))))))) (.refl _) ?_
      refine hl_nil ?_
      refine hq_then ?_
      refine hc_false rfl ?_
      refine hc_skip ?_
      refine hq_then ?_
      refine hc_seq ?_
      refine hc_seq ?_
      refine hc_region ?_
      refine hl_v rfl rfl rfl (rv_ev rfl) ?_
      refine hl_geq rfl rfl rfl rfl rfl rfl (fun h24 => ?_) (fun h24 => ?_)
      ·
       refine hl_less (sx 0 rfl (sx 1 rfl (sx 2 rfl (sx 4 rfl (sx 5 rfl (sx 6 rfl (sx 7 rfl (sx 8 rfl (sx 9 rfl (sx 10 rfl (sx 11 rfl (sx 12 rfl (sx 13 rfl (sx 35 rfl (sx 41 rfl (sx 73 rfl (sx 79 rfl (sub_nil _)))))))))))))))))) (.refl _) ?_
       refine hl_nil ?_
       refine hq_then ?_
       refine hc_true rfl ?_
       refine hc_seq ?_
       refine hc_region ?_
       obtain ⟨i, hmi⟩ : ∃ i : Nat, (m : Int) - x.n.fst = (i : Int) := ⟨((m : Int) - x.n.fst).toNat, by omega⟩
       rw [hmi]
       have hil : i < x.n.ls.length := by omega
       have hlt9 := hok.n.lt i hil
       have hx4 := hlt9.1.1
       have hdi : (x.dl.getD i ir0).xs.length = (x.n.ls.getD i lt0).xs.length := by have := (hok.dl i hil).1; omega
       refine hl_v rfl rfl rfl (rv_ev rfl) ?_
       refine hl_less (sx 0 rfl (sx 1 rfl (sx 2 rfl (sx 4 rfl (sx 5 rfl (sx 6 rfl (sx 7 rfl (sx 8 rfl (sx 9 rfl (sx 10 rfl (sx 11 rfl (sx 12 rfl (sx 13 rfl (sx 14 rfl (sx 35 rfl (sx 41 rfl (sx 73 rfl (sx 79 rfl (sub_nil _))))))))))))))))))) (.refl _) ?_
       refine hl_nil ?_
       refine hq_then ?_
       refine hc_seq ?_
       refine hc_seq ?_
       refine hc_region ?_
       refine hl_v rfl rfl rfl (rv_ev rfl) ?_
       refine hl_less (sx 0 rfl (sx 1 rfl (sx 2 rfl (sx 4 rfl (sx 5 rfl (sx 6 rfl (sx 7 rfl (sx 8 rfl (sx 9 rfl (sx 10 rfl (sx 11 rfl (sx 12 rfl (sx 13 rfl (sx 14 rfl (sx 15 rfl (sx 35 rfl (sx 41 rfl (sx 73 rfl (sx 79 rfl (sub_nil _)))))))))))))))))))) (.refl _) ?_
       refine hl_nil ?_
       refine hq_then ?_
       refine hc_block ?_
       refine hc_loop2 (α := Nat) (β := Int) (fun j q => [rowE 3 1 u2 zs.length (zs.map (Value.int .i64)), bigE (es.map irPart), rowE 24 1 u es.length (es.flatMap irC), rowE 3 1 v5 ((valT x.n x.bs x.ni).length) ((valT x.n x.bs x.ni).map (Value.int .i64)), rowE 3 1 v2 ((valT x.n x.ao x.oi).length) ((valT x.n x.ao x.oi).map (Value.int .i64)), boxE b1 #[.int .i64 x.n.ins, x.n.sv, x.n.lv, x.n.ov, x.pv, x.qv, x.kv, x.av, x.bv, .int .i64 x.oi, .int .i64 x.ni] 40]) (fun j q => [(0, .agg #[.int .i64 x.n.ins, x.n.sv, x.n.lv, x.n.ov, x.pv, x.qv, x.kv, x.av, x.bv, .int .i64 x.oi, .int .i64 x.ni]), (1, .int .i64 a), (2, .pointer (some ⟨b1, 0, none⟩)), (4, .slice none 0 0), (5, v2), (6, v5), (7, u), (8, .int .i64 (m : Int)), (9, u2), (10, .int .i64 (t : Int)), (11, .int .i64 ((valT x.n x.bs x.ni).getD m 0)), (12, .int .i64 (((m : Int) - 1) - x.n.ins)), (13, .int .i64 (i : Int)), (14, .int .i64 q), (15, .int .i64 (j : Int)), (35, .bool true), (41, .bool true), (73, .bool false), (79, .bool true)]) (fun j q => j ≤ (x.n.ls.getD i lt0).xs.length ∧ q = pk (lin x (wvsL x a.toNat m) i (t : Int)) j) (fun j q => (x.n.ls.getD i lt0).xs.length - j) 0 0 ⟨Nat.zero_le _, rfl⟩ (sx 0 rfl (sx 1 rfl (sx 2 rfl (sx 4 rfl (sx 5 rfl (sx 6 rfl (sx 7 rfl (sx 8 rfl (sx 9 rfl (sx 10 rfl (sx 11 rfl (sx 12 rfl (sx 13 rfl (sx 14 rfl (sx 15 rfl (sx 35 rfl (sx 41 rfl (sx 73 rfl (sx 79 rfl (sub_nil _)))))))))))))))))))) ((.cons_cons _ (.cons_cons _ (.cons_cons _ (.cons_cons _ (.cons_cons _ (.cons_cons _ .slnil))))))) ?_
       intro j q hi25
       obtain ⟨hj, hq⟩ := hi25
       refine hc_seq ?_
       refine hc_seq ?_
       refine hc_region ?_
       refine hl_v rfl rfl rfl (rv_ev rfl) ?_
       refine hl_v rfl rfl rfl (rv_field (k0 := 0) rfl (by kernel_rfl) rfl) ?_
       refine hl_v rfl rfl rfl (rv_field (k0 := 2) rfl (by kernel_rfl) rfl) ?_
       refine hl_v rfl rfl rfl (rv_load rfl (by kernel_rfl) rfl (box_cell 5 rfl rfl)) ?_
       refine hl_v rfl rfl rfl (rv_ev rfl) ?_
       refine hl_v rfl rfl rfl (rv_index (s := 2) rfl Try.underlying35 (by kernel_rfl) rfl rfl (rd_old ((hr).n.lt.row)) (by omega) (by first | omega | (simp only [List.length_set]; omega))) ?_
       refine hl_v rfl rfl rfl (rv_fieldEl (k0 := 0) rfl (by kernel_rfl) rfl (rd_old ((hr).n.lt.row)) (by first | omega | (simp only [List.length_set]; omega))) ?_
       refine hl_v rfl rfl rfl (rv_loadEl (u := (x.n.ls.getD i lt0).iv) rfl (by kernel_rfl) rfl (rd_old ((hr).n.lt.row)) ((flat_at ltC 2 (fun _ => rfl) x.n.ls lt0 (show i < _ by first | omega | (simp only [List.length_set]; omega)) (by decide)).trans rfl)) ?_
       refine hl_v rfl rfl rfl (rv_len rfl Try.underlying24 rfl (rd_old ((hr).n.lt.at (d := lt0) (k := i) (by omega)))) ?_
       refine hl_lss rfl rfl rfl rfl rfl rfl (fun h26 => ?_) (fun h26 => ?_)
       ·
        refine hl_less (sx 0 rfl (sx 1 rfl (sx 2 rfl (sx 4 rfl (sx 5 rfl (sx 6 rfl (sx 7 rfl (sx 8 rfl (sx 9 rfl (sx 10 rfl (sx 11 rfl (sx 12 rfl (sx 13 rfl (sx 14 rfl (sx 15 rfl (sx 35 rfl (sx 41 rfl (sx 73 rfl (sx 79 rfl (sx 89 rfl (sub_nil _))))))))))))))))))))) (.refl _) ?_
        refine hl_nil ?_
        refine hq_then ?_
        refine hc_true rfl ?_
        refine hc_skip ?_
        refine hq_then ?_
        refine hc_seq ?_
        refine hc_block ?_
        refine hc_seq ?_
        refine hc_region ?_
        refine hl_v rfl rfl rfl (rv_field (k0 := 0) rfl (by kernel_rfl) rfl) ?_
        refine hl_v rfl rfl rfl (rv_field (k0 := 2) rfl (by kernel_rfl) rfl) ?_
        refine hl_v rfl rfl rfl (rv_load rfl (by kernel_rfl) rfl (box_cell 5 rfl rfl)) ?_
        refine hl_v rfl rfl rfl (rv_ev rfl) ?_
        refine hl_v rfl rfl rfl (rv_index (s := 2) rfl Try.underlying35 (by kernel_rfl) rfl rfl (rd_old ((hr).n.lt.row)) (by omega) (by first | omega | (simp only [List.length_set]; omega))) ?_
        refine hl_v rfl rfl rfl (rv_fieldEl (k0 := 0) rfl (by kernel_rfl) rfl (rd_old ((hr).n.lt.row)) (by first | omega | (simp only [List.length_set]; omega))) ?_
        refine hl_v rfl rfl rfl (rv_loadEl (u := (x.n.ls.getD i lt0).iv) rfl (by kernel_rfl) rfl (rd_old ((hr).n.lt.row)) ((flat_at ltC 2 (fun _ => rfl) x.n.ls lt0 (show i < _ by first | omega | (simp only [List.length_set]; omega)) (by decide)).trans rfl)) ?_
        refine hl_v rfl rfl rfl (rv_ev rfl) ?_
        refine hl_v rfl rfl rfl (rv_index (s := 1) rfl Try.underlying24 (by kernel_rfl) rfl rfl (rd_old ((hr).n.lt.at (d := lt0) (k := i) (by omega))) (by omega) (by first | omega | (simp only [List.length_set]; omega))) ?_
        refine hl_v rfl rfl rfl (rv_loadEl (u := .int .i64 (((x.n.ls.getD i lt0).xs).getD j 0)) rfl (by kernel_rfl) rfl (rd_old ((hr).n.lt.at (d := lt0) (k := i) (by omega))) (ints_at1 (show _ < ((x.n.ls.getD i lt0).xs).length by first | omega | (simp only [List.length_set]; omega)))) ?_
        refine hl_v rfl rfl rfl (rv_ev rfl) ?_
        refine hl_less (sx 0 rfl (sx 1 rfl (sx 2 rfl (sx 4 rfl (sx 5 rfl (sx 6 rfl (sx 7 rfl (sx 8 rfl (sx 9 rfl (sx 10 rfl (sx 11 rfl (sx 12 rfl (sx 13 rfl (sx 14 rfl (sx 15 rfl (sx 16 rfl (sx 35 rfl (sx 41 rfl (sx 73 rfl (sx 79 rfl (sx 89 rfl (sub_nil _)))))))))))))))))))))) (.refl _) ?_
        refine hl_nil ?_
        refine hq_then ?_
        have hns := hlt9.1.2 j (by omega)
        have hdj := (hok.dl i hil).2 j (by omega)
        have hbk : (lin x (wvsL x a.toNat m) i (t : Int)) j = 0 ∨ (lin x (wvsL x a.toNat m) i (t : Int)) j = 1 := lin01 hok (by omega) hmi (by omega) j (by omega)
        have hal : ∀ z, z < j → (lin x (wvsL x a.toNat m) i (t : Int)) z = 0 ∨ (lin x (wvsL x a.toNat m) i (t : Int)) z = 1 := fun z hz => lin01 hok (by omega) hmi (by omega) z (by omega)
        have hpr := pk16 (b := (lin x (wvsL x a.toNat m) i (t : Int))) (k := j) hal (by omega)
        have hpw := pow4 (k := j) (by omega)
        have hpw0 : (0 : Int) < 2 ^ j := Int.pow_pos (by decide)
        refine hc_draw (by kernel_rfl) 24 [0, 1, 2, 3, 4, 5, 6, 7, 8, 9, 10, 11, 12, 13, 14, 15, 16, 17, 18, 19, 20, 21, 22, 23] (List.take 24 _) (List.drop 24 _) [[], [], [], [1, 2], [3], [], [], [5, 6], [7], [], [], [10], [11], [], [12, 13], [14], [], [15, 16], [17], [9, 18], [4, 8, 19], [], [20, 21], [0, 22]] [102, 103, 104, 105, 106, 107, 108, 109, 110, 111, 112, 113, 114, 115, 116, 117, 118, 119, 120, 121, 122, 123, 124, 125] (fun i_ vs_ v_ p_ => match i_ with | 0 => v_ = .int .i64 q ∧ p_ = [] | 1 => v_ = u ∧ p_ = [] | 2 => v_ = .int .i64 (((x.n.ls.getD i lt0).xs).getD j 0) ∧ p_ = [] | 3 => v_ = elP u ((((x.n.ls.getD i lt0).xs).getD j 0).toNat * 1) ∧ p_ = [] | 4 => v_ = (es.getD ((((x.n.ls.getD i lt0).xs).getD j 0).toNat) ir0).v ∧ p_ = [] | 5 => v_ = v2 ∧ p_ = [] | 6 => v_ = .int .i64 (((x.n.ls.getD i lt0).xs).getD j 0) ∧ p_ = [] | 7 => v_ = elP v2 ((((x.n.ls.getD i lt0).xs).getD j 0).toNat * 1) ∧ p_ = [] | 8 => v_ = .int .i64 ((valT x.n x.ao x.oi).getD ((((x.n.ls.getD i lt0).xs).getD j 0).toNat) 0) ∧ p_ = [] | 9 => v_ = .int .i64 (t : Int) ∧ p_ = [] | 10 => v_ = .pointer (some ⟨b1, 0 + 4, none⟩) ∧ p_ = [] | 11 => v_ = .pointer (some ⟨b1, 0 + 4 + 0, none⟩) ∧ p_ = [] | 12 => v_ = x.pv ∧ p_ = [] | 13 => v_ = .int .i64 (i : Int) ∧ p_ = [] | 14 => v_ = elP x.pv (((i : Int)).toNat * 1) ∧ p_ = [] | 15 => v_ = (x.dl.getD i ir0).v ∧ p_ = [] | 16 => v_ = .int .i64 (j : Int) ∧ p_ = [] | 17 => v_ = elP ((x.dl.getD i ir0).v) (((j : Int)).toNat * 1) ∧ p_ = [] | 18 => v_ = .int .i64 (((x.dl.getD i ir0).xs).getD j 0) ∧ p_ = [] | 19 => v_ = .int .i64 ((t : Int) - (((x.dl.getD i ir0).xs).getD j 0)) ∧ p_ = [] | 20 => v_ = .int .i64 ((lin x (wvsL x a.toNat m) i (t : Int)) j) ∧ p_ = [] | 21 => v_ = .int .i64 (j : Int) ∧ p_ = [] | 22 => v_ = .int .i64 ((lin x (wvsL x a.toNat m) i (t : Int)) j * 2 ^ j) ∧ p_ = [] | 23 => v_ = .int .i64 (q + ((lin x (wvsL x a.toNat m) i (t : Int)) j * 2 ^ j)) ∧ p_ = [] | _ => True) (List.take_append_drop 24 _).symm (by kernel_rfl) (by kernel_rfl) rfl rfl ?_ ?_
        ·
         refine ⟨?_, ?_, ?_, ?_, ?_, ?_, ?_, ?_, ?_, ?_, ?_, ?_, ?_, ?_, ?_, ?_, ?_, ?_, ?_, ?_, ?_, ?_, ?_, ?_, trivial⟩
         ·
          intro vf pf hR
          refine Or.inl ⟨rfl, ?_⟩
          refine rq_less (sx 14 rfl (sub_nil _)) (List.sublist_append_right _ _) ?_
          exact rq_v (rv_ev rfl)
         ·
          intro vf pf hR
          refine Or.inl ⟨rfl, ?_⟩
          refine rq_less (sx 7 rfl (sub_nil _)) (List.sublist_append_right _ _) ?_
          exact rq_v (rv_ev rfl)
         ·
          intro vf pf hR
          refine Or.inl ⟨rfl, ?_⟩
          refine rq_less (sx 16 rfl (sub_nil _)) (List.sublist_append_right _ _) ?_
          exact rq_v (rv_ev rfl)
         ·
          intro vf pf hR
          have e1 : (vf 1) = u ∧ (pf 1) = [] := hR 1 (by decide)
          have e2 : (vf 2) = .int .i64 (((x.n.ls.getD i lt0).xs).getD j 0) ∧ (pf 2) = [] := hR 2 (by decide)
          refine Or.inl ⟨rfl, ?_⟩
          refine rq_less (sx 103 (congrArg some e1.1) (sx 104 (congrArg some e2.1) (sub_nil _))) (List.sublist_append_right _ _) ?_
          exact rq_v (rv_index (s := 1) rfl Try.underlying27 (by kernel_rfl) rfl rfl (rd_row 2 rfl) (by omega) (by first | omega | (simp only [List.length_set]; omega)))
         ·
          intro vf pf hR
          have e3 : (vf 3) = elP u ((((x.n.ls.getD i lt0).xs).getD j 0).toNat * 1) ∧ (pf 3) = [] := hR 3 (by decide)
          refine Or.inl ⟨rfl, ?_⟩
          refine rq_less (sx 105 (congrArg some e3.1) (sub_nil _)) (List.sublist_append_right _ _) ?_
          exact rq_v (rv_loadEl (u := (es.getD ((((x.n.ls.getD i lt0).xs).getD j 0).toNat) ir0).v) rfl (by kernel_rfl) rfl (rd_row 2 rfl) (flat_one irC (fun r => r.v) (fun _ => rfl) es ir0 (show (((x.n.ls.getD i lt0).xs).getD j 0).toNat < _ by first | omega | (simp only [List.length_set]; omega))))
         ·
          intro vf pf hR
          refine Or.inl ⟨rfl, ?_⟩
          refine rq_less (sx 5 rfl (sub_nil _)) (List.sublist_append_right _ _) ?_
          exact rq_v (rv_ev rfl)
         ·
          intro vf pf hR
          refine Or.inl ⟨rfl, ?_⟩
          refine rq_less (sx 16 rfl (sub_nil _)) (List.sublist_append_right _ _) ?_
          exact rq_v (rv_ev rfl)
         ·
          intro vf pf hR
          have e5 : (vf 5) = v2 ∧ (pf 5) = [] := hR 5 (by decide)
          have e6 : (vf 6) = .int .i64 (((x.n.ls.getD i lt0).xs).getD j 0) ∧ (pf 6) = [] := hR 6 (by decide)
          refine Or.inl ⟨rfl, ?_⟩
          refine rq_less (sx 107 (congrArg some e5.1) (sx 108 (congrArg some e6.1) (sub_nil _))) (List.sublist_append_right _ _) ?_
          exact rq_v (rv_index (s := 1) rfl Try.underlying24 (by kernel_rfl) rfl rfl (rd_row 4 rfl) (by omega) (by first | omega | (simp only [List.length_set]; omega)))
         ·
          intro vf pf hR
          have e7 : (vf 7) = elP v2 ((((x.n.ls.getD i lt0).xs).getD j 0).toNat * 1) ∧ (pf 7) = [] := hR 7 (by decide)
          refine Or.inl ⟨rfl, ?_⟩
          refine rq_less (sx 109 (congrArg some e7.1) (sub_nil _)) (List.sublist_append_right _ _) ?_
          exact rq_v (rv_loadEl (u := .int .i64 ((valT x.n x.ao x.oi).getD ((((x.n.ls.getD i lt0).xs).getD j 0).toNat) 0)) rfl (by kernel_rfl) rfl (rd_row 4 rfl) (ints_at1 (show _ < (valT x.n x.ao x.oi).length by first | omega | (simp only [List.length_set]; omega))))
         ·
          intro vf pf hR
          refine Or.inl ⟨rfl, ?_⟩
          refine rq_less (sx 10 rfl (sub_nil _)) (List.sublist_append_right _ _) ?_
          exact rq_v (rv_ev rfl)
         ·
          intro vf pf hR
          refine Or.inl ⟨rfl, ?_⟩
          refine rq_less (sx 2 rfl (sub_nil _)) (List.sublist_append_right _ _) ?_
          exact rq_v (rv_field (k0 := 4) rfl (by kernel_rfl) rfl)
         ·
          intro vf pf hR
          have e10 : (vf 10) = .pointer (some ⟨b1, 0 + 4, none⟩) ∧ (pf 10) = [] := hR 10 (by decide)
          refine Or.inl ⟨rfl, ?_⟩
          refine rq_less (sx 112 (congrArg some e10.1) (sub_nil _)) (List.sublist_append_right _ _) ?_
          exact rq_v (rv_field (k0 := 0) rfl (by kernel_rfl) rfl)
         ·
          intro vf pf hR
          have e11 : (vf 11) = .pointer (some ⟨b1, 0 + 4 + 0, none⟩) ∧ (pf 11) = [] := hR 11 (by decide)
          refine Or.inl ⟨rfl, ?_⟩
          refine rq_less (sx 113 (congrArg some e11.1) (sub_nil _)) (List.sublist_append_right _ _) ?_
          exact rq_v (rv_load rfl (by kernel_rfl) rfl (box_cell 5 rfl rfl))
         ·
          intro vf pf hR
          refine Or.inl ⟨rfl, ?_⟩
          refine rq_less (sx 13 rfl (sub_nil _)) (List.sublist_append_right _ _) ?_
          exact rq_v (rv_ev rfl)
         ·
          intro vf pf hR
          have e12 : (vf 12) = x.pv ∧ (pf 12) = [] := hR 12 (by decide)
          have e13 : (vf 13) = .int .i64 (i : Int) ∧ (pf 13) = [] := hR 13 (by decide)
          refine Or.inl ⟨rfl, ?_⟩
          refine rq_less (sx 114 (congrArg some e12.1) (sx 115 (congrArg some e13.1) (sub_nil _))) (List.sublist_append_right _ _) ?_
          exact rq_v (rv_index (s := 1) rfl Try.underlying27 (by kernel_rfl) rfl rfl (rd_old ((hr).dl.row)) (by omega) (by first | omega | (simp only [List.length_set]; omega)))
         ·
          intro vf pf hR
          have e14 : (vf 14) = elP x.pv (((i : Int)).toNat * 1) ∧ (pf 14) = [] := hR 14 (by decide)
          refine Or.inl ⟨rfl, ?_⟩
          refine rq_less (sx 116 (congrArg some e14.1) (sub_nil _)) (List.sublist_append_right _ _) ?_
          exact rq_v (rv_loadEl (u := (x.dl.getD i ir0).v) rfl (by kernel_rfl) rfl (rd_old ((hr).dl.row)) (flat_one irC (fun r => r.v) (fun _ => rfl) x.dl ir0 (show i < _ by first | omega | (simp only [List.length_set]; omega))))
         ·
          intro vf pf hR
          refine Or.inl ⟨rfl, ?_⟩
          refine rq_less (sx 15 rfl (sub_nil _)) (List.sublist_append_right _ _) ?_
          exact rq_v (rv_ev rfl)
         ·
          intro vf pf hR
          have e15 : (vf 15) = (x.dl.getD i ir0).v ∧ (pf 15) = [] := hR 15 (by decide)
          have e16 : (vf 16) = .int .i64 (j : Int) ∧ (pf 16) = [] := hR 16 (by decide)
          refine Or.inl ⟨rfl, ?_⟩
          refine rq_less (sx 117 (congrArg some e15.1) (sx 118 (congrArg some e16.1) (sub_nil _))) (List.sublist_append_right _ _) ?_
          exact rq_v (rv_index (s := 1) rfl Try.underlying24 (by kernel_rfl) rfl rfl (rd_old ((hr).dl.at (d := ir0) (k := i) (by omega))) (by omega) (by first | omega | (simp only [List.length_set]; omega)))
         ·
          intro vf pf hR
          have e17 : (vf 17) = elP ((x.dl.getD i ir0).v) (((j : Int)).toNat * 1) ∧ (pf 17) = [] := hR 17 (by decide)
          refine Or.inl ⟨rfl, ?_⟩
          refine rq_less (sx 119 (congrArg some e17.1) (sub_nil _)) (List.sublist_append_right _ _) ?_
          exact rq_v (rv_loadEl (u := .int .i64 (((x.dl.getD i ir0).xs).getD j 0)) rfl (by kernel_rfl) rfl (rd_old ((hr).dl.at (d := ir0) (k := i) (by omega))) (ints_at1 (show _ < ((x.dl.getD i ir0).xs).length by first | omega | (simp only [List.length_set]; omega))))
         ·
          intro vf pf hR
          have e9 : (vf 9) = .int .i64 (t : Int) ∧ (pf 9) = [] := hR 9 (by decide)
          have e18 : (vf 18) = .int .i64 (((x.dl.getD i ir0).xs).getD j 0) ∧ (pf 18) = [] := hR 18 (by decide)
          refine Or.inl ⟨rfl, ?_⟩
          refine rq_less (sx 111 (congrArg some e9.1) (sx 120 (congrArg some e18.1) (sub_nil _))) (List.sublist_append_right _ _) ?_
          exact rq_v (rv_sub rfl rfl rfl (by constructor <;> omega))
         ·
          intro vf pf hR
          have e4 : (vf 4) = (es.getD ((((x.n.ls.getD i lt0).xs).getD j 0).toNat) ir0).v ∧ (pf 4) = [] := hR 4 (by decide)
          have e8 : (vf 8) = .int .i64 ((valT x.n x.ao x.oi).getD ((((x.n.ls.getD i lt0).xs).getD j 0).toNat) 0) ∧ (pf 8) = [] := hR 8 (by decide)
          have e19 : (vf 19) = .int .i64 ((t : Int) - (((x.dl.getD i ir0).xs).getD j 0)) ∧ (pf 19) = [] := hR 19 (by decide)
          refine Or.inl ⟨rfl, ?_⟩
          refine rq_less (sx 106 (congrArg some e4.1) (sx 110 (congrArg some e8.1) (sx 121 (congrArg some e19.1) (sub_nil _)))) (List.sublist_append_right _ _) ?_
          exact (rq_call (by kernel_rfl) rfl (fun w hm => ret_ans (l37At_lin w (rdsIr_sep hm 1 2 rfl rfl) hw rfl rfl rfl (by omega) (by omega))))
         ·
          intro vf pf hR
          refine Or.inl ⟨rfl, ?_⟩
          refine rq_less (sx 15 rfl (sub_nil _)) (List.sublist_append_right _ _) ?_
          exact rq_v (rv_ev rfl)
         ·
          intro vf pf hR
          have e20 : (vf 20) = .int .i64 ((lin x (wvsL x a.toNat m) i (t : Int)) j) ∧ (pf 20) = [] := hR 20 (by decide)
          have e21 : (vf 21) = .int .i64 (j : Int) ∧ (pf 21) = [] := hR 21 (by decide)
          refine Or.inl ⟨rfl, ?_⟩
          refine rq_less (sx 122 (congrArg some e20.1) (sx 123 (congrArg some e21.1) (sub_nil _))) (List.sublist_append_right _ _) ?_
          exact rq_v (rv_shlG (k := .i64) (kk := .i64) (r := (lin x (wvsL x a.toNat m) i (t : Int)) j * 2 ^ j) rfl rfl rfl rfl (by omega) (shl_pk hbk (by omega)))
         ·
          intro vf pf hR
          have e0 : (vf 0) = .int .i64 q ∧ (pf 0) = [] := hR 0 (by decide)
          have e22 : (vf 22) = .int .i64 ((lin x (wvsL x a.toNat m) i (t : Int)) j * 2 ^ j) ∧ (pf 22) = [] := hR 22 (by decide)
          refine Or.inl ⟨rfl, ?_⟩
          refine rq_less (sx 102 (congrArg some e0.1) (sx 124 (congrArg some e22.1) (sub_nil _))) (List.sublist_append_right _ _) ?_
          exact rq_v (rv_add rfl rfl rfl (by rw [hq]; constructor <;> (rcases hbk with e | e <;> rw [e] <;> omega)))
        ·
         intro vf pf hR
         have e23 : (vf 23) = .int .i64 (q + ((lin x (wvsL x a.toNat m) i (t : Int)) j * 2 ^ j)) ∧ (pf 23) = [] := hR 23 (by decide)
         refine hl_less (l' := [rowE 3 1 u2 zs.length (zs.map (Value.int .i64)), bigE (es.map irPart), rowE 24 1 u es.length (es.flatMap irC), rowE 3 1 v5 ((valT x.n x.bs x.ni).length) ((valT x.n x.bs x.ni).map (Value.int .i64)), rowE 3 1 v2 ((valT x.n x.ao x.oi).length) ((valT x.n x.ao x.oi).map (Value.int .i64)), boxE b1 #[.int .i64 x.n.ins, x.n.sv, x.n.lv, x.n.ov, x.pv, x.qv, x.kv, x.av, x.bv, .int .i64 x.oi, .int .i64 x.ni] 40]) (sx 0 rfl (sx 1 rfl (sx 2 rfl (sx 4 rfl (sx 5 rfl (sx 6 rfl (sx 7 rfl (sx 8 rfl (sx 9 rfl (sx 10 rfl (sx 11 rfl (sx 12 rfl (sx 13 rfl (sx 14 rfl (sx 15 rfl (sx 16 rfl (sx 35 rfl (sx 41 rfl (sx 73 rfl (sx 79 rfl (sx 89 rfl (sx 125 (congrArg some e23.1) (sub_nil _))))))))))))))))))))))) (List.sublist_append_right _ _) ?_
         simp only [List.drop_succ_cons, List.drop_zero]
         refine hl_v rfl rfl rfl (rv_ev rfl) ?_
         refine hl_less (sx 0 rfl (sx 1 rfl (sx 2 rfl (sx 4 rfl (sx 5 rfl (sx 6 rfl (sx 7 rfl (sx 8 rfl (sx 9 rfl (sx 10 rfl (sx 11 rfl (sx 12 rfl (sx 13 rfl (sx 14 rfl (sx 15 rfl (sx 16 rfl (sx 35 rfl (sx 41 rfl (sx 73 rfl (sx 79 rfl (sx 89 rfl (sub_nil _)))))))))))))))))))))) (.refl _) ?_
         refine hl_nil ?_
         refine hq_block_normal ?_
         refine hq_then ?_
         refine hc_region ?_
         refine hl_v rfl rfl rfl (rv_ev rfl) ?_
         refine hl_v rfl rfl rfl (rv_add rfl rfl rfl (by constructor <;> omega)) ?_
         refine hl_v rfl rfl rfl (rv_ev rfl) ?_
         refine hl_less (sx 0 rfl (sx 1 rfl (sx 2 rfl (sx 4 rfl (sx 5 rfl (sx 6 rfl (sx 7 rfl (sx 8 rfl (sx 9 rfl (sx 10 rfl (sx 11 rfl (sx 12 rfl (sx 13 rfl (sx 14 rfl (sx 15 rfl (sx 16 rfl (sx 35 rfl (sx 41 rfl (sx 73 rfl (sx 79 rfl (sx 89 rfl (sub_nil _)))))))))))))))))))))) (.refl _) ?_
         refine hl_nil ?_
         exact hq_round2 (j + 1) _ ⟨by omega, by first | rfl | (rw [hq]; rfl)⟩ (by omega) (sx 0 rfl (sx 1 rfl (sx 2 rfl (sx 4 rfl (sx 5 rfl (sx 6 rfl (sx 7 rfl (sx 8 rfl (sx 9 rfl (sx 10 rfl (sx 11 rfl (sx 12 rfl (sx 13 rfl (sx 14 rfl (sx 15 rfl (sx 35 rfl (sx 41 rfl (sx 73 rfl (sx 79 rfl (sub_nil _)))))))))))))))))))) ((.cons_cons _ (.cons_cons _ (.cons_cons _ (.cons_cons _ (.cons_cons _ (.cons_cons _ .slnil)))))))
       ·
        refine hl_less (sx 0 rfl (sx 1 rfl (sx 2 rfl (sx 4 rfl (sx 5 rfl (sx 6 rfl (sx 7 rfl (sx 8 rfl (sx 9 rfl (sx 10 rfl (sx 11 rfl (sx 12 rfl (sx 13 rfl (sx 14 rfl (sx 15 rfl (sx 35 rfl (sx 41 rfl (sx 73 rfl (sx 79 rfl (sx 89 rfl (sub_nil _))))))))))))))))))))) (.refl _) ?_
        refine hl_nil ?_
        refine hq_then ?_
        refine hc_false rfl ?_
        refine hc_exit ?_
        refine hq_then_exit ?_
        refine hq_then_exit ?_
        refine hq_block_exit ?_
        refine hq_then ?_
        refine hc_region ?_
        have hal : ∀ z, z < j → (lin x (wvsL x a.toNat m) i (t : Int)) z = 0 ∨ (lin x (wvsL x a.toNat m) i (t : Int)) z = 1 := fun z hz => lin01 hok (by omega) hmi (by omega) z (by omega)
        have hpr := pk16 (b := (lin x (wvsL x a.toNat m) i (t : Int))) (k := j) hal (by omega)
        refine hl_v rfl rfl rfl (rv_field (k0 := 0) rfl (by kernel_rfl) rfl) ?_
        refine hl_v rfl rfl rfl (rv_field (k0 := 2) rfl (by kernel_rfl) rfl) ?_
        refine hl_v rfl rfl rfl (rv_load rfl (by kernel_rfl) rfl (box_cell 5 rfl rfl)) ?_
        refine hl_v rfl rfl rfl (rv_ev rfl) ?_
        refine hl_v rfl rfl rfl (rv_index (s := 2) rfl Try.underlying35 (by kernel_rfl) rfl rfl (rd_old ((hr).n.lt.row)) (by omega) (by first | omega | (simp only [List.length_set]; omega))) ?_
        refine hl_v rfl rfl rfl (rv_fieldEl (k0 := 1) rfl (by kernel_rfl) rfl (rd_old ((hr).n.lt.row)) (by first | omega | (simp only [List.length_set]; omega))) ?_
        refine hl_v rfl rfl rfl (rv_loadEl (u := .int .i64 ((x.n.ls.getD i lt0).ma)) rfl (by kernel_rfl) rfl (rd_old ((hr).n.lt.row)) ((flat_at ltC 2 (fun _ => rfl) x.n.ls lt0 (show i < _ by first | omega | (simp only [List.length_set]; omega)) (by decide)).trans rfl)) ?_
        refine hl_v rfl rfl rfl (rv_ev rfl) ?_
        refine hl_v rfl rfl rfl (rv_shr rfl rfl rfl (by omega)) ?_
        refine hl_v rfl rfl rfl (rv_bits rfl (by decide) rfl rfl (r := (((x.n.ls.getD i lt0).ma) / 2 ^ (q : Int).toNat) % 2) (andOne _)) ?_
        refine hl_v rfl rfl rfl (rv_ev rfl) ?_
        refine hl_less (sx 0 rfl (sx 1 rfl (sx 2 rfl (sx 4 rfl (sx 5 rfl (sx 6 rfl (sx 7 rfl (sx 8 rfl (sx 9 rfl (sx 10 rfl (sx 11 rfl (sx 12 rfl (sx 13 rfl (sx 14 rfl (sx 15 rfl (sx 35 rfl (sx 41 rfl (sx 73 rfl (sx 79 rfl (sx 89 rfl (sub_nil _))))))))))))))))))))) (.refl _) ?_
        refine hl_nil ?_
        refine hq_then ?_
        refine hc_region ?_
        refine hl_v rfl rfl rfl (rv_ev rfl) ?_
        refine hl_v rfl rfl rfl (rv_ev rfl) ?_
        refine hl_row rfl rfl rfl (rq_buildSlice (z := .int .i64 0) (s := 1) (cs := ([(((x.n.ls.getD i lt0).ma) / 2 ^ (q : Int).toNat) % 2].map (Value.int .i64))) rfl Try.underlying24 (by kernel_rfl) (by decide) rfl (by kernel_rfl) rfl) ?_
        intro g27
        refine hl_append (i := 1) (z := .int .i64 0) (bytes := 8) (n' := (zs ++ ([(((x.n.ls.getD i lt0).ma) / 2 ^ (q : Int).toNat) % 2])).length) (xs' := ((zs ++ ([(((x.n.ls.getD i lt0).ma) / 2 ^ (q : Int).toNat) % 2])).map (Value.int .i64))) (L := fun v28 => [rowE 3 1 (.slice (some ⟨g27, 0, none⟩) 1 1) 1 ([(((x.n.ls.getD i lt0).ma) / 2 ^ (q : Int).toNat) % 2].map (Value.int .i64)), rowE 3 1 v28 ((zs ++ ([(((x.n.ls.getD i lt0).ma) / 2 ^ (q : Int).toNat) % 2])).length) ((zs ++ ([(((x.n.ls.getD i lt0).ma) / 2 ^ (q : Int).toNat) % 2])).map (Value.int .i64)), bigE (es.map irPart), rowE 24 1 u es.length (es.flatMap irC), rowE 3 1 v5 ((valT x.n x.bs x.ni).length) ((valT x.n x.bs x.ni).map (Value.int .i64)), rowE 3 1 v2 ((valT x.n x.ao x.oi).length) ((valT x.n x.ao x.oi).map (Value.int .i64)), boxE b1 #[.int .i64 x.n.ins, x.n.sv, x.n.lv, x.n.ov, x.pv, x.qv, x.kv, x.av, x.bv, .int .i64 x.oi, .int .i64 x.ni] 40]) rfl rfl rfl rfl Try.underlying24 (by kernel_rfl) (by kernel_rfl) rfl rfl rfl (rd_row 0 rfl) (ints_one _) (by first | omega | (simp; omega)) (len_app zs ([(((x.n.ls.getD i lt0).ma) / 2 ^ (q : Int).toNat) % 2])) (ints_app zs ([(((x.n.ls.getD i lt0).ma) / 2 ^ (q : Int).toNat) % 2])) (fun _ => rfl) ?_
        intro v28
        refine hl_v rfl rfl rfl (rv_ev rfl) ?_
        refine hl_less (sx 0 rfl (sx 1 rfl (sx 2 rfl (sx 4 rfl (sx 5 rfl (sx 6 rfl (sx 7 rfl (sx 8 rfl (sx 9 rfl (sx 10 rfl (sx 11 rfl (sx 12 rfl (sx 13 rfl (sx 14 rfl (sx 15 rfl (sx 35 rfl (sx 41 rfl (sx 73 rfl (sx 79 rfl (sx 89 rfl (sub_nil _))))))))))))))))))))) (.refl _) ?_
        refine hl_nil ?_
        refine hq_block_normal ?_
        refine hq_then ?_
        refine hc_region ?_
        refine hl_v rfl rfl rfl (rv_ev rfl) ?_
        refine hl_v rfl rfl rfl (rv_add rfl rfl rfl (by constructor <;> omega)) ?_
        refine hl_v rfl rfl rfl (rv_ev rfl) ?_
        refine hl_less (sx 0 rfl (sx 1 rfl (sx 2 rfl (sx 4 rfl (sx 5 rfl (sx 6 rfl (sx 7 rfl (sx 8 rfl (sx 9 rfl (sx 10 rfl (sx 11 rfl (sx 12 rfl (sx 13 rfl (sx 14 rfl (sx 15 rfl (sx 35 rfl (sx 41 rfl (sx 73 rfl (sx 79 rfl (sx 89 rfl (sub_nil _))))))))))))))))))))) (.refl _) ?_
        refine hl_nil ?_
        have hv9 : (((x.n.ls.getD i lt0).ma) / 2 ^ (q : Int).toNat) % 2 = wvV x (wvsL x a.toNat m) m (t : Int) := by rw [wv_lut x _ _ hmi]; unfold lutV; rw [hq, show j = (x.n.ls.getD i lt0).xs.length by omega]
        exact hq_round3 (t + 1) v28 (zs ++ ([(((x.n.ls.getD i lt0).ma) / 2 ^ (q : Int).toNat) % 2])) ⟨by omega, by rw [hv9, hz]; exact rowW_succ _ _ _ _⟩ (by omega) (sx 0 rfl (sx 1 rfl (sx 2 rfl (sx 4 rfl (sx 5 rfl (sx 6 rfl (sx 7 rfl (sx 8 rfl (sx 9 rfl (sx 10 rfl (sx 35 rfl (sub_nil _)))))))))))) ((.cons _ (.cons_cons _ (.cons_cons _ (.cons_cons _ (.cons_cons _ (.cons_cons _ (.cons_cons _ .slnil))))))))
      ·
       refine hl_less (sx 0 rfl (sx 1 rfl (sx 2 rfl (sx 4 rfl (sx 5 rfl (sx 6 rfl (sx 7 rfl (sx 8 rfl (sx 9 rfl (sx 10 rfl (sx 11 rfl (sx 12 rfl (sx 13 rfl (sx 35 rfl (sx 41 rfl (sx 73 rfl (sx 79 rfl (sub_nil _)))))))))))))))))) (.refl _) ?_
       refine hl_nil ?_
       refine hq_then ?_
       refine hc_false rfl ?_
       refine hc_skip ?_
       refine hq_then ?_
       refine hc_region ?_
       refine hl_v rfl rfl rfl (rv_ev rfl) ?_
       refine hl_v rfl rfl rfl (rv_ev rfl) ?_
       refine hl_row rfl rfl rfl (rq_buildSlice (z := .int .i64 0) (s := 1) (cs := ([(valT x.n x.bs x.ni).getD m 0].map (Value.int .i64))) rfl Try.underlying24 (by kernel_rfl) (by decide) rfl (by kernel_rfl) rfl) ?_
       intro g29
       refine hl_append (i := 1) (z := .int .i64 0) (bytes := 8) (n' := (zs ++ ([(valT x.n x.bs x.ni).getD m 0])).length) (xs' := ((zs ++ ([(valT x.n x.bs x.ni).getD m 0])).map (Value.int .i64))) (L := fun v30 => [rowE 3 1 (.slice (some ⟨g29, 0, none⟩) 1 1) 1 ([(valT x.n x.bs x.ni).getD m 0].map (Value.int .i64)), rowE 3 1 v30 ((zs ++ ([(valT x.n x.bs x.ni).getD m 0])).length) ((zs ++ ([(valT x.n x.bs x.ni).getD m 0])).map (Value.int .i64)), bigE (es.map irPart), rowE 24 1 u es.length (es.flatMap irC), rowE 3 1 v5 ((valT x.n x.bs x.ni).length) ((valT x.n x.bs x.ni).map (Value.int .i64)), rowE 3 1 v2 ((valT x.n x.ao x.oi).length) ((valT x.n x.ao x.oi).map (Value.int .i64)), boxE b1 #[.int .i64 x.n.ins, x.n.sv, x.n.lv, x.n.ov, x.pv, x.qv, x.kv, x.av, x.bv, .int .i64 x.oi, .int .i64 x.ni] 40]) rfl rfl rfl rfl Try.underlying24 (by kernel_rfl) (by kernel_rfl) rfl rfl rfl (rd_row 0 rfl) (ints_one _) (by first | omega | (simp; omega)) (len_app zs ([(valT x.n x.bs x.ni).getD m 0])) (ints_app zs ([(valT x.n x.bs x.ni).getD m 0])) (fun _ => rfl) ?_
       intro v30
       refine hl_v rfl rfl rfl (rv_ev rfl) ?_
       refine hl_less (sx 0 rfl (sx 1 rfl (sx 2 rfl (sx 4 rfl (sx 5 rfl (sx 6 rfl (sx 7 rfl (sx 8 rfl (sx 9 rfl (sx 10 rfl (sx 11 rfl (sx 12 rfl (sx 13 rfl (sx 35 rfl (sx 41 rfl (sx 73 rfl (sx 79 rfl (sub_nil _)))))))))))))))))) (.refl _) ?_
       refine hl_nil ?_
       refine hq_block_normal ?_
       refine hq_then ?_
       refine hc_region ?_
       refine hl_v rfl rfl rfl (rv_ev rfl) ?_
       refine hl_v rfl rfl rfl (rv_add rfl rfl rfl (by constructor <;> omega)) ?_
       refine hl_v rfl rfl rfl (rv_ev rfl) ?_
       refine hl_less (sx 0 rfl (sx 1 rfl (sx 2 rfl (sx 4 rfl (sx 5 rfl (sx 6 rfl (sx 7 rfl (sx 8 rfl (sx 9 rfl (sx 10 rfl (sx 11 rfl (sx 12 rfl (sx 13 rfl (sx 35 rfl (sx 41 rfl (sx 73 rfl (sx 79 rfl (sub_nil _)))))))))))))))))) (.refl _) ?_
       refine hl_nil ?_
       have hv9 : (valT x.n x.bs x.ni).getD m 0 = wvV x (wvsL x a.toNat m) m (t : Int) := by unfold wvV; rw [if_pos (by omega), if_neg (by omega)]
       exact hq_round3 (t + 1) v30 (zs ++ ([(valT x.n x.bs x.ni).getD m 0])) ⟨by omega, by rw [hv9, hz]; exact rowW_succ _ _ _ _⟩ (by omega) (sx 0 rfl (sx 1 rfl (sx 2 rfl (sx 4 rfl (sx 5 rfl (sx 6 rfl (sx 7 rfl (sx 8 rfl (sx 9 rfl (sx 10 rfl (sx 35 rfl (sub_nil _)))))))))))) ((.cons _ (.cons_cons _ (.cons_cons _ (.cons_cons _ (.cons_cons _ (.cons_cons _ (.cons_cons _ .slnil))))))))
    ·
     refine hl_v rfl rfl rfl (rv_ev rfl) ?_
     refine hl_v rfl rfl rfl (rv_ev rfl) ?_
     refine hl_skip rfl rfl rfl ?_
     refine hl_skip rfl rfl rfl ?_
     refine hl_skip rfl rfl rfl ?_
     refine hl_skip rfl rfl rfl ?_
     refine hl_skip rfl rfl rfl ?_
     refine hl_skip rfl rfl rfl ?_
     refine hl_skip rfl rfl rfl ?_
     refine hl_v rfl rfl rfl (rv_ev rfl) ?_
     refine hl_less (sx 0 rfl (sx 1 rfl (sx 2 rfl (sx 4 rfl (sx 5 rfl (sx 6 rfl (sx 7 rfl (sx 8 rfl (sx 9 rfl (sx 10 rfl (sx 11 rfl (sx 12 rfl (sx 13 rfl (sx 35 rfl (sx 41 rfl (sx 73 rfl (sub_nil _))))))))))))))))) (.refl _) ?_
     refine hl_nil ?_
     refine hq_then ?_
     refine hc_false rfl ?_
     refine hc_skip ?_
     refine hq_then ?_
     refine hc_seq ?_
     refine hc_seq ?_
     refine hc_region ?_
     refine hl_v rfl rfl rfl (rv_ev rfl) ?_
     refine hl_geq rfl rfl rfl rfl rfl rfl (fun h31 => ?_) (fun h31 => ?_)
     ·
      refine hl_less (sx 0 rfl (sx 1 rfl (sx 2 rfl (sx 4 rfl (sx 5 rfl (sx 6 rfl (sx 7 rfl (sx 8 rfl (sx 9 rfl (sx 10 rfl (sx 11 rfl (sx 12 rfl (sx 13 rfl (sx 35 rfl (sx 41 rfl (sx 73 rfl (sx 79 rfl (sub_nil _)))))))))))))))))) (.refl _) ?_
      refine hl_nil ?_
      refine hq_then ?_
      refine hc_true rfl ?_
      refine hc_seq ?_
      refine hc_region ?_
      obtain ⟨i, hmi⟩ : ∃ i : Nat, (m : Int) - x.n.fst = (i : Int) := ⟨((m : Int) - x.n.fst).toNat, by omega⟩
      rw [hmi]
      have hil : i < x.n.ls.length := by omega
      have hlt9 := hok.n.lt i hil
      have hx4 := hlt9.1.1
      have hdi : (x.dl.getD i ir0).xs.length = (x.n.ls.getD i lt0).xs.length := by have := (hok.dl i hil).1; omega
      refine hl_v rfl rfl rfl (rv_ev rfl) ?_
      refine hl_less (sx 0 rfl (sx 1 rfl (sx 2 rfl (sx 4 rfl (sx 5 rfl (sx 6 rfl (sx 7 rfl (sx 8 rfl (sx 9 rfl (sx 10 rfl (sx 11 rfl (sx 12 rfl (sx 13 rfl (sx 14 rfl (sx 35 rfl (sx 41 rfl (sx 73 rfl (sx 79 rfl (sub_nil _))))))))))))))))))) (.refl _) ?_
      refine hl_nil ?_
      refine hq_then ?_
      refine hc_seq ?_
      refine hc_seq ?_
      refine hc_region ?_
      refine hl_v rfl rfl rfl (rv_ev rfl) ?_
      refine hl_less (sx 0 rfl (sx 1 rfl (sx 2 rfl (sx 4 rfl (sx 5 rfl (sx 6 rfl (sx 7 rfl (sx 8 rfl (sx 9 rfl (sx 10 rfl (sx 11 rfl (sx 12 rfl (sx 13 rfl (sx 14 rfl (sx 15 rfl (sx 35 rfl (sx 41 rfl (sx 73 rfl (sx 79 rfl (sub_nil _)))))))))))))))))))) (.refl _) ?_
      refine hl_nil ?_
      refine hq_then ?_
      refine hc_block ?_
      refine hc_loop2 (α := Nat) (β := Int) (fun j q => [rowE 3 1 u2 zs.length (zs.map (Value.int .i64)), bigE (es.map irPart), rowE 24 1 u es.length (es.flatMap irC), rowE 3 1 v5 ((valT x.n x.bs x.ni).length) ((valT x.n x.bs x.ni).map (Value.int .i64)), rowE 3 1 v2 ((valT x.n x.ao x.oi).length) ((valT x.n x.ao x.oi).map (Value.int .i64)), boxE b1 #[.int .i64 x.n.ins, x.n.sv, x.n.lv, x.n.ov, x.pv, x.qv, x.kv, x.av, x.bv, .int .i64 x.oi, .int .i64 x.ni] 40]) (fun j q => [(0, .agg #[.int .i64 x.n.ins, x.n.sv, x.n.lv, x.n.ov, x.pv, x.qv, x.kv, x.av, x.bv, .int .i64 x.oi, .int .i64 x.ni]), (1, .int .i64 a), (2, .pointer (some ⟨b1, 0, none⟩)), (4, .slice none 0 0), (5, v2), (6, v5), (7, u), (8, .int .i64 (m : Int)), (9, u2), (10, .int .i64 (t : Int)), (11, .int .i64 ((valT x.n x.bs x.ni).getD m 0)), (12, .int .i64 (((m : Int) - 1) - x.n.ins)), (13, .int .i64 (i : Int)), (14, .int .i64 q), (15, .int .i64 (j : Int)), (35, .bool true), (41, .bool true), (73, .bool false), (79, .bool true)]) (fun j q => j ≤ (x.n.ls.getD i lt0).xs.length ∧ q = pk (lin x (wvsL x a.toNat m) i (t : Int)) j) (fun j q => (x.n.ls.getD i lt0).xs.length - j) 0 0 ⟨Nat.zero_le _, rfl⟩ (sx 0 rfl (sx 1 rfl (sx 2 rfl (sx 4 rfl (sx 5 rfl (sx 6 rfl (sx 7 rfl (sx 8 rfl (sx 9 rfl (sx 10 rfl (sx 11 rfl (sx 12 rfl (sx 13 rfl (sx 14 rfl (sx 15 rfl (sx 35 rfl (sx 41 rfl (sx 73 rfl (sx 79 rfl (sub_nil _)))))))))))))))))))) ((.cons_cons _ (.cons_cons _ (.cons_cons _ (.cons_cons _ (.cons_cons _ (.cons_cons _ .slnil))))))) ?_
      intro j q hi32
      obtain ⟨hj, hq⟩ := hi32
      refine hc_seq ?_
      refine hc_seq ?_
      refine hc_region ?_
      refine hl_v rfl rfl rfl (rv_ev rfl) ?_
      refine hl_v rfl rfl rfl (rv_field (k0 := 0) rfl (by kernel_rfl) rfl) ?_
      refine hl_v rfl rfl rfl (rv_field (k0 := 2) rfl (by kernel_rfl) rfl) ?_
      refine hl_v rfl rfl rfl (rv_load rfl (by kernel_rfl) rfl (box_cell 5 rfl rfl)) ?_
      refine hl_v rfl rfl rfl (rv_ev rfl) ?_
      refine hl_v rfl rfl rfl (rv_index (s := 2) rfl Try.underlying35 (by kernel_rfl) rfl rfl (rd_old ((hr).n.lt.row)) (by omega) (by first | omega | (simp only [List.length_set]; omega))) ?_
      refine hl_v rfl rfl rfl (rv_fieldEl (k0 := 0) rfl (by kernel_rfl) rfl (rd_old ((hr).n.lt.row)) (by first | omega | (simp only [List.length_set]; omega))) ?_
      refine hl_v rfl rfl rfl (rv_loadEl (u := (x.n.ls.getD i lt0).iv) rfl (by kernel_rfl) rfl (rd_old ((hr).n.lt.row)) ((flat_at ltC 2 (fun _ => rfl) x.n.ls lt0 (show i < _ by first | omega | (simp only [List.length_set]; omega)) (by decide)).trans rfl)) ?_
      refine hl_v rfl rfl rfl (rv_len rfl Try.underlying24 rfl (rd_old ((hr).n.lt.at (d := lt0) (k := i) (by omega)))) ?_
      refine hl_lss rfl rfl rfl rfl rfl rfl (fun h33 => ?_) (fun h33 => ?_)
      ·
       refine hl_less (sx 0 rfl (sx 1 rfl (sx 2 rfl (sx 4 rfl (sx 5 rfl (sx 6 rfl (sx 7 rfl (sx 8 rfl (sx 9 rfl (sx 10 rfl (sx 11 rfl (sx 12 rfl (sx 13 rfl (sx 14 rfl (sx 15 rfl (sx 35 rfl (sx 41 rfl (sx 73 rfl (sx 79 rfl (sx 89 rfl (sub_nil _))))))))))))))))))))) (.refl _) ?_
       refine hl_nil ?_
       refine hq_then ?_
       refine hc_true rfl ?_
       refine hc_skip ?_
       refine hq_then ?_
       refine hc_seq ?_
       refine hc_block ?_
       refine hc_seq ?_
       refine hc_region ?_
       refine hl_v rfl rfl rfl (rv_field (k0 := 0) rfl (by kernel_rfl) rfl) ?_
       refine hl_v rfl rfl rfl (rv_field (k0 := 2) rfl (by kernel_rfl) rfl) ?_
       refine hl_v rfl rfl rfl (rv_load rfl (by kernel_rfl) rfl (box_cell 5 rfl rfl)) ?_
       refine hl_v rfl rfl rfl (rv_ev rfl) ?_
       refine hl_v rfl rfl rfl (rv_index (s := 2) rfl Try.underlying35 (by kernel_rfl) rfl rfl (rd_old ((hr).n.lt.row)) (by omega) (by first | omega | (simp only [List.length_set]; omega))) ?_
       refine hl_v rfl rfl rfl (rv_fieldEl (k0 := 0) rfl (by kernel_rfl) rfl (rd_old ((hr).n.lt.row)) (by first | omega | (simp only [List.length_set]; omega))) ?_
       refine hl_v rfl rfl rfl (rv_loadEl (u := (x.n.ls.getD i lt0).iv) rfl (by kernel_rfl) rfl (rd_old ((hr).n.lt.row)) ((flat_at ltC 2 (fun _ => rfl) x.n.ls lt0 (show i < _ by first | omega | (simp only [List.length_set]; omega)) (by decide)).trans rfl)) ?_
       refine hl_v rfl rfl rfl (rv_ev rfl) ?_
       refine hl_v rfl rfl rfl (rv_index (s := 1) rfl Try.underlying24 (by kernel_rfl) rfl rfl (rd_old ((hr).n.lt.at (d := lt0) (k := i) (by omega))) (by omega) (by first | omega | (simp only [List.length_set]; omega))) ?_
       refine hl_v rfl rfl rfl (rv_loadEl (u := .int .i64 (((x.n.ls.getD i lt0).xs).getD j 0)) rfl (by kernel_rfl) rfl (rd_old ((hr).n.lt.at (d := lt0) (k := i) (by omega))) (ints_at1 (show _ < ((x.n.ls.getD i lt0).xs).length by first | omega | (simp only [List.length_set]; omega)))) ?_
       refine hl_v rfl rfl rfl (rv_ev rfl) ?_
       refine hl_less (sx 0 rfl (sx 1 rfl (sx 2 rfl (sx 4 rfl (sx 5 rfl (sx 6 rfl (sx 7 rfl (sx 8 rfl (sx 9 rfl (sx 10 rfl (sx 11 rfl (sx 12 rfl (sx 13 rfl (sx 14 rfl (sx 15 rfl (sx 16 rfl (sx 35 rfl (sx 41 rfl (sx 73 rfl (sx 79 rfl (sx 89 rfl (sub_nil _)))))))))))))))))))))) (.refl _) ?_
       refine hl_nil ?_
       refine hq_then ?_
       have hns := hlt9.1.2 j (by omega)
       have hdj := (hok.dl i hil).2 j (by omega)
       have hbk : (lin x (wvsL x a.toNat m) i (t : Int)) j = 0 ∨ (lin x (wvsL x a.toNat m) i (t : Int)) j = 1 := lin01 hok (by omega) hmi (by omega) j (by omega)
       have hal : ∀ z, z < j → (lin x (wvsL x a.toNat m) i (t : Int)) z = 0 ∨ (lin x (wvsL x a.toNat m) i (t : Int)) z = 1 := fun z hz => lin01 hok (by omega) hmi (by omega) z (by omega)
       have hpr := pk16 (b := (lin x (wvsL x a.toNat m) i (t : Int))) (k := j) hal (by omega)
       have hpw := pow4 (k := j) (by omega)
       have hpw0 : (0 : Int) < 2 ^ j := Int.pow_pos (by decide)
       refine hc_draw (by kernel_rfl) 24 [0, 1, 2, 3, 4, 5, 6, 7, 8, 9, 10, 11, 12, 13, 14, 15, 16, 17, 18, 19, 20, 21, 22, 23] (List.take 24 _) (List.drop 24 _) [[], [], [], [1, 2], [3], [], [], [5, 6], [7], [], [], [10], [11], [], [12, 13], [14], [], [15, 16], [17], [9, 18], [4, 8, 19], [], [20, 21], [0, 22]] [102, 103, 104, 105, 106, 107, 108, 109, 110, 111, 112, 113, 114, 115, 116, 117, 118, 119, 120, 121, 122, 123, 124, 125] (fun i_ vs_ v_ p_ => match i_ with | 0 => v_ = .int .i64 q ∧ p_ = [] | 1 => v_ = u ∧ p_ = [] | 2 => v_ = .int .i64 (((x.n.ls.getD i lt0).xs).getD j 0) ∧ p_ = [] | 3 => v_ = elP u ((((x.n.ls.getD i lt0).xs).getD j 0).toNat * 1) ∧ p_ = [] | 4 => v_ = (es.getD ((((x.n.ls.getD i lt0).xs).getD j 0).toNat) ir0).v ∧ p_ = [] | 5 => v_ = v2 ∧ p_ = [] | 6 => v_ = .int .i64 (((x.n.ls.getD i lt0).xs).getD j 0) ∧ p_ = [] | 7 => v_ = elP v2 ((((x.n.ls.getD i lt0).xs).getD j 0).toNat * 1) ∧ p_ = [] | 8 => v_ = .int .i64 ((valT x.n x.ao x.oi).getD ((((x.n.ls.getD i lt0).xs).getD j 0).toNat) 0) ∧ p_ = [] | 9 => v_ = .int .i64 (t : Int) ∧ p_ = [] | 10 => v_ = .pointer (some ⟨b1, 0 + 4, none⟩) ∧ p_ = [] | 11 => v_ = .pointer (some ⟨b1, 0 + 4 + 0, none⟩) ∧ p_ = [] | 12 => v_ = x.pv ∧ p_ = [] | 13 => v_ = .int .i64 (i : Int) ∧ p_ = [] | 14 => v_ = elP x.pv (((i : Int)).toNat * 1) ∧ p_ = [] | 15 => v_ = (x.dl.getD i ir0).v ∧ p_ = [] | 16 => v_ = .int .i64 (j : Int) ∧ p_ = [] | 17 => v_ = elP ((x.dl.getD i ir0).v) (((j : Int)).toNat * 1) ∧ p_ = [] | 18 => v_ = .int .i64 (((x.dl.getD i ir0).xs).getD j 0) ∧ p_ = [] | 19 => v_ = .int .i64 ((t : Int) - (((x.dl.getD i ir0).xs).getD j 0)) ∧ p_ = [] | 20 => v_ = .int .i64 ((lin x (wvsL x a.toNat m) i (t : Int)) j) ∧ p_ = [] | 21 => v_ = .int .i64 (j : Int) ∧ p_ = [] | 22 => v_ = .int .i64 ((lin x (wvsL x a.toNat m) i (t : Int)) j * 2 ^ j) ∧ p_ = [] | 23 => v_ = .int .i64 (q + ((lin x (wvsL x a.toNat m) i (t : Int)) j * 2 ^ j)) ∧ p_ = [] | _ => True) (List.take_append_drop 24 _).symm (by kernel_rfl) (by kernel_rfl) rfl rfl ?_ ?_
       ·
        refine ⟨?_, ?_, ?_, ?_, ?_, ?_, ?_, ?_, ?_, ?_, ?_, ?_, ?_, ?_, ?_, ?_, ?_, ?_, ?_, ?_, ?_, ?_, ?_, ?_, trivial⟩
        ·
         intro vf pf hR
         refine Or.inl ⟨rfl, ?_⟩
         refine rq_less (sx 14 rfl (sub_nil _)) (List.sublist_append_right _ _) ?_
         exact rq_v (rv_ev rfl)
        ·
         intro vf pf hR
         refine Or.inl ⟨rfl, ?_⟩
         refine rq_less (sx 7 rfl (sub_nil _)) (List.sublist_append_right _ _) ?_
         exact rq_v (rv_ev rfl)
        ·
         intro vf pf hR
         refine Or.inl ⟨rfl, ?_⟩
         refine rq_less (sx 16 rfl (sub_nil _)) (List.sublist_append_right _ _) ?_
         exact rq_v (rv_ev rfl)
        ·
         intro vf pf hR
         have e1 : (vf 1) = u ∧ (pf 1) = [] := hR 1 (by decide)
         have e2 : (vf 2) = .int .i64 (((x.n.ls.getD i lt0).xs).getD j 0) ∧ (pf 2) = [] := hR 2 (by decide)
         refine Or.inl ⟨rfl, ?_⟩
         refine rq_less (sx 103 (congrArg some e1.1) (sx 104 (congrArg some e2.1) (sub_nil _))) (List.sublist_append_right _ _) ?_
         exact rq_v (rv_index (s := 1) rfl Try.underlying27 (by kernel_rfl) rfl rfl (rd_row 2 rfl) (by omega) (by first | omega | (simp only [List.length_set]; omega)))
        ·
         intro vf pf hR
         have e3 : (vf 3) = elP u ((((x.n.ls.getD i lt0).xs).getD j 0).toNat * 1) ∧ (pf 3) = [] := hR 3 (by decide)
         refine Or.inl ⟨rfl, ?_⟩
         refine rq_less (sx 105 (congrArg some e3.1) (sub_nil _)) (List.sublist_append_right _ _) ?_
         exact rq_v (rv_loadEl (u := (es.getD ((((x.n.ls.getD i lt0).xs).getD j 0).toNat) ir0).v) rfl (by kernel_rfl) rfl (rd_row 2 rfl) (flat_one irC (fun r => r.v) (fun _ => rfl) es ir0 (show (((x.n.ls.getD i lt0).xs).getD j 0).toNat < _ by first | omega | (simp only [List.length_set]; omega))))
        ·
         intro vf pf hR
         refine Or.inl ⟨rfl, ?_⟩
         refine rq_less (sx 5 rfl (sub_nil _)) (List.sublist_append_right _ _) ?_
         exact rq_v (rv_ev rfl)
        ·
         intro vf pf hR
         refine Or.inl ⟨rfl, ?_⟩
         refine rq_less (sx 16 rfl (sub_nil _)) (List.sublist_append_right _ _) ?_
         exact rq_v (rv_ev rfl)
        ·
         intro vf pf hR
         have e5 : (vf 5) = v2 ∧ (pf 5) = [] := hR 5 (by decide)
         have e6 : (vf 6) = .int .i64 (((x.n.ls.getD i lt0).xs).getD j 0) ∧ (pf 6) = [] := hR 6 (by decide)
         refine Or.inl ⟨rfl, ?_⟩
         refine rq_less (sx 107 (congrArg some e5.1) (sx 108 (congrArg some e6.1) (sub_nil _))) (List.sublist_append_right _ _) ?_
         exact rq_v (rv_index (s := 1) rfl Try.underlying24 (by kernel_rfl) rfl rfl (rd_row 4 rfl) (by omega) (by first | omega | (simp only [List.length_set]; omega)))
        ·
         intro vf pf hR
         have e7 : (vf 7) = elP v2 ((((x.n.ls.getD i lt0).xs).getD j 0).toNat * 1) ∧ (pf 7) = [] := hR 7 (by decide)
         refine Or.inl ⟨rfl, ?_⟩
         refine rq_less (sx 109 (congrArg some e7.1) (sub_nil _)) (List.sublist_append_right _ _) ?_
         exact rq_v (rv_loadEl (u := .int .i64 ((valT x.n x.ao x.oi).getD ((((x.n.ls.getD i lt0).xs).getD j 0).toNat) 0)) rfl (by kernel_rfl) rfl (rd_row 4 rfl) (ints_at1 (show _ < (valT x.n x.ao x.oi).length by first | omega | (simp only [List.length_set]; omega))))
        ·
         intro vf pf hR
         refine Or.inl ⟨rfl, ?_⟩
         refine rq_less (sx 10 rfl (sub_nil _)) (List.sublist_append_right _ _) ?_
         exact rq_v (rv_ev rfl)
        ·
         intro vf pf hR
         refine Or.inl ⟨rfl, ?_⟩
         refine rq_less (sx 2 rfl (sub_nil _)) (List.sublist_append_right _ _) ?_
         exact rq_v (rv_field (k0 := 4) rfl (by kernel_rfl) rfl)
        ·
         intro vf pf hR
         have e10 : (vf 10) = .pointer (some ⟨b1, 0 + 4, none⟩) ∧ (pf 10) = [] := hR 10 (by decide)
         refine Or.inl ⟨rfl, ?_⟩
         refine rq_less (sx 112 (congrArg some e10.1) (sub_nil _)) (List.sublist_append_right _ _) ?_
         exact rq_v (rv_field (k0 := 0) rfl (by kernel_rfl) rfl)
        ·
         intro vf pf hR
         have e11 : (vf 11) = .pointer (some ⟨b1, 0 + 4 + 0, none⟩) ∧ (pf 11) = [] := hR 11 (by decide)
         refine Or.inl ⟨rfl, ?_⟩
         refine rq_less (sx 113 (congrArg some e11.1) (sub_nil _)) (List.sublist_append_right _ _) ?_
         exact rq_v (rv_load rfl (by kernel_rfl) rfl (box_cell 5 rfl rfl))
        ·
         intro vf pf hR
         refine Or.inl ⟨rfl, ?_⟩
         refine rq_less (sx 13 rfl (sub_nil _)) (List.sublist_append_right _ _) ?_
         exact rq_v (rv_ev rfl)
        ·
         intro vf pf hR
         have e12 : (vf 12) = x.pv ∧ (pf 12) = [] := hR 12 (by decide)
         have e13 : (vf 13) = .int .i64 (i : Int) ∧ (pf 13) = [] := hR 13 (by decide)
         refine Or.inl ⟨rfl, ?_⟩
         refine rq_less (sx 114 (congrArg some e12.1) (sx 115 (congrArg some e13.1) (sub_nil _))) (List.sublist_append_right _ _) ?_
         exact rq_v (rv_index (s := 1) rfl Try.underlying27 (by kernel_rfl) rfl rfl (rd_old ((hr).dl.row)) (by omega) (by first | omega | (simp only [List.length_set]; omega)))
        ·
         intro vf pf hR
         have e14 : (vf 14) = elP x.pv (((i : Int)).toNat * 1) ∧ (pf 14) = [] := hR 14 (by decide)
         refine Or.inl ⟨rfl, ?_⟩
         refine rq_less (sx 116 (congrArg some e14.1) (sub_nil _)) (List.sublist_append_right _ _) ?_
         exact rq_v (rv_loadEl (u := (x.dl.getD i ir0).v) rfl (by kernel_rfl) rfl (rd_old ((hr).dl.row)) (flat_one irC (fun r => r.v) (fun _ => rfl) x.dl ir0 (show i < _ by first | omega | (simp only [List.length_set]; omega))))
        ·
         intro vf pf hR
         refine Or.inl ⟨rfl, ?_⟩
         refine rq_less (sx 15 rfl (sub_nil _)) (List.sublist_append_right _ _) ?_
         exact rq_v (rv_ev rfl)
        ·
         intro vf pf hR
         have e15 : (vf 15) = (x.dl.getD i ir0).v ∧ (pf 15) = [] := hR 15 (by decide)
         have e16 : (vf 16) = .int .i64 (j : Int) ∧ (pf 16) = [] := hR 16 (by decide)
         refine Or.inl ⟨rfl, ?_⟩
         refine rq_less (sx 117 (congrArg some e15.1) (sx 118 (congrArg some e16.1) (sub_nil _))) (List.sublist_append_right _ _) ?_
         exact rq_v (rv_index (s := 1) rfl Try.underlying24 (by kernel_rfl) rfl rfl (rd_old ((hr).dl.at (d := ir0) (k := i) (by omega))) (by omega) (by first | omega | (simp only [List.length_set]; omega)))
        ·
         intro vf pf hR
         have e17 : (vf 17) = elP ((x.dl.getD i ir0).v) (((j : Int)).toNat * 1) ∧ (pf 17) = [] := hR 17 (by decide)
         refine Or.inl ⟨rfl, ?_⟩
         refine rq_less (sx 119 (congrArg some e17.1) (sub_nil _)) (List.sublist_append_right _ _) ?_
         exact rq_v (rv_loadEl (u := .int .i64 (((x.dl.getD i ir0).xs).getD j 0)) rfl (by kernel_rfl) rfl (rd_old ((hr).dl.at (d := ir0) (k := i) (by omega))) (ints_at1 (show _ < ((x.dl.getD i ir0).xs).length by first | omega | (simp only [List.length_set]; omega))))
        ·
         intro vf pf hR
         have e9 : (vf 9) = .int .i64 (t : Int) ∧ (pf 9) = [] := hR 9 (by decide)
         have e18 : (vf 18) = .int .i64 (((x.dl.getD i ir0).xs).getD j 0) ∧ (pf 18) = [] := hR 18 (by decide)
         refine Or.inl ⟨rfl, ?_⟩
         refine rq_less (sx 111 (congrArg some e9.1) (sx 120 (congrArg some e18.1) (sub_nil _))) (List.sublist_append_right _ _) ?_
         exact rq_v (rv_sub rfl rfl rfl (by constructor <;> omega))
        ·
         intro vf pf hR
         have e4 : (vf 4) = (es.getD ((((x.n.ls.getD i lt0).xs).getD j 0).toNat) ir0).v ∧ (pf 4) = [] := hR 4 (by decide)
         have e8 : (vf 8) = .int .i64 ((valT x.n x.ao x.oi).getD ((((x.n.ls.getD i lt0).xs).getD j 0).toNat) 0) ∧ (pf 8) = [] := hR 8 (by decide)
         have e19 : (vf 19) = .int .i64 ((t : Int) - (((x.dl.getD i ir0).xs).getD j 0)) ∧ (pf 19) = [] := hR 19 (by decide)
         refine Or.inl ⟨rfl, ?_⟩
         refine rq_less (sx 106 (congrArg some e4.1) (sx 110 (congrArg some e8.1) (sx 121 (congrArg some e19.1) (sub_nil _)))) (List.sublist_append_right _ _) ?_
         exact (rq_call (by kernel_rfl) rfl (fun w hm => ret_ans (l37At_lin w (rdsIr_sep hm 1 2 rfl rfl) hw rfl rfl rfl (by omega) (by omega))))
        ·
         intro vf pf hR
         refine Or.inl ⟨rfl, ?_⟩
         refine rq_less (sx 15 rfl (sub_nil _)) (List.sublist_append_right _ _) ?_
         exact rq_v (rv_ev rfl)
        ·
         intro vf pf hR
         have e20 : (vf 20) = .int .i64 ((lin x (wvsL x a.toNat m) i (t : Int)) j) ∧ (pf 20) = [] := hR 20 (by decide)
         have e21 : (vf 21) = .int .i64 (j : Int) ∧ (pf 21) = [] := hR 21 (by decide)
         refine Or.inl ⟨rfl, ?_⟩
         refine rq_less (sx 122 (congrArg some e20.1) (sx 123 (congrArg some e21.1) (sub_nil _))) (List.sublist_append_right _ _) ?_
         exact rq_v (rv_shlG (k := .i64) (kk := .i64) (r := (lin x (wvsL x a.toNat m) i (t : Int)) j * 2 ^ j) rfl rfl rfl rfl (by omega) (shl_pk hbk (by omega)))
        ·
         intro vf pf hR
         have e0 : (vf 0) = .int .i64 q ∧ (pf 0) = [] := hR 0 (by decide)
         have e22 : (vf 22) = .int .i64 ((lin x (wvsL x a.toNat m) i (t : Int)) j * 2 ^ j) ∧ (pf 22) = [] := hR 22 (by decide)
         refine Or.inl ⟨rfl, ?_⟩
         refine rq_less (sx 102 (congrArg some e0.1) (sx 124 (congrArg some e22.1) (sub_nil _))) (List.sublist_append_right _ _) ?_
         exact rq_v (rv_add rfl rfl rfl (by rw [hq]; constructor <;> (rcases hbk with e | e <;> rw [e] <;> omega)))
       ·
        intro vf pf hR
        have e23 : (vf 23) = .int .i64 (q + ((lin x (wvsL x a.toNat m) i (t : Int)) j * 2 ^ j)) ∧ (pf 23) = [] := hR 23 (by decide)
        refine hl_less (l' := [rowE 3 1 u2 zs.length (zs.map (Value.int .i64)), bigE (es.map irPart), rowE 24 1 u es.length (es.flatMap irC), rowE 3 1 v5 ((valT x.n x.bs x.ni).length) ((valT x.n x.bs x.ni).map (Value.int .i64)), rowE 3 1 v2 ((valT x.n x.ao x.oi).length) ((valT x.n x.ao x.oi).map (Value.int .i64)), boxE b1 #[.int .i64 x.n.ins, x.n.sv, x.n.lv, x.n.ov, x.pv, x.qv, x.kv, x.av, x.bv, .int .i64 x.oi, .int .i64 x.ni] 40]) (sx 0 rfl (sx 1 rfl (sx 2 rfl (sx 4 rfl (sx 5 rfl (sx 6 rfl (sx 7 rfl (sx 8 rfl (sx 9 rfl (sx 10 rfl (sx 11 rfl (sx 12 rfl (sx 13 rfl (sx 14 rfl (sx 15 rfl (sx 16 rfl (sx 35 rfl (sx 41 rfl (sx 73 rfl (sx 79 rfl (sx 89 rfl (sx 125 (congrArg some e23.1) (sub_nil _))))))))))))))))))))))) (List.sublist_append_right _ _) ?_
        simp only [List.drop_succ_cons, List.drop_zero]
        refine hl_v rfl rfl rfl (rv_ev rfl) ?_
        refine hl_less (sx 0 rfl (sx 1 rfl (sx 2 rfl (sx 4 rfl (sx 5 rfl (sx 6 rfl (sx 7 rfl (sx 8 rfl (sx 9 rfl (sx 10 rfl (sx 11 rfl (sx 12 rfl (sx 13 rfl (sx 14 rfl (sx 15 rfl (sx 16 rfl (sx 35 rfl (sx 41 rfl (sx 73 rfl (sx 79 rfl (sx 89 rfl (sub_nil _)))))))))))))))))))))) (.refl _) ?_
        refine hl_nil ?_
        refine hq_block_normal ?_
        refine hq_then ?_
        refine hc_region ?_
        refine hl_v rfl rfl rfl (rv_ev rfl) ?_
        refine hl_v rfl rfl rfl (rv_add rfl rfl rfl (by constructor <;> omega)) ?_
        refine hl_v rfl rfl rfl (rv_ev rfl) ?_
        refine hl_less (sx 0 rfl (sx 1 rfl (sx 2 rfl (sx 4 rfl (sx 5 rfl (sx 6 rfl (sx 7 rfl (sx 8 rfl (sx 9 rfl (sx 10 rfl (sx 11 rfl (sx 12 rfl (sx 13 rfl (sx 14 rfl (sx 15 rfl (sx 16 rfl (sx 35 rfl (sx 41 rfl (sx 73 rfl (sx 79 rfl (sx 89 rfl (sub_nil _)))))))))))))))))))))) (.refl _) ?_
        refine hl_nil ?_
        exact hq_round2 (j + 1) _ ⟨by omega, by first | rfl | (rw [hq]; rfl)⟩ (by omega) (sx 0 rfl (sx 1 rfl (sx 2 rfl (sx 4 rfl (sx 5 rfl (sx 6 rfl (sx 7 rfl (sx 8 rfl (sx 9 rfl (sx 10 rfl (sx 11 rfl (sx 12 rfl (sx 13 rfl (sx 14 rfl (sx 15 rfl (sx 35 rfl (sx 41 rfl (sx 73 rfl (sx 79 rfl (sub_nil _)))))))))))))))))))) ((.cons_cons _ (.cons_cons _ (.cons_cons _ (.cons_cons _ (.cons_cons _ (.cons_cons _ .slnil)))))))
      ·
       refine hl_less (sx 0 rfl (sx 1 rfl (sx 2 rfl (sx 4 rfl (sx 5 rfl (sx 6 rfl (sx 7 rfl (sx 8 rfl (sx 9 rfl (sx 10 rfl (sx 11 rfl (sx 12 rfl (sx 13 rfl (sx 14 rfl (sx 15 rfl (sx 35 rfl (sx 41 rfl (sx 73 rfl (sx 79 rfl (sx 89 rfl (sub_nil _))))))))))))))))))))) (.refl _) ?_
       refine hl_nil ?_
       refine hq_then ?_
       refine hc_false rfl ?_
       refine hc_exit ?_
       refine hq_then_exit ?_
       refine hq_then_exit ?_
       refine hq_block_exit ?_
       refine hq_then ?_
       refine hc_region ?_
       have hal : ∀ z, z < j → (lin x (wvsL x a.toNat m) i (t : Int)) z = 0 ∨ (lin x (wvsL x a.toNat m) i (t : Int)) z = 1 := fun z hz => lin01 hok (by omega) hmi (by omega) z (by omega)
       have hpr := pk16 (b := (lin x (wvsL x a.toNat m) i (t : Int))) (k := j) hal (by omega)
       refine hl_v rfl rfl rfl (rv_field (k0 := 0) rfl (by kernel_rfl) rfl) ?_
       refine hl_v rfl rfl rfl (rv_field (k0 := 2) rfl (by kernel_rfl) rfl) ?_
       refine hl_v rfl rfl rfl (rv_load rfl (by kernel_rfl) rfl (box_cell 5 rfl rfl)) ?_
       refine hl_v rfl rfl rfl (rv_ev rfl) ?_
       refine hl_v rfl rfl rfl (rv_index (s := 2) rfl Try.underlying35 (by kernel_rfl) rfl rfl (rd_old ((hr).n.lt.row)) (by omega) (by first | omega | (simp only [List.length_set]; omega))) ?_
       refine hl_v rfl rfl rfl (rv_fieldEl (k0 := 1) rfl (by kernel_rfl) rfl (rd_old ((hr).n.lt.row)) (by first | omega | (simp only [List.length_set]; omega))) ?_
       refine hl_v rfl rfl rfl (rv_loadEl (u := .int .i64 ((x.n.ls.getD i lt0).ma)) rfl (by kernel_rfl) rfl (rd_old ((hr).n.lt.row)) ((flat_at ltC 2 (fun _ => rfl) x.n.ls lt0 (show i < _ by first | omega | (simp only [List.length_set]; omega)) (by decide)).trans rfl)) ?_
       refine hl_v rfl rfl rfl (rv_ev rfl) ?_
       refine hl_v rfl rfl rfl (rv_shr rfl rfl rfl (by omega)) ?_
       refine hl_v rfl rfl rfl (rv_bits rfl (by decide) rfl rfl (r := (((x.n.ls.getD i lt0).ma) / 2 ^ (q : Int).toNat) % 2) (andOne _)) ?_
       refine hl_v rfl rfl rfl (rv_ev rfl) ?_
       refine hl_less (sx 0 rfl (sx 1 rfl (sx 2 rfl (sx 4 rfl (sx 5 rfl (sx 6 rfl (sx 7 rfl (sx 8 rfl (sx 9 rfl (sx 10 rfl (sx 11 rfl (sx 12 rfl (sx 13 rfl (sx 14 rfl (sx 15 rfl (sx 35 rfl (sx 41 rfl (sx 73 rfl (sx 79 rfl (sx 89 rfl (sub_nil _))))))))))))))))))))) (.refl _) ?_
       refine hl_nil ?_
       refine hq_then ?_
       refine hc_region ?_
       refine hl_v rfl rfl rfl (rv_ev rfl) ?_
       refine hl_v rfl rfl rfl (rv_ev rfl) ?_
       refine hl_row rfl rfl rfl (rq_buildSlice (z := .int .i64 0) (s := 1) (cs := ([(((x.n.ls.getD i lt0).ma) / 2 ^ (q : Int).toNat) % 2].map (Value.int .i64))) rfl Try.underlying24 (by kernel_rfl) (by decide) rfl (by kernel_rfl) rfl) ?_
       intro g34
       refine hl_append (i := 1) (z := .int .i64 0) (bytes := 8) (n' := (zs ++ ([(((x.n.ls.getD i lt0).ma) / 2 ^ (q : Int).toNat) % 2])).length) (xs' := ((zs ++ ([(((x.n.ls.getD i lt0).ma) / 2 ^ (q : Int).toNat) % 2])).map (Value.int .i64))) (L := fun v35 => [rowE 3 1 (.slice (some ⟨g34, 0, none⟩) 1 1) 1 ([(((x.n.ls.getD i lt0).ma) / 2 ^ (q : Int).toNat) % 2].map (Value.int .i64)), rowE 3 1 v35 ((zs ++ ([(((x.n.ls.getD i lt0).ma) / 2 ^ (q : Int).toNat) % 2])).length) ((zs ++ ([(((x.n.ls.getD i lt0).ma) / 2 ^ (q : Int).toNat) % 2])).map (Value.int .i64)), bigE (es.map irPart), rowE 24 1 u es.length (es.flatMap irC), rowE 3 1 v5 ((valT x.n x.bs x.ni).length) ((valT x.n x.bs x.ni).map (Value.int .i64)), rowE 3 1 v2 ((valT x.n x.ao x.oi).length) ((valT x.n x.ao x.oi).map (Value.int .i64)), boxE b1 #[.int .i64 x.n.ins, x.n.sv, x.n.lv, x.n.ov, x.pv, x.qv, x.kv, x.av, x.bv, .int .i64 x.oi, .int .i64 x.ni] 40]) rfl rfl rfl rfl Try.underlying24 (by kernel_rfl) (by kernel_rfl) rfl rfl rfl (rd_row 0 rfl) (ints_one _) (by first | omega | (simp; omega)) (len_app zs ([(((x.n.ls.getD i lt0).ma) / 2 ^ (q : Int).toNat) % 2])) (ints_app zs ([(((x.n.ls.getD i lt0).ma) / 2 ^ (q : Int).toNat) % 2])) (fun _ => rfl) ?_
       intro v35
       refine hl_v rfl rfl rfl (rv_ev rfl) ?_
       refine hl_less (sx 0 rfl (sx 1 rfl (sx 2 rfl (sx 4 rfl (sx 5 rfl (sx 6 rfl (sx 7 rfl (sx 8 rfl (sx 9 rfl (sx 10 rfl (sx 11 rfl (sx 12 rfl (sx 13 rfl (sx 14 rfl (sx 15 rfl (sx 35 rfl (sx 41 rfl (sx 73 rfl (sx 79 rfl (sx 89 rfl (sub_nil _))))))))))))))))))))) (.refl _) ?_
       refine hl_nil ?_
       refine hq_block_normal ?_
       refine hq_then ?_
       refine hc_region ?_
       refine hl_v rfl rfl rfl (rv_ev rfl) ?_
       refine hl_v rfl rfl rfl (rv_add rfl rfl rfl (by constructor <;> omega)) ?_
       refine hl_v rfl rfl rfl (rv_ev rfl) ?_
       refine hl_less (sx 0 rfl (sx 1 rfl (sx 2 rfl (sx 4 rfl (sx 5 rfl (sx 6 rfl (sx 7 rfl (sx 8 rfl (sx 9 rfl (sx 10 rfl (sx 11 rfl (sx 12 rfl (sx 13 rfl (sx 14 rfl (sx 15 rfl (sx 35 rfl (sx 41 rfl (sx 73 rfl (sx 79 rfl (sx 89 rfl (sub_nil _))))))))))))))))))))) (.refl _) ?_
       refine hl_nil ?_
       have hv9 : (((x.n.ls.getD i lt0).ma) / 2 ^ (q : Int).toNat) % 2 = wvV x (wvsL x a.toNat m) m (t : Int) := by rw [wv_lut x _ _ hmi]; unfold lutV; rw [hq, show j = (x.n.ls.getD i lt0).xs.length by omega]
       exact hq_round3 (t + 1) v35 (zs ++ ([(((x.n.ls.getD i lt0).ma) / 2 ^ (q : Int).toNat) % 2])) ⟨by omega, by rw [hv9, hz]; exact rowW_succ _ _ _ _⟩ (by omega) (sx 0 rfl (sx 1 rfl (sx 2 rfl (sx 4 rfl (sx 5 rfl (sx 6 rfl (sx 7 rfl (sx 8 rfl (sx 9 rfl (sx 10 rfl (sx 35 rfl (sub_nil _)))))))))))) ((.cons _ (.cons_cons _ (.cons_cons _ (.cons_cons _ (.cons_cons _ (.cons_cons _ (.cons_cons _ .slnil))))))))
     ·
      refine hl_less (sx 0 rfl (sx 1 rfl (sx 2 rfl (sx 4 rfl (sx 5 rfl (sx 6 rfl (sx 7 rfl (sx 8 rfl (sx 9 rfl (sx 10 rfl (sx 11 rfl (sx 12 rfl (sx 13 rfl (sx 35 rfl (sx 41 rfl (sx 73 rfl (sx 79 rfl (sub_nil _)))))))))))))))))) (.refl _) ?_
      refine hl_nil ?_
      refine hq_then ?_
      refine hc_false rfl ?_
      refine hc_skip ?_
      refine hq_then ?_
      refine hc_region ?_
      refine hl_v rfl rfl rfl (rv_ev rfl) ?_
      refine hl_v rfl rfl rfl (rv_ev rfl) ?_
      refine hl_row rfl rfl rfl (rq_buildSlice (z := .int .i64 0) (s := 1) (cs := ([(valT x.n x.bs x.ni).getD m 0].map (Value.int .i64))) rfl Try.underlying24 (by kernel_rfl) (by decide) rfl (by kernel_rfl) rfl) ?_
      intro g36
      refine hl_append (i := 1) (z := .int .i64 0) (bytes := 8) (n' := (zs ++ ([(valT x.n x.bs x.ni).getD m 0])).length) (xs' := ((zs ++ ([(valT x.n x.bs x.ni).getD m 0])).map (Value.int .i64))) (L := fun v37 => [rowE 3 1 (.slice (some ⟨g36, 0, none⟩) 1 1) 1 ([(valT x.n x.bs x.ni).getD m 0].map (Value.int .i64)), rowE 3 1 v37 ((zs ++ ([(valT x.n x.bs x.ni).getD m 0])).length) ((zs ++ ([(valT x.n x.bs x.ni).getD m 0])).map (Value.int .i64)), bigE (es.map irPart), rowE 24 1 u es.length (es.flatMap irC), rowE 3 1 v5 ((valT x.n x.bs x.ni).length) ((valT x.n x.bs x.ni).map (Value.int .i64)), rowE 3 1 v2 ((valT x.n x.ao x.oi).length) ((valT x.n x.ao x.oi).map (Value.int .i64)), boxE b1 #[.int .i64 x.n.ins, x.n.sv, x.n.lv, x.n.ov, x.pv, x.qv, x.kv, x.av, x.bv, .int .i64 x.oi, .int .i64 x.ni] 40]) rfl rfl rfl rfl Try.underlying24 (by kernel_rfl) (by kernel_rfl) rfl rfl rfl (rd_row 0 rfl) (ints_one _) (by first | omega | (simp; omega)) (len_app zs ([(valT x.n x.bs x.ni).getD m 0])) (ints_app zs ([(valT x.n x.bs x.ni).getD m 0])) (fun _ => rfl) ?_
      intro v37
      refine hl_v rfl rfl rfl (rv_ev rfl) ?_
      refine hl_less (sx 0 rfl (sx 1 rfl (sx 2 rfl (sx 4 rfl (sx 5 rfl (sx 6 rfl (sx 7 rfl (sx 8 rfl (sx 9 rfl (sx 10 rfl (sx 11 rfl (sx 12 rfl (sx 13 rfl (sx 35 rfl (sx 41 rfl (sx 73 rfl (sx 79 rfl (sub_nil _)))))))))))))))))) (.refl _) ?_
      refine hl_nil ?_
      refine hq_block_normal ?_
      refine hq_then ?_
      refine hc_region ?_
      refine hl_v rfl rfl rfl (rv_ev rfl) ?_
      refine hl_v rfl rfl rfl (rv_add rfl rfl rfl (by constructor <;> omega)) ?_
      refine hl_v rfl rfl rfl (rv_ev rfl) ?_
      refine hl_less (sx 0 rfl (sx 1 rfl (sx 2 rfl (sx 4 rfl (sx 5 rfl (sx 6 rfl (sx 7 rfl (sx 8 rfl (sx 9 rfl (sx 10 rfl (sx 11 rfl (sx 12 rfl (sx 13 rfl (sx 35 rfl (sx 41 rfl (sx 73 rfl (sx 79 rfl (sub_nil _)))))))))))))))))) (.refl _) ?_
      refine hl_nil ?_
      have hv9 : (valT x.n x.bs x.ni).getD m 0 = wvV x (wvsL x a.toNat m) m (t : Int) := by unfold wvV; rw [if_pos (by omega), if_neg (by omega)]
      exact hq_round3 (t + 1) v37 (zs ++ ([(valT x.n x.bs x.ni).getD m 0])) ⟨by omega, by rw [hv9, hz]; exact rowW_succ _ _ _ _⟩ (by omega) (sx 0 rfl (sx 1 rfl (sx 2 rfl (sx 4 rfl (sx 5 rfl (sx 6 rfl (sx 7 rfl (sx 8 rfl (sx 9 rfl (sx 10 rfl (sx 35 rfl (sub_nil _)))))))))))) ((.cons _ (.cons_cons _ (.cons_cons _ (.cons_cons _ (.cons_cons _ (.cons_cons _ (.cons_cons _ .slnil))))))))
   ·
    refine hl_v rfl rfl rfl (rv_ev rfl) ?_
    refine hl_skip rfl rfl rfl ?_
    refine hl_skip rfl rfl rfl ?_
    refine hl_v rfl rfl rfl (rv_ev rfl) ?_
    refine hl_v rfl rfl rfl (rv_ev rfl) ?_
    refine hl_skip rfl rfl rfl ?_
    refine hl_skip rfl rfl rfl ?_
    refine hl_skip rfl rfl rfl ?_
    refine hl_skip rfl rfl rfl ?_
    refine hl_skip rfl rfl rfl ?_
    refine hl_skip rfl rfl rfl ?_
    refine hl_skip rfl rfl rfl ?_
    refine hl_v rfl rfl rfl (rv_ev rfl) ?_
    refine hl_less (sx 0 rfl (sx 1 rfl (sx 2 rfl (sx 4 rfl (sx 5 rfl (sx 6 rfl (sx 7 rfl (sx 8 rfl (sx 9 rfl (sx 10 rfl (sx 11 rfl (sx 12 rfl (sx 13 rfl (sx 35 rfl (sx 41 rfl (sx 73 rfl (sub_nil _))))))))))))))))) (.refl _) ?_
    refine hl_nil ?_
    refine hq_then ?_
    refine hc_false rfl ?_
    refine hc_skip ?_
    refine hq_then ?_
    refine hc_seq ?_
    refine hc_seq ?_
    refine hc_region ?_
    refine hl_v rfl rfl rfl (rv_ev rfl) ?_
    refine hl_geq rfl rfl rfl rfl rfl rfl (fun h38 => ?_) (fun h38 => ?_)
    ·
     refine hl_less (sx 0 rfl (sx 1 rfl (sx 2 rfl (sx 4 rfl (sx 5 rfl (sx 6 rfl (sx 7 rfl (sx 8 rfl (sx 9 rfl (sx 10 rfl (sx 11 rfl (sx 12 rfl (sx 13 rfl (sx 35 rfl (sx 41 rfl (sx 73 rfl (sx 79 rfl (sub_nil _)))))))))))))))))) (.refl _) ?_
     refine hl_nil ?_
     refine hq_then ?_
     refine hc_true rfl ?_
     refine hc_seq ?_
     refine hc_region ?_
     obtain ⟨i, hmi⟩ : ∃ i : Nat, (m : Int) - x.n.fst = (i : Int) := ⟨((m : Int) - x.n.fst).toNat, by omega⟩
     rw [hmi]
     have hil : i < x.n.ls.length := by omega
     have hlt9 := hok.n.lt i hil
     have hx4 := hlt9.1.1
     have hdi : (x.dl.getD i ir0).xs.length = (x.n.ls.getD i lt0).xs.length := by have := (hok.dl i hil).1; omega
     refine hl_v rfl rfl rfl (rv_ev rfl) ?_
     refine hl_less (sx 0 rfl (sx 1 rfl (sx 2 rfl (sx 4 rfl (sx 5 rfl (sx 6 rfl (sx 7 rfl (sx 8 rfl (sx 9 rfl (sx 10 rfl (sx 11 rfl (sx 12 rfl (sx 13 rfl (sx 14 rfl (sx 35 rfl (sx 41 rfl (sx 73 rfl (sx 79 rfl (sub_nil _))))))))))))))))))) (.refl _) ?_
     refine hl_nil ?_
     refine hq_then ?_
     refine hc_seq ?_
     refine hc_seq ?_
     refine hc_region ?_
     refine hl_v rfl rfl rfl (rv_ev rfl) ?_
     refine hl_less (sx 0 rfl (sx 1 rfl (sx 2 rfl (sx 4 rfl (sx 5 rfl (sx 6 rfl (sx 7 rfl (sx 8 rfl (sx 9 rfl (sx 10 rfl (sx 11 rfl (sx 12 rfl (sx 13 rfl (sx 14 rfl (sx 15 rfl (sx 35 rfl (sx 41 rfl (sx 73 rfl (sx 79 rfl (sub_nil _)))))))))))))))))))) (.refl _) ?_
     refine hl_nil ?_
     refine hq_then ?_
     refine hc_block ?_
     refine hc_loop2 (α := Nat) (β := Int) (fun j q => [rowE 3 1 u2 zs.length (zs.map (Value.int .i64)), bigE (es.map irPart), rowE 24 1 u es.length (es.flatMap irC), rowE 3 1 v5 ((valT x.n x.bs x.ni).length) ((valT x.n x.bs x.ni).map (Value.int .i64)), rowE 3 1 v2 ((valT x.n x.ao x.oi).length) ((valT x.n x.ao x.oi).map (Value.int .i64)), boxE b1 #[.int .i64 x.n.ins, x.n.sv, x.n.lv, x.n.ov, x.pv, x.qv, x.kv, x.av, x.bv, .int .i64 x.oi, .int .i64 x.ni] 40]) (fun j q => [(0, .agg #[.int .i64 x.n.ins, x.n.sv, x.n.lv, x.n.ov, x.pv, x.qv, x.kv, x.av, x.bv, .int .i64 x.oi, .int .i64 x.ni]), (1, .int .i64 a), (2, .pointer (some ⟨b1, 0, none⟩)), (4, .slice none 0 0), (5, v2), (6, v5), (7, u), (8, .int .i64 (m : Int)), (9, u2), (10, .int .i64 (t : Int)), (11, .int .i64 ((valT x.n x.bs x.ni).getD m 0)), (12, .int .i64 (((m : Int) - 1) - x.n.ins)), (13, .int .i64 (i : Int)), (14, .int .i64 q), (15, .int .i64 (j : Int)), (35, .bool true), (41, .bool true), (73, .bool false), (79, .bool true)]) (fun j q => j ≤ (x.n.ls.getD i lt0).xs.length ∧ q = pk (lin x (wvsL x a.toNat m) i (t : Int)) j) (fun j q => (x.n.ls.getD i lt0).xs.length - j) 0 0 ⟨Nat.zero_le _, rfl⟩ (sx 0 rfl (sx 1 rfl (sx 2 rfl (sx 4 rfl (sx 5 rfl (sx 6 rfl (sx 7 rfl (sx 8 rfl (sx 9 rfl (sx 10 rfl (sx 11 rfl (sx 12 rfl (sx 13 rfl (sx 14 rfl (sx 15 rfl (sx 35 rfl (sx 41 rfl (sx 73 rfl (sx 79 rfl (sub_nil _)))))))))))))))))))) ((.cons_cons _ (.cons_cons _ (.cons_cons _ (.cons_cons _ (.cons_cons _ (.cons_cons _ .slnil))))))) ?_
     intro j q hi39
     obtain ⟨hj, hq⟩ := hi39
     refine hc_seq ?_
     refine hc_seq ?_
     refine hc_region ?_
     refine hl_v rfl rfl rfl (rv_ev rfl) ?_
     refine hl_v rfl rfl rfl (rv_field (k0 := 0) rfl (by kernel_rfl) rfl) ?_
     refine hl_v rfl rfl rfl (rv_field (k0 := 2) rfl (by kernel_rfl) rfl) ?_
     refine hl_v rfl rfl rfl (rv_load rfl (by kernel_rfl) rfl (box_cell 5 rfl rfl)) ?_
     refine hl_v rfl rfl rfl (rv_ev rfl) ?_
     refine hl_v rfl rfl rfl (rv_index (s := 2) rfl Try.underlying35 (by kernel_rfl) rfl rfl (rd_old ((hr).n.lt.row)) (by omega) (by first | omega | (simp only [List.length_set]; omega))) ?_
     refine hl_v rfl rfl rfl (rv_fieldEl (k0 := 0) rfl (by kernel_rfl) rfl (rd_old ((hr).n.lt.row)) (by first | omega | (simp only [List.length_set]; omega))) ?_
     refine hl_v rfl rfl rfl (rv_loadEl (u := (x.n.ls.getD i lt0).iv) rfl (by kernel_rfl) rfl (rd_old ((hr).n.lt.row)) ((flat_at ltC 2 (fun _ => rfl) x.n.ls lt0 (show i < _ by first | omega | (simp only [List.length_set]; omega)) (by decide)).trans rfl)) ?_
     refine hl_v rfl rfl rfl (rv_len rfl Try.underlying24 rfl (rd_old ((hr).n.lt.at (d := lt0) (k := i) (by omega)))) ?_
     refine hl_lss rfl rfl rfl rfl rfl rfl (fun h40 => ?_) (fun h40 => ?_)
     ·
      refine hl_less (sx 0 rfl (sx 1 rfl (sx 2 rfl (sx 4 rfl (sx 5 rfl (sx 6 rfl (sx 7 rfl (sx 8 rfl (sx 9 rfl (sx 10 rfl (sx 11 rfl (sx 12 rfl (sx 13 rfl (sx 14 rfl (sx 15 rfl (sx 35 rfl (sx 41 rfl (sx 73 rfl (sx 79 rfl (sx 89 rfl (sub_nil _))))))))))))))))))))) (.refl _) ?_
      refine hl_nil ?_
      refine hq_then ?_
      refine hc_true rfl ?_
      refine hc_skip ?_
      refine hq_then ?_
      refine hc_seq ?_
      refine hc_block ?_
      refine hc_seq ?_
      refine hc_region ?_
      refine hl_v rfl rfl rfl (rv_field (k0 := 0) rfl (by kernel_rfl) rfl) ?_
      refine hl_v rfl rfl rfl (rv_field (k0 := 2) rfl (by kernel_rfl) rfl) ?_
      refine hl_v rfl rfl rfl (rv_load rfl (by kernel_rfl) rfl (box_cell 5 rfl rfl)) ?_
      refine hl_v rfl rfl rfl (rv_ev rfl) ?_
      refine hl_v rfl rfl rfl (rv_index (s := 2) rfl Try.underlying35 (by kernel_rfl) rfl rfl (rd_old ((hr).n.lt.row)) (by omega) (by first | omega | (simp only [List.length_set]; omega))) ?_
      refine hl_v rfl rfl rfl (rv_fieldEl (k0 := 0) rfl (by kernel_rfl) rfl (rd_old ((hr).n.lt.row)) (by first | omega | (simp only [List.length_set]; omega))) ?_
      refine hl_v rfl rfl rfl (rv_loadEl (u := (x.n.ls.getD i lt0).iv) rfl (by kernel_rfl) rfl (rd_old ((hr).n.lt.row)) ((flat_at ltC 2 (fun _ => rfl) x.n.ls lt0 (show i < _ by first | omega | (simp only [List.length_set]; omega)) (by decide)).trans rfl)) ?_
      refine hl_v rfl rfl rfl (rv_ev rfl) ?_
      refine hl_v rfl rfl rfl (rv_index (s := 1) rfl Try.underlying24 (by kernel_rfl) rfl rfl (rd_old ((hr).n.lt.at (d := lt0) (k := i) (by omega))) (by omega) (by first | omega | (simp only [List.length_set]; omega))) ?_
      refine hl_v rfl rfl rfl (rv_loadEl (u := .int .i64 (((x.n.ls.getD i lt0).xs).getD j 0)) rfl (by kernel_rfl) rfl (rd_old ((hr).n.lt.at (d := lt0) (k := i) (by omega))) (ints_at1 (show _ < ((x.n.ls.getD i lt0).xs).length by first | omega | (simp only [List.length_set]; omega)))) ?_
      refine hl_v rfl rfl rfl (rv_ev rfl) ?_
      refine hl_less (sx 0 rfl (sx 1 rfl (sx 2 rfl (sx 4 rfl (sx 5 rfl (sx 6 rfl (sx 7 rfl (sx 8 rfl (sx 9 rfl (sx 10 rfl (sx 11 rfl (sx 12 rfl (sx 13 rfl (sx 14 rfl (sx 15 rfl (sx 16 rfl (sx 35 rfl (sx 41 rfl (sx 73 rfl (sx 79 rfl (sx 89 rfl (sub_nil _)))))))))))))))))))))) (.refl _) ?_
      refine hl_nil ?_
      refine hq_then ?_
      have hns := hlt9.1.2 j (by omega)
      have hdj := (hok.dl i hil).2 j (by omega)
      have hbk : (lin x (wvsL x a.toNat m) i (t : Int)) j = 0 ∨ (lin x (wvsL x a.toNat m) i (t : Int)) j = 1 := lin01 hok (by omega) hmi (by omega) j (by omega)
      have hal : ∀ z, z < j → (lin x (wvsL x a.toNat m) i (t : Int)) z = 0 ∨ (lin x (wvsL x a.toNat m) i (t : Int)) z = 1 := fun z hz => lin01 hok (by omega) hmi (by omega) z (by omega)
      have hpr := pk16 (b := (lin x (wvsL x a.toNat m) i (t : Int))) (k := j) hal (by omega)
      have hpw := pow4 (k := j) (by omega)
      have hpw0 : (0 : Int) < 2 ^ j := Int.pow_pos (by decide)
      refine hc_draw (by kernel_rfl) 24 [0, 1, 2, 3, 4, 5, 6, 7, 8, 9, 10, 11, 12, 13, 14, 15, 16, 17, 18, 19, 20, 21, 22, 23] (List.take 24 _) (List.drop 24 _) [[], [], [], [1, 2], [3], [], [], [5, 6], [7], [], [], [10], [11], [], [12, 13], [14], [], [15, 16], [17], [9, 18], [4, 8, 19], [], [20, 21], [0, 22]] [102, 103, 104, 105, 106, 107, 108, 109, 110, 111, 112, 113, 114, 115, 116, 117, 118, 119, 120, 121, 122, 123, 124, 125] (fun i_ vs_ v_ p_ => match i_ with | 0 => v_ = .int .i64 q ∧ p_ = [] | 1 => v_ = u ∧ p_ = [] | 2 => v_ = .int .i64 (((x.n.ls.getD i lt0).xs).getD j 0) ∧ p_ = [] | 3 => v_ = elP u ((((x.n.ls.getD i lt0).xs).getD j 0).toNat * 1) ∧ p_ = [] | 4 => v_ = (es.getD ((((x.n.ls.getD i lt0).xs).getD j 0).toNat) ir0).v ∧ p_ = [] | 5 => v_ = v2 ∧ p_ = [] | 6 => v_ = .int .i64 (((x.n.ls.getD i lt0).xs).getD j 0) ∧ p_ = [] | 7 => v_ = elP v2 ((((x.n.ls.getD i lt0).xs).getD j 0).toNat * 1) ∧ p_ = [] | 8 => v_ = .int .i64 ((valT x.n x.ao x.oi).getD ((((x.n.ls.getD i lt0).xs).getD j 0).toNat) 0) ∧ p_ = [] | 9 => v_ = .int .i64 (t : Int) ∧ p_ = [] | 10 => v_ = .pointer (some ⟨b1, 0 + 4, none⟩) ∧ p_ = [] | 11 => v_ = .pointer (some ⟨b1, 0 + 4 + 0, none⟩) ∧ p_ = [] | 12 => v_ = x.pv ∧ p_ = [] | 13 => v_ = .int .i64 (i : Int) ∧ p_ = [] | 14 => v_ = elP x.pv (((i : Int)).toNat * 1) ∧ p_ = [] | 15 => v_ = (x.dl.getD i ir0).v ∧ p_ = [] | 16 => v_ = .int .i64 (j : Int) ∧ p_ = [] | 17 => v_ = elP ((x.dl.getD i ir0).v) (((j : Int)).toNat * 1) ∧ p_ = [] | 18 => v_ = .int .i64 (((x.dl.getD i ir0).xs).getD j 0) ∧ p_ = [] | 19 => v_ = .int .i64 ((t : Int) - (((x.dl.getD i ir0).xs).getD j 0)) ∧ p_ = [] | 20 => v_ = .int .i64 ((lin x (wvsL x a.toNat m) i (t : Int)) j) ∧ p_ = [] | 21 => v_ = .int .i64 (j : Int) ∧ p_ = [] | 22 => v_ = .int .i64 ((lin x (wvsL x a.toNat m) i (t : Int)) j * 2 ^ j) ∧ p_ = [] | 23 => v_ = .int .i64 (q + ((lin x (wvsL x a.toNat m) i (t : Int)) j * 2 ^ j)) ∧ p_ = [] | _ => True) (List.take_append_drop 24 _).symm (by kernel_rfl) (by kernel_rfl) rfl rfl ?_ ?_
      ·
       refine ⟨?_, ?_, ?_, ?_, ?_, ?_, ?_, ?_, ?_, ?_, ?_, ?_, ?_, ?_, ?_, ?_, ?_, ?_, ?_, ?_, ?_, ?_, ?_, ?_, trivial⟩
       ·
        intro vf pf hR
        refine Or.inl ⟨rfl, ?_⟩
        refine rq_less (sx 14 rfl (sub_nil _)) (List.sublist_append_right _ _) ?_
        exact rq_v (rv_ev rfl)
       ·
        intro vf pf hR
        refine Or.inl ⟨rfl, ?_⟩
        refine rq_less (sx 7 rfl (sub_nil _)) (List.sublist_append_right _ _) ?_
        exact rq_v (rv_ev rfl)
       ·
        intro vf pf hR
        refine Or.inl ⟨rfl, ?_⟩
        refine rq_less (sx 16 rfl (sub_nil _)) (List.sublist_append_right _ _) ?_
        exact rq_v (rv_ev rfl)
       ·
        intro vf pf hR
        have e1 : (vf 1) = u ∧ (pf 1) = [] := hR 1 (by decide)
        have e2 : (vf 2) = .int .i64 (((x.n.ls.getD i lt0).xs).getD j 0) ∧ (pf 2) = [] := hR 2 (by decide)
        refine Or.inl ⟨rfl, ?_⟩
        refine rq_less (sx 103 (congrArg some e1.1) (sx 104 (congrArg some e2.1) (sub_nil _))) (List.sublist_append_right _ _) ?_
        exact rq_v (rv_index (s := 1) rfl Try.underlying27 (by kernel_rfl) rfl rfl (rd_row 2 rfl) (by omega) (by first | omega | (simp only [List.length_set]; omega)))
       ·
        intro vf pf hR
        have e3 : (vf 3) = elP u ((((x.n.ls.getD i lt0).xs).getD j 0).toNat * 1) ∧ (pf 3) = [] := hR 3 (by decide)
        refine Or.inl ⟨rfl, ?_⟩
        refine rq_less (sx 105 (congrArg some e3.1) (sub_nil _)) (List.sublist_append_right _ _) ?_
        exact rq_v (rv_loadEl (u := (es.getD ((((x.n.ls.getD i lt0).xs).getD j 0).toNat) ir0).v) rfl (by kernel_rfl) rfl (rd_row 2 rfl) (flat_one irC (fun r => r.v) (fun _ => rfl) es ir0 (show (((x.n.ls.getD i lt0).xs).getD j 0).toNat < _ by first | omega | (simp only [List.length_set]; omega))))
       ·
        intro vf pf hR
        refine Or.inl ⟨rfl, ?_⟩
        refine rq_less (sx 5 rfl (sub_nil _)) (List.sublist_append_right _ _) ?_
        exact rq_v (rv_ev rfl)
       ·
        intro vf pf hR
        refine Or.inl ⟨rfl, ?_⟩
        refine rq_less (sx 16 rfl (sub_nil _)) (List.sublist_append_right _ _) ?_
        exact rq_v (rv_ev rfl)
       ·
        intro vf pf hR
        have e5 : (vf 5) = v2 ∧ (pf 5) = [] := hR 5 (by decide)
        have e6 : (vf 6) = .int .i64 (((x.n.ls.getD i lt0).xs).getD j 0) ∧ (pf 6) = [] := hR 6 (by decide)
        refine Or.inl ⟨rfl, ?_⟩
        refine rq_less (sx 107 (congrArg some e5.1) (sx 108 (congrArg some e6.1) (sub_nil _))) (List.sublist_append_right _ _) ?_
        exact rq_v (rv_index (s := 1) rfl Try.underlying24 (by kernel_rfl) rfl rfl (rd_row 4 rfl) (by omega) (by first | omega | (simp only [List.length_set]; omega)))
       ·
        intro vf pf hR
        have e7 : (vf 7) = elP v2 ((((x.n.ls.getD i lt0).xs).getD j 0).toNat * 1) ∧ (pf 7) = [] := hR 7 (by decide)
        refine Or.inl ⟨rfl, ?_⟩
        refine rq_less (sx 109 (congrArg some e7.1) (sub_nil _)) (List.sublist_append_right _ _) ?_
        exact rq_v (rv_loadEl (u := .int .i64 ((valT x.n x.ao x.oi).getD ((((x.n.ls.getD i lt0).xs).getD j 0).toNat) 0)) rfl (by kernel_rfl) rfl (rd_row 4 rfl) (ints_at1 (show _ < (valT x.n x.ao x.oi).length by first | omega | (simp only [List.length_set]; omega))))
       ·
        intro vf pf hR
        refine Or.inl ⟨rfl, ?_⟩
        refine rq_less (sx 10 rfl (sub_nil _)) (List.sublist_append_right _ _) ?_
        exact rq_v (rv_ev rfl)
       ·
        intro vf pf hR
        refine Or.inl ⟨rfl, ?_⟩
        refine rq_less (sx 2 rfl (sub_nil _)) (List.sublist_append_right _ _) ?_
        exact rq_v (rv_field (k0 := 4) rfl (by kernel_rfl) rfl)
       ·
        intro vf pf hR
        have e10 : (vf 10) = .pointer (some ⟨b1, 0 + 4, none⟩) ∧ (pf 10) = [] := hR 10 (by decide)
        refine Or.inl ⟨rfl, ?_⟩
        refine rq_less (sx 112 (congrArg some e10.1) (sub_nil _)) (List.sublist_append_right _ _) ?_
        exact rq_v (rv_field (k0 := 0) rfl (by kernel_rfl) rfl)
       ·
        intro vf pf hR
        have e11 : (vf 11) = .pointer (some ⟨b1, 0 + 4 + 0, none⟩) ∧ (pf 11) = [] := hR 11 (by decide)
        refine Or.inl ⟨rfl, ?_⟩
        refine rq_less (sx 113 (congrArg some e11.1) (sub_nil _)) (List.sublist_append_right _ _) ?_
        exact rq_v (rv_load rfl (by kernel_rfl) rfl (box_cell 5 rfl rfl))
       ·
        intro vf pf hR
        refine Or.inl ⟨rfl, ?_⟩
        refine rq_less (sx 13 rfl (sub_nil _)) (List.sublist_append_right _ _) ?_
        exact rq_v (rv_ev rfl)
       ·
        intro vf pf hR
        have e12 : (vf 12) = x.pv ∧ (pf 12) = [] := hR 12 (by decide)
        have e13 : (vf 13) = .int .i64 (i : Int) ∧ (pf 13) = [] := hR 13 (by decide)
        refine Or.inl ⟨rfl, ?_⟩
        refine rq_less (sx 114 (congrArg some e12.1) (sx 115 (congrArg some e13.1) (sub_nil _))) (List.sublist_append_right _ _) ?_
        exact rq_v (rv_index (s := 1) rfl Try.underlying27 (by kernel_rfl) rfl rfl (rd_old ((hr).dl.row)) (by omega) (by first | omega | (simp only [List.length_set]; omega)))
       ·
        intro vf pf hR
        have e14 : (vf 14) = elP x.pv (((i : Int)).toNat * 1) ∧ (pf 14) = [] := hR 14 (by decide)
        refine Or.inl ⟨rfl, ?_⟩
        refine rq_less (sx 116 (congrArg some e14.1) (sub_nil _)) (List.sublist_append_right _ _) ?_
        exact rq_v (rv_loadEl (u := (x.dl.getD i ir0).v) rfl (by kernel_rfl) rfl (rd_old ((hr).dl.row)) (flat_one irC (fun r => r.v) (fun _ => rfl) x.dl ir0 (show i < _ by first | omega | (simp only [List.length_set]; omega))))
       ·
        intro vf pf hR
        refine Or.inl ⟨rfl, ?_⟩
        refine rq_less (sx 15 rfl (sub_nil _)) (List.sublist_append_right _ _) ?_
        exact rq_v (rv_ev rfl)
       ·
        intro vf pf hR
        have e15 : (vf 15) = (x.dl.getD i ir0).v ∧ (pf 15) = [] := hR 15 (by decide)
        have e16 : (vf 16) = .int .i64 (j : Int) ∧ (pf 16) = [] := hR 16 (by decide)
        refine Or.inl ⟨rfl, ?_⟩
        refine rq_less (sx 117 (congrArg some e15.1) (sx 118 (congrArg some e16.1) (sub_nil _))) (List.sublist_append_right _ _) ?_
        exact rq_v (rv_index (s := 1) rfl Try.underlying24 (by kernel_rfl) rfl rfl (rd_old ((hr).dl.at (d := ir0) (k := i) (by omega))) (by omega) (by first | omega | (simp only [List.length_set]; omega)))
       ·
        intro vf pf hR
        have e17 : (vf 17) = elP ((x.dl.getD i ir0).v) (((j : Int)).toNat * 1) ∧ (pf 17) = [] := hR 17 (by decide)
        refine Or.inl ⟨rfl, ?_⟩
        refine rq_less (sx 119 (congrArg some e17.1) (sub_nil _)) (List.sublist_append_right _ _) ?_
        exact rq_v (rv_loadEl (u := .int .i64 (((x.dl.getD i ir0).xs).getD j 0)) rfl (by kernel_rfl) rfl (rd_old ((hr).dl.at (d := ir0) (k := i) (by omega))) (ints_at1 (show _ < ((x.dl.getD i ir0).xs).length by first | omega | (simp only [List.length_set]; omega))))
       ·
        intro vf pf hR
        have e9 : (vf 9) = .int .i64 (t : Int) ∧ (pf 9) = [] := hR 9 (by decide)
        have e18 : (vf 18) = .int .i64 (((x.dl.getD i ir0).xs).getD j 0) ∧ (pf 18) = [] := hR 18 (by decide)
        refine Or.inl ⟨rfl, ?_⟩
        refine rq_less (sx 111 (congrArg some e9.1) (sx 120 (congrArg some e18.1) (sub_nil _))) (List.sublist_append_right _ _) ?_
        exact rq_v (rv_sub rfl rfl rfl (by constructor <;> omega))
       ·
        intro vf pf hR
        have e4 : (vf 4) = (es.getD ((((x.n.ls.getD i lt0).xs).getD j 0).toNat) ir0).v ∧ (pf 4) = [] := hR 4 (by decide)
        have e8 : (vf 8) = .int .i64 ((valT x.n x.ao x.oi).getD ((((x.n.ls.getD i lt0).xs).getD j 0).toNat) 0) ∧ (pf 8) = [] := hR 8 (by decide)
        have e19 : (vf 19) = .int .i64 ((t : Int) - (((x.dl.getD i ir0).xs).getD j 0)) ∧ (pf 19) = [] := hR 19 (by decide)
        refine Or.inl ⟨rfl, ?_⟩
        refine rq_less (sx 106 (congrArg some e4.1) (sx 110 (congrArg some e8.1) (sx 121 (congrArg some e19.1) (sub_nil _)))) (List.sublist_append_right _ _) ?_
        exact (rq_call (by kernel_rfl) rfl (fun w hm => ret_ans (l37At_lin w (rdsIr_sep hm 1 2 rfl rfl) hw rfl rfl rfl (by omega) (by omega))))
       ·
        intro vf pf hR
        refine Or.inl ⟨rfl, ?_⟩
        refine rq_less (sx 15 rfl (sub_nil _)) (List.sublist_append_right _ _) ?_
        exact rq_v (rv_ev rfl)
       ·
        intro vf pf hR
        have e20 : (vf 20) = .int .i64 ((lin x (wvsL x a.toNat m) i (t : Int)) j) ∧ (pf 20) = [] := hR 20 (by decide)
        have e21 : (vf 21) = .int .i64 (j : Int) ∧ (pf 21) = [] := hR 21 (by decide)
        refine Or.inl ⟨rfl, ?_⟩
        refine rq_less (sx 122 (congrArg some e20.1) (sx 123 (congrArg some e21.1) (sub_nil _))) (List.sublist_append_right _ _) ?_
        exact rq_v (rv_shlG (k := .i64) (kk := .i64) (r := (lin x (wvsL x a.toNat m) i (t : Int)) j * 2 ^ j) rfl rfl rfl rfl (by omega) (shl_pk hbk (by omega)))
       ·
        intro vf pf hR
        have e0 : (vf 0) = .int .i64 q ∧ (pf 0) = [] := hR 0 (by decide)
        have e22 : (vf 22) = .int .i64 ((lin x (wvsL x a.toNat m) i (t : Int)) j * 2 ^ j) ∧ (pf 22) = [] := hR 22 (by decide)
        refine Or.inl ⟨rfl, ?_⟩
        refine rq_less (sx 102 (congrArg some e0.1) (sx 124 (congrArg some e22.1) (sub_nil _))) (List.sublist_append_right _ _) ?_
        exact rq_v (rv_add rfl rfl rfl (by rw [hq]; constructor <;> (rcases hbk with e | e <;> rw [e] <;> omega)))
      ·
       intro vf pf hR
       have e23 : (vf 23) = .int .i64 (q + ((lin x (wvsL x a.toNat m) i (t : Int)) j * 2 ^ j)) ∧ (pf 23) = [] := hR 23 (by decide)
       refine hl_less (l' := [rowE 3 1 u2 zs.length (zs.map (Value.int .i64)), bigE (es.map irPart), rowE 24 1 u es.length (es.flatMap irC), rowE 3 1 v5 ((valT x.n x.bs x.ni).length) ((valT x.n x.bs x.ni).map (Value.int .i64)), rowE 3 1 v2 ((valT x.n x.ao x.oi).length) ((valT x.n x.ao x.oi).map (Value.int .i64)), boxE b1 #[.int .i64 x.n.ins, x.n.sv, x.n.lv, x.n.ov, x.pv, x.qv, x.kv, x.av, x.bv, .int .i64 x.oi, .int .i64 x.ni] 40]) (sx 0 rfl (sx 1 rfl (sx 2 rfl (sx 4 rfl (sx 5 rfl (sx 6 rfl (sx 7 rfl (sx 8 rfl (sx 9 rfl (sx 10 rfl (sx 11 rfl (sx 12 rfl (sx 13 rfl (sx 14 rfl (sx 15 rfl (sx 16 rfl (sx 35 rfl (sx 41 rfl (sx 73 rfl (sx 79 rfl (sx 89 rfl (sx 125 (congrArg some e23.1) (sub_nil _))))))))))))))))))))))) (List.sublist_append_right _ _) ?_
       simp only [List.drop_succ_cons, List.drop_zero]
       refine hl_v rfl rfl rfl (rv_ev rfl) ?_
       refine hl_less (sx 0 rfl (sx 1 rfl (sx 2 rfl (sx 4 rfl (sx 5 rfl (sx 6 rfl (sx 7 rfl (sx 8 rfl (sx 9 rfl (sx 10 rfl (sx 11 rfl (sx 12 rfl (sx 13 rfl (sx 14 rfl (sx 15 rfl (sx 16 rfl (sx 35 rfl (sx 41 rfl (sx 73 rfl (sx 79 rfl (sx 89 rfl (sub_nil _)))))))))))))))))))))) (.refl _) ?_
       refine hl_nil ?_
       refine hq_block_normal ?_
       refine hq_then ?_
       refine hc_region ?_
       refine hl_v rfl rfl rfl (rv_ev rfl) ?_
       refine hl_v rfl rfl rfl (rv_add rfl rfl rfl (by constructor <;> omega)) ?_
       refine hl_v rfl rfl rfl (rv_ev rfl) ?_
       refine hl_less (sx 0 rfl (sx 1 rfl (sx 2 rfl (sx 4 rfl (sx 5 rfl (sx 6 rfl (sx 7 rfl (sx 8 rfl (sx 9 rfl (sx 10 rfl (sx 11 rfl (sx 12 rfl (sx 13 rfl (sx 14 rfl (sx 15 rfl (sx 16 rfl (sx 35 rfl (sx 41 rfl (sx 73 rfl (sx 79 rfl (sx 89 rfl (sub_nil _)))))))))))))))))))))) (.refl _) ?_
       refine hl_nil ?_
       exact hq_round2 (j + 1) _ ⟨by omega, by first | rfl | (rw [hq]; rfl)⟩ (by omega) (sx 0 rfl (sx 1 rfl (sx 2 rfl (sx 4 rfl (sx 5 rfl (sx 6 rfl (sx 7 rfl (sx 8 rfl (sx 9 rfl (sx 10 rfl (sx 11 rfl (sx 12 rfl (sx 13 rfl (sx 14 rfl (sx 15 rfl (sx 35 rfl (sx 41 rfl (sx 73 rfl (sx 79 rfl (sub_nil _)))))))))))))))))))) ((.cons_cons _ (.cons_cons _ (.cons_cons _ (.cons_cons _ (.cons_cons _ (.cons_cons _ .slnil)))))))
     ·
      refine hl_less (sx 0 rfl (sx 1 rfl (sx 2 rfl (sx 4 rfl (sx 5 rfl (sx 6 rfl (sx 7 rfl (sx 8 rfl (sx 9 rfl (sx 10 rfl (sx 11 rfl (sx 12 rfl (sx 13 rfl (sx 14 rfl (sx 15 rfl (sx 35 rfl (sx 41 rfl (sx 73 rfl (sx 79 rfl (sx 89 rfl (sub_nil _))))))))))))))))))))) (.refl _) ?_
      refine hl_nil ?_
      refine hq_then ?_
      refine hc_false rfl ?_
      refine hc_exit ?_
      refine hq_then_exit ?_
      refine hq_then_exit ?_
      refine hq_block_exit ?_
      refine hq_then ?_
      refine hc_region ?_
      have hal : ∀ z, z < j → (lin x (wvsL x a.toNat m) i (t : Int)) z = 0 ∨ (lin x (wvsL x a.toNat m) i (t : Int)) z = 1 := fun z hz => lin01 hok (by omega) hmi (by omega) z (by omega)
      have hpr := pk16 (b := (lin x (wvsL x a.toNat m) i (t : Int))) (k := j) hal (by omega)
      refine hl_v rfl rfl rfl (rv_field (k0 := 0) rfl (by kernel_rfl) rfl) ?_
      refine hl_v rfl rfl rfl (rv_field (k0 := 2) rfl (by kernel_rfl) rfl) ?_
      refine hl_v rfl rfl rfl (rv_load rfl (by kernel_rfl) rfl (box_cell 5 rfl rfl)) ?_
      refine hl_v rfl rfl rfl (rv_ev rfl) ?_
      refine hl_v rfl rfl rfl (rv_index (s := 2) rfl Try.underlying35 (by kernel_rfl) rfl rfl (rd_old ((hr).n.lt.row)) (by omega) (by first | omega | (simp only [List.length_set]; omega))) ?_
      refine hl_v rfl rfl rfl (rv_fieldEl (k0 := 1) rfl (by kernel_rfl) rfl (rd_old ((hr).n.lt.row)) (by first | omega | (simp only [List.length_set]; omega))) ?_
      refine hl_v rfl rfl rfl (rv_loadEl (u := .int .i64 ((x.n.ls.getD i lt0).ma)) rfl (by kernel_rfl) rfl (rd_old ((hr).n.lt.row)) ((flat_at ltC 2 (fun _ => rfl) x.n.ls lt0 (show i < _ by first | omega | (simp only [List.length_set]; omega)) (by decide)).trans rfl)) ?_
      refine hl_v rfl rfl rfl (rv_ev rfl) ?_
      refine hl_v rfl rfl rfl (rv_shr rfl rfl rfl (by omega)) ?_
      refine hl_v rfl rfl rfl (rv_bits rfl (by decide) rfl rfl (r := (((x.n.ls.getD i lt0).ma) / 2 ^ (q : Int).toNat) % 2) (andOne _)) ?_
      refine hl_v rfl rfl rfl (rv_ev rfl) ?_
      refine hl_less (sx 0 rfl (sx 1 rfl (sx 2 rfl (sx 4 rfl (sx 5 rfl (sx 6 rfl (sx 7 rfl (sx 8 rfl (sx 9 rfl (sx 10 rfl (sx 11 rfl (sx 12 rfl (sx 13 rfl (sx 14 rfl (sx 15 rfl (sx 35 rfl (sx 41 rfl (sx 73 rfl (sx 79 rfl (sx 89 rfl (sub_nil _))))))))))))))))))))) (.refl _) ?_
      refine hl_nil ?_
      refine hq_then ?_
      refine hc_region ?_
      refine hl_v rfl rfl rfl (rv_ev rfl) ?_
      refine hl_v rfl rfl rfl (rv_ev rfl) ?_
      refine hl_row rfl rfl rfl (rq_buildSlice (z := .int .i64 0) (s := 1) (cs := ([(((x.n.ls.getD i lt0).ma) / 2 ^ (q : Int).toNat) % 2].map (Value.int .i64))) rfl Try.underlying24 (by kernel_rfl) (by decide) rfl (by kernel_rfl) rfl) ?_
      intro g41
      refine hl_append (i := 1) (z := .int .i64 0) (bytes := 8) (n' := (zs ++ ([(((x.n.ls.getD i lt0).ma) / 2 ^ (q : Int).toNat) % 2])).length) (xs' := ((zs ++ ([(((x.n.ls.getD i lt0).ma) / 2 ^ (q : Int).toNat) % 2])).map (Value.int .i64))) (L := fun v42 => [rowE 3 1 (.slice (some ⟨g41, 0, none⟩) 1 1) 1 ([(((x.n.ls.getD i lt0).ma) / 2 ^ (q : Int).toNat) % 2].map (Value.int .i64)), rowE 3 1 v42 ((zs ++ ([(((x.n.ls.getD i lt0).ma) / 2 ^ (q : Int).toNat) % 2])).length) ((zs ++ ([(((x.n.ls.getD i lt0).ma) / 2 ^ (q : Int).toNat) % 2])).map (Value.int .i64)), bigE (es.map irPart), rowE 24 1 u es.length (es.flatMap irC), rowE 3 1 v5 ((valT x.n x.bs x.ni).length) ((valT x.n x.bs x.ni).map (Value.int .i64)), rowE 3 1 v2 ((valT x.n x.ao x.oi).length) ((valT x.n x.ao x.oi).map (Value.int .i64)), boxE b1 #[.int .i64 x.n.ins, x.n.sv, x.n.lv, x.n.ov, x.pv, x.qv, x.kv, x.av, x.bv, .int .i64 x.oi, .int .i64 x.ni] 40]) rfl rfl rfl rfl Try.underlying24 (by kernel_rfl) (by kernel_rfl) rfl rfl rfl (rd_row 0 rfl) (ints_one _) (by first | omega | (simp; omega)) (len_app zs ([(((x.n.ls.getD i lt0).ma) / 2 ^ (q : Int).toNat) % 2])) (ints_app zs ([(((x.n.ls.getD i lt0).ma) / 2 ^ (q : Int).toNat) % 2])) (fun _ => rfl) ?_
      intro v42
      refine hl_v rfl rfl rfl (rv_ev rfl) ?_
      refine hl_less (sx 0 rfl (sx 1 rfl (sx 2 rfl (sx 4 rfl (sx 5 rfl (sx 6 rfl (sx 7 rfl (sx 8 rfl (sx 9 rfl (sx 10 rfl (sx 11 rfl (sx 12 rfl (sx 13 rfl (sx 14 rfl (sx 15 rfl (sx 35 rfl (sx 41 rfl (sx 73 rfl (sx 79 rfl (sx 89 rfl (sub_nil _))))))))))))))))))))) (.refl _) ?_
      refine hl_nil ?_
      refine hq_block_normal ?_
      refine hq_then ?_
      refine hc_region ?_
      refine hl_v rfl rfl rfl (rv_ev rfl) ?_
      refine hl_v rfl rfl rfl (rv_add rfl rfl rfl (by constructor <;> omega)) ?_
      refine hl_v rfl rfl rfl (rv_ev rfl) ?_
      refine hl_less (sx 0 rfl (sx 1 rfl (sx 2 rfl (sx 4 rfl (sx 5 rfl (sx 6 rfl (sx 7 rfl (sx 8 rfl (sx 9 rfl (sx 10 rfl (sx 11 rfl (sx 12 rfl (sx 13 rfl (sx 14 rfl (sx 15 rfl (sx 35 rfl (sx 41 rfl (sx 73 rfl (sx 79 rfl (sx 89 rfl (sub_nil _))))))))))))))))))))) (.refl _) ?_
      refine hl_nil ?_
      have hv9 : (((x.n.ls.getD i lt0).ma) / 2 ^ (q : Int).toNat) % 2 = wvV x (wvsL x a.toNat m) m (t : Int) := by rw [wv_lut x _ _ hmi]; unfold lutV; rw [hq, show j = (x.n.ls.getD i lt0).xs.length by omega]
      exact hq_round3 (t + 1) v42 (zs ++ ([(((x.n.ls.getD i lt0).ma) / 2 ^ (q : Int).toNat) % 2])) ⟨by omega, by rw [hv9, hz]; exact rowW_succ _ _ _ _⟩ (by omega) (sx 0 rfl (sx 1 rfl (sx 2 rfl (sx 4 rfl (sx 5 rfl (sx 6 rfl (sx 7 rfl (sx 8 rfl (sx 9 rfl (sx 10 rfl (sx 35 rfl (sub_nil _)))))))))))) ((.cons _ (.cons_cons _ (.cons_cons _ (.cons_cons _ (.cons_cons _ (.cons_cons _ (.cons_cons _ .slnil))))))))
    ·
     refine hl_less (sx 0 rfl (sx 1 rfl (sx 2 rfl (sx 4 rfl (sx 5 rfl (sx 6 rfl (sx 7 rfl (sx 8 rfl (sx 9 rfl (sx 10 rfl (sx 11 rfl (sx 12 rfl (sx 13 rfl (sx 35 rfl (sx 41 rfl (sx 73 rfl (sx 79 rfl (sub_nil _)))))))))))))))))) (.refl _) ?_
     refine hl_nil ?_
     refine hq_then ?_
     refine hc_false rfl ?_
     refine hc_skip ?_
     refine hq_then ?_
     refine hc_region ?_
     refine hl_v rfl rfl rfl (rv_ev rfl) ?_
     refine hl_v rfl rfl rfl (rv_ev rfl) ?_
     refine hl_row rfl rfl rfl (rq_buildSlice (z := .int .i64 0) (s := 1) (cs := ([(valT x.n x.bs x.ni).getD m 0].map (Value.int .i64))) rfl Try.underlying24 (by kernel_rfl) (by decide) rfl (by kernel_rfl) rfl) ?_
     intro g43
     refine hl_append (i := 1) (z := .int .i64 0) (bytes := 8) (n' := (zs ++ ([(valT x.n x.bs x.ni).getD m 0])).length) (xs' := ((zs ++ ([(valT x.n x.bs x.ni).getD m 0])).map (Value.int .i64))) (L := fun v44 => [rowE 3 1 (.slice (some ⟨g43, 0, none⟩) 1 1) 1 ([(valT x.n x.bs x.ni).getD m 0].map (Value.int .i64)), rowE 3 1 v44 ((zs ++ ([(valT x.n x.bs x.ni).getD m 0])).length) ((zs ++ ([(valT x.n x.bs x.ni).getD m 0])).map (Value.int .i64)), bigE (es.map irPart), rowE 24 1 u es.length (es.flatMap irC), rowE 3 1 v5 ((valT x.n x.bs x.ni).length) ((valT x.n x.bs x.ni).map (Value.int .i64)), rowE 3 1 v2 ((valT x.n x.ao x.oi).length) ((valT x.n x.ao x.oi).map (Value.int .i64)), boxE b1 #[.int .i64 x.n.ins, x.n.sv, x.n.lv, x.n.ov, x.pv, x.qv, x.kv, x.av, x.bv, .int .i64 x.oi, .int .i64 x.ni] 40]) rfl rfl rfl rfl Try.underlying24 (by kernel_rfl) (by kernel_rfl) rfl rfl rfl (rd_row 0 rfl) (ints_one _) (by first | omega | (simp; omega)) (len_app zs ([(valT x.n x.bs x.ni).getD m 0])) (ints_app zs ([(valT x.n x.bs x.ni).getD m 0])) (fun _ => rfl) ?_
     intro v44
     refine hl_v rfl rfl rfl (rv_ev rfl) ?_
     refine hl_less (sx 0 rfl (sx 1 rfl (sx 2 rfl (sx 4 rfl (sx 5 rfl (sx 6 rfl (sx 7 rfl (sx 8 rfl (sx 9 rfl (sx 10 rfl (sx 11 rfl (sx 12 rfl (sx 13 rfl (sx 35 rfl (sx 41 rfl (sx 73 rfl (sx 79 rfl (sub_nil _)))))))))))))))))) (.refl _) ?_
     refine hl_nil ?_
     refine hq_block_normal ?_
     refine hq_then ?_
     refine hc_region ?_
     refine hl_v rfl rfl rfl (rv_ev rfl) ?_
     refine hl_v rfl rfl rfl (rv_add rfl rfl rfl (by constructor <;> omega)) ?_
     refine hl_v rfl rfl rfl (rv_ev rfl) ?_
     refine hl_less (sx 0 rfl (sx 1 rfl (sx 2 rfl (sx 4 rfl (sx 5 rfl (sx 6 rfl (sx 7 rfl (sx 8 rfl (sx 9 rfl (sx 10 rfl (sx 11 rfl (sx 12 rfl (sx 13 rfl (sx 35 rfl (sx 41 rfl (sx 73 rfl (sx 79 rfl (sub_nil _)))))))))))))))))) (.refl _) ?_
     refine hl_nil ?_
     have hv9 : (valT x.n x.bs x.ni).getD m 0 = wvV x (wvsL x a.toNat m) m (t : Int) := by unfold wvV; rw [if_pos (by omega), if_neg (by omega)]
     exact hq_round3 (t + 1) v44 (zs ++ ([(valT x.n x.bs x.ni).getD m 0])) ⟨by omega, by rw [hv9, hz]; exact rowW_succ _ _ _ _⟩ (by omega) (sx 0 rfl (sx 1 rfl (sx 2 rfl (sx 4 rfl (sx 5 rfl (sx 6 rfl (sx 7 rfl (sx 8 rfl (sx 9 rfl (sx 10 rfl (sx 35 rfl (sub_nil _)))))))))))) ((.cons _ (.cons_cons _ (.cons_cons _ (.cons_cons _ (.cons_cons _ (.cons_cons _ (.cons_cons _ .slnil))))))))
  ·
   refine hl_less (sx 0 rfl (sx 1 rfl (sx 2 rfl (sx 4 rfl (sx 5 rfl (sx 6 rfl (sx 7 rfl (sx 8 rfl (sx 9 rfl (sx 10 rfl (sx 35 rfl (sx 41 rfl (sub_nil _))))))))))))) (.refl _) ?_
   refine hl_nil ?_
   refine hq_then ?_
   refine hc_false rfl ?_
   refine hc_exit ?_
   refine hq_then_exit ?_
   refine hq_then_exit ?_
   refine hq_block_exit ?_
   refine hq_then ?_
   refine hc_region ?_
   refine hl_v rfl rfl rfl (rv_ev rfl) ?_
   refine hl_v rfl rfl rfl (rv_ev rfl) ?_
   refine hl_one (i := 0) rfl (fun honeX => ?_)
   refine hl_row rfl rfl rfl (rq_buildSlice1 rfl Try.underlying27 (by kernel_rfl) rfl honeX) ?_
   intro g45
   refine hl_append (i := 3) (z := .slice none 0 0) (bytes := 24) (n' := (es ++ [IR.mk u2 zs]).length) (xs' := ((es ++ [IR.mk u2 zs]).flatMap irC)) (L := fun v46 => [rowE 24 1 (.slice (some ⟨g45, 0, none⟩) 1 1) 1 ([u2]), rowE 3 1 u2 zs.length (zs.map (Value.int .i64)), bigE (es.map irPart), rowE 24 1 v46 ((es ++ [IR.mk u2 zs]).length) ((es ++ [IR.mk u2 zs]).flatMap irC), rowE 3 1 v5 ((valT x.n x.bs x.ni).length) ((valT x.n x.bs x.ni).map (Value.int .i64)), rowE 3 1 v2 ((valT x.n x.ao x.oi).length) ((valT x.n x.ao x.oi).map (Value.int .i64)), boxE b1 #[.int .i64 x.n.ins, x.n.sv, x.n.lv, x.n.ov, x.pv, x.qv, x.kv, x.av, x.bv, .int .i64 x.oi, .int .i64 x.ni] 40]) rfl rfl rfl rfl Try.underlying27 (by kernel_rfl) (by kernel_rfl) rfl rfl rfl (rd_row 0 rfl) (all_cons honeX all_nil) (by first | omega | (simp only [List.length_append, List.length_cons, List.length_nil]; omega)) (len_app es [IR.mk u2 zs]) (flat_app1 irC es (IR.mk u2 zs) _ rfl) (fun _ => rfl) ?_
   intro v46
   refine hl_v rfl rfl rfl (rv_ev rfl) ?_
   refine hl_less (sx 0 rfl (sx 1 rfl (sx 2 rfl (sx 4 rfl (sx 5 rfl (sx 6 rfl (sx 7 rfl (sx 8 rfl (sx 9 rfl (sx 10 rfl (sx 35 rfl (sx 41 rfl (sub_nil _))))))))))))) (.refl _) ?_
   refine hl_nil ?_
   refine hq_block_normal ?_
   refine hq_then ?_
   refine hc_region ?_
   refine hl_v rfl rfl rfl (rv_ev rfl) ?_
   refine hl_v rfl rfl rfl (rv_add rfl rfl rfl (by constructor <;> omega)) ?_
   refine hl_v rfl rfl rfl (rv_ev rfl) ?_
   refine hl_less (sx 0 rfl (sx 1 rfl (sx 2 rfl (sx 4 rfl (sx 5 rfl (sx 6 rfl (sx 7 rfl (sx 8 rfl (sx 9 rfl (sx 10 rfl (sx 35 rfl (sx 41 rfl (sub_nil _))))))))))))) (.refl _) ?_
   refine hl_nil ?_
   refine hq_conv [rowE 3 1 u2 zs.length (zs.map (Value.int .i64)), bigE (es.map irPart), rowE 24 1 (.slice (some ⟨g45, 0, none⟩) 1 1) 1 ([u2]), rowE 24 1 v46 ((es ++ [IR.mk u2 zs]).length) ((es ++ [IR.mk u2 zs]).flatMap irC), rowE 3 1 v5 ((valT x.n x.bs x.ni).length) ((valT x.n x.bs x.ni).map (Value.int .i64)), rowE 3 1 v2 ((valT x.n x.ao x.oi).length) ((valT x.n x.ao x.oi).map (Value.int .i64)), boxE b1 #[.int .i64 x.n.ins, x.n.sv, x.n.lv, x.n.ov, x.pv, x.qv, x.kv, x.av, x.bv, .int .i64 x.oi, .int .i64 x.ni] 40] (conv_pick (src := [rowE 24 1 (.slice (some ⟨g45, 0, none⟩) 1 1) 1 ([u2]), rowE 3 1 u2 zs.length (zs.map (Value.int .i64)), bigE (es.map irPart), rowE 24 1 v46 ((es ++ [IR.mk u2 zs]).length) ((es ++ [IR.mk u2 zs]).flatMap irC), rowE 3 1 v5 ((valT x.n x.bs x.ni).length) ((valT x.n x.bs x.ni).map (Value.int .i64)), rowE 3 1 v2 ((valT x.n x.ao x.oi).length) ((valT x.n x.ao x.oi).map (Value.int .i64)), boxE b1 #[.int .i64 x.n.ins, x.n.sv, x.n.lv, x.n.ov, x.pv, x.qv, x.kv, x.av, x.bv, .int .i64 x.oi, .int .i64 x.ni] 40]) (dst := [rowE 3 1 u2 zs.length (zs.map (Value.int .i64)), bigE (es.map irPart), rowE 24 1 (.slice (some ⟨g45, 0, none⟩) 1 1) 1 ([u2]), rowE 24 1 v46 ((es ++ [IR.mk u2 zs]).length) ((es ++ [IR.mk u2 zs]).flatMap irC), rowE 3 1 v5 ((valT x.n x.bs x.ni).length) ((valT x.n x.bs x.ni).map (Value.int .i64)), rowE 3 1 v2 ((valT x.n x.ao x.oi).length) ((valT x.n x.ao x.oi).map (Value.int .i64)), boxE b1 #[.int .i64 x.n.ins, x.n.sv, x.n.lv, x.n.ov, x.pv, x.qv, x.kv, x.av, x.bv, .int .i64 x.oi, .int .i64 x.ni] 40]) (l := []) [1, 2, 0, 3, 4, 5, 6] (by decide) rfl) ?_
   refine hq_conv [bigE ((es ++ [IR.mk u2 zs]).map irPart), rowE 24 1 (.slice (some ⟨g45, 0, none⟩) 1 1) 1 ([u2]), rowE 24 1 v46 ((es ++ [IR.mk u2 zs]).length) ((es ++ [IR.mk u2 zs]).flatMap irC), rowE 3 1 v5 ((valT x.n x.bs x.ni).length) ((valT x.n x.bs x.ni).map (Value.int .i64)), rowE 3 1 v2 ((valT x.n x.ao x.oi).length) ((valT x.n x.ao x.oi).map (Value.int .i64)), boxE b1 #[.int .i64 x.n.ins, x.n.sv, x.n.lv, x.n.ov, x.pv, x.qv, x.kv, x.av, x.bv, .int .i64 x.oi, .int .i64 x.ni] 40] (conv_irSnoc (es := es) (e' := IR.mk u2 zs)) ?_
   exact hq_round3 (m + 1) v46 (es ++ [IR.mk u2 zs]) ⟨by omega, hw.snoc (by show zs = _; rw [hz, show t = a.toNat + 1 by omega])⟩ (by omega) (sx 0 rfl (sx 1 rfl (sx 2 rfl (sx 4 rfl (sx 5 rfl (sx 6 rfl (sx 7 rfl (sx 8 rfl (sub_nil _))))))))) ((.cons_cons _ (.cons _ (.cons_cons _ (.cons_cons _ (.cons_cons _ (.cons_cons _ .slnil)))))))
 ·
  refine hl_less (sx 0 rfl (sx 1 rfl (sx 2 rfl (sx 4 rfl (sx 5 rfl (sx 6 rfl (sx 7 rfl (sx 8 rfl (sx 35 rfl (sub_nil _)))))))))) (.refl _) ?_
  refine hl_nil ?_
  refine hq_then ?_
  refine hc_false rfl ?_
  refine hc_exit ?_
  refine hq_then_exit ?_
  refine hq_then_exit ?_
  refine hq_block_exit ?_
  refine hq_then ?_
  refine hc_seq ?_
  refine hc_region ?_
  refine hl_v rfl rfl rfl (rv_ev rfl) ?_
  refine hl_v rfl rfl rfl (rv_ev rfl) ?_
  refine hl_less (sx 0 rfl (sx 1 rfl (sx 2 rfl (sx 4 rfl (sx 5 rfl (sx 6 rfl (sx 7 rfl (sx 8 rfl (sx 35 rfl (sub_nil _)))))))))) (.refl _) ?_
  refine hl_nil ?_
  refine hq_then ?_
  refine hc_ret ?_
  refine hq_conv [bigE (es.map irPart), rowE 24 1 u es.length (es.flatMap irC)] (conv_pick (src := [bigE (es.map irPart), rowE 24 1 u es.length (es.flatMap irC), rowE 3 1 v5 ((valT x.n x.bs x.ni).length) ((valT x.n x.bs x.ni).map (Value.int .i64)), rowE 3 1 v2 ((valT x.n x.ao x.oi).length) ((valT x.n x.ao x.oi).map (Value.int .i64)), boxE b1 #[.int .i64 x.n.ins, x.n.sv, x.n.lv, x.n.ov, x.pv, x.qv, x.kv, x.av, x.bv, .int .i64 x.oi, .int .i64 x.ni] 40]) (dst := [bigE (es.map irPart), rowE 24 1 u es.length (es.flatMap irC)]) (l := []) [0, 1] (by decide) rfl) ?_
  refine hq_conv [irsE u es] (conv_big (ps := [bigE (es.map irPart), rowE 24 1 u es.length (es.flatMap irC)])) ?_
  exact hq_retR (post := [irsE u es]) rfl rfl (.refl _) ⟨es, rfl, by rw [show m = x.n.cnt.toNat by omega] at hw; exact hw⟩
open Go.RowKit
set_option maxHeartbeats 4000000 in
set_option maxRecDepth 100000 in
theorem implWaveforms_ret (x : Td) (a : Int) (w : World) (hr : RdsTd w x) :
  Calls Try.prog 34 #[.agg #[.int .i64 x.n.ins, x.n.sv, x.n.lv, x.n.ov, x.pv, x.qv, x.kv, x.av, x.bv, .int .i64 x.oi, .int .i64 x.ni], .int .i64 a] w (Ret w (fun v' post => ∃ es : List IR, post = [irsE v' es] ∧ es.map IR.xs = wavR x a)) := by
 have t1 := sml hr.ks
 have t2 := sml hr.ao
 have t3 := sml hr.bs
 have t4 := hr.dl.small
 have t5 := hr.ds.small
 have t6 := hr.n.sq.small
 have t7 := hr.n.lt.small
 have t8 := sml hr.n.ou
 have hcnt : x.n.cnt = 1 + x.n.ins + x.n.ss.length + x.n.ls.length := rfl
 have hfst : x.n.fst = 1 + x.n.ins + x.n.ss.length := rfl
 refine calls_hc (N := 19) (args := [.agg #[.int .i64 x.n.ins, x.n.sv, x.n.lv, x.n.ov, x.pv, x.qv, x.kv, x.av, x.bv, .int .i64 x.oi, .int .i64 x.ni], .int .i64 a]) Try.func34 rfl rfl ?_
 refine hc_less _ (sx 0 rfl (sx 1 rfl (sub_nil _))) (.refl _) ?_
 refine hc_seq ?_
 refine hc_region ?_
 refine hl_box rfl rfl rfl (rq_box rfl rfl) ?_
 intro b1
 refine hl_nilRow 24 1 ?_
 refine hl_eqL (l' := [rowE 24 1 (.slice none 0 0) (([] : List IR).length) (([] : List IR).flatMap irC), boxE b1 #[.int .i64 x.n.ins, x.n.sv, x.n.lv, x.n.ov, x.pv, x.qv, x.kv, x.av, x.bv, .int .i64 x.oi, .int .i64 x.ni] 40]) rfl ?_
 refine hl_v rfl rfl rfl (rv_ev rfl) ?_
 refine hl_less (sx 0 rfl (sx 1 rfl (sx 2 rfl (sx 4 rfl (sub_nil _))))) (.refl _) ?_
 refine hl_nil ?_
 refine hq_then ?_
 refine hc_seq ?_
 refine hc_seq ?_
 refine hc_region ?_
 refine hl_v rfl rfl rfl (rv_loadN (cs := [.int .i64 x.n.ins, x.n.sv, x.n.lv, x.n.ov, x.pv, x.qv, x.kv, x.av, x.bv, .int .i64 x.oi, .int .i64 x.ni]) rfl (by kernel_rfl) (by kernel_rfl) rfl rfl (box_part 1 rfl 0 rfl)) ?_
 refine hl_callV rfl rfl rfl (rq_call (by kernel_rfl) rfl (fun w hm => ret_ans (implTimedOk_ans x w (hr.below hm.bel)))) ?_
 refine hl_bool (fun h3 => ?_) (fun h3 => ?_)
 ·
  have hok := of_pB h3
  obtain ⟨ci, cs_, cl, ck, ca, cb, cd, ce⟩ := hok.bnd
  have hi0 := ci.1
  have hi1 := ci.2
  refine hl_v rfl rfl rfl (rv_ev rfl) ?_
  refine hl_v rfl rfl rfl (rv_ev rfl) ?_
  refine hl_v rfl rfl rfl (rv_ev rfl) ?_
  refine hl_callV rfl rfl rfl (rq_call (by kernel_rfl) rfl (fun w hm => ret_ans (ans_of (inRange_any _ _ _ w)))) ?_
  refine hl_bool (fun h4 => ?_) (fun h4 => ?_)
  ·
   obtain ⟨h4a, h4b⟩ := (inR_iff _ _ _).1 h4
   refine hl_v rfl rfl rfl (rv_ev rfl) ?_
   refine hl_v rfl rfl rfl (rv_ev rfl) ?_
   refine hl_less (sx 0 rfl (sx 1 rfl (sx 2 rfl (sx 4 rfl (sx 12 rfl (sub_nil _)))))) (.refl _) ?_
   refine hl_nil ?_
   refine hq_then ?_
   refine hc_false rfl ?_
   refine hc_skip ?_
   refine hq_then ?_
   refine hc_seq ?_
   refine hc_region ?_
   refine hl_v rfl rfl rfl (rv_loadN (cs := [.int .i64 x.n.ins, x.n.sv, x.n.lv, x.n.ov, x.pv, x.qv, x.kv, x.av, x.bv, .int .i64 x.oi, .int .i64 x.ni]) rfl (by kernel_rfl) (by kernel_rfl) rfl rfl (box_part 1 rfl 0 rfl)) ?_
   refine hl_v rfl rfl rfl (rv_ev rfl) ?_
   refine hl_q rfl rfl rfl (rq_call (by kernel_rfl) rfl (fun w hm => wavesOf_ret x a w (hr.below hm.bel) hok (by omega))) ?_
   intro v5 p6 hR7
   obtain ⟨b, bv, av, es, rfl, rfl, hw, hoav⟩ := hR7
   have hwl := hw.len
   refine hl_v rfl rfl rfl (rv_nilCheck rfl rfl) ?_
   refine hl_v rfl rfl rfl (rv_field (k0 := 1) rfl (by kernel_rfl) rfl) ?_
   refine hl_v rfl rfl rfl (rv_load rfl (by kernel_rfl) rfl (box_cell 1 rfl rfl)) ?_
   refine hl_v rfl rfl rfl (rv_ev rfl) ?_
   refine hl_less (sx 0 rfl (sx 1 rfl (sx 2 rfl (sx 4 rfl (sx 12 rfl (sub_nil _)))))) (.refl _) ?_
   refine hl_nil ?_
   refine hq_then ?_
   refine hc_ret ?_
   refine hq_conv [irsE av es] (conv_pick (src := [irsE av es, boxE b #[bv, av] 92, rowE 3 1 bv ((ovX x).length) ((ovX x).map (Value.int .i64)), rowE 24 1 (.slice none 0 0) (([] : List IR).length) (([] : List IR).flatMap irC), boxE b1 #[.int .i64 x.n.ins, x.n.sv, x.n.lv, x.n.ov, x.pv, x.qv, x.kv, x.av, x.bv, .int .i64 x.oi, .int .i64 x.ni] 40]) (dst := [irsE av es]) (l := []) [0] (by decide) rfl) ?_
   exact hq_retR (post := [irsE av es]) rfl rfl (.refl _) ⟨es, rfl, by rw [hw.all, wavR_ok hok (by omega)]⟩
  ·
   have h4a := inR_notL h4
   refine hl_v rfl rfl rfl (rv_ev rfl) ?_
   refine hl_v rfl rfl rfl (rv_ev rfl) ?_
   refine hl_less (sx 0 rfl (sx 1 rfl (sx 2 rfl (sx 4 rfl (sx 12 rfl (sub_nil _)))))) (.refl _) ?_
   refine hl_nil ?_
   refine hq_then ?_
   refine hc_true rfl ?_
   refine hc_seq ?_
   refine hc_region ?_
   refine hl_nilRow 24 1 ?_
   refine hl_eqL (l' := [rowE 24 1 (.slice none 0 0) (([] : List IR).length) (([] : List IR).flatMap irC), rowE 24 1 (.slice none 0 0) (([] : List IR).length) (([] : List IR).flatMap irC), boxE b1 #[.int .i64 x.n.ins, x.n.sv, x.n.lv, x.n.ov, x.pv, x.qv, x.kv, x.av, x.bv, .int .i64 x.oi, .int .i64 x.ni] 40]) rfl ?_
   refine hl_v rfl rfl rfl (rv_ev rfl) ?_
   refine hl_less (sx 0 rfl (sx 1 rfl (sx 2 rfl (sx 4 rfl (sx 12 rfl (sub_nil _)))))) (.refl _) ?_
   refine hl_nil ?_
   refine hq_then ?_
   refine hc_ret ?_
   refine hq_then_ret ?_
   refine hq_conv [rowE 24 1 (.slice none 0 0) (([] : List IR).length) (([] : List IR).flatMap irC)] (conv_pick (src := [rowE 24 1 (.slice none 0 0) (([] : List IR).length) (([] : List IR).flatMap irC), rowE 24 1 (.slice none 0 0) (([] : List IR).length) (([] : List IR).flatMap irC), boxE b1 #[.int .i64 x.n.ins, x.n.sv, x.n.lv, x.n.ov, x.pv, x.qv, x.kv, x.av, x.bv, .int .i64 x.oi, .int .i64 x.ni] 40]) (dst := [rowE 24 1 (.slice none 0 0) (([] : List IR).length) (([] : List IR).flatMap irC)]) (l := []) [0] (by decide) rfl) ?_
   refine hq_conv [irsE (.slice none 0 0) ([] : List IR)] (fun w hm => by
     have h1 : Mem _ [rowE 24 1 (.slice none 0 0) ([] : List IR).length (([] : List IR).flatMap irC)] w := hm
     have h2 := Mem.big (ps := []) h1
     exact Mem.big (ps := [bigE (([] : List IR).map irPart), rowE 24 1 (.slice none 0 0) ([] : List IR).length (([] : List IR).flatMap irC)]) h2) ?_
   exact hq_retR (post := [irsE (.slice none 0 0) ([] : List IR)]) rfl rfl (.refl _) ⟨[], rfl, by first | exact (wavR_no (.inl hno)).symm | exact (wavR_no (.inr (by omega))).symm⟩
 ·
  have hno := of_pBn h3
  refine hl_v rfl rfl rfl (rv_ev rfl) ?_
  refine hl_v rfl rfl rfl (rv_ev rfl) ?_
  refine hl_skip rfl rfl rfl ?_
  refine hl_skip rfl rfl rfl ?_
  refine hl_skip rfl rfl rfl ?_
  refine hl_v rfl rfl rfl (rv_ev rfl) ?_
  refine hl_less (sx 0 rfl (sx 1 rfl (sx 2 rfl (sx 4 rfl (sx 12 rfl (sub_nil _)))))) (.refl _) ?_
  refine hl_nil ?_
  refine hq_then ?_
  refine hc_true rfl ?_
  refine hc_seq ?_
  refine hc_region ?_
  refine hl_nilRow 24 1 ?_
  refine hl_eqL (l' := [rowE 24 1 (.slice none 0 0) (([] : List IR).length) (([] : List IR).flatMap irC), rowE 24 1 (.slice none 0 0) (([] : List IR).length) (([] : List IR).flatMap irC), boxE b1 #[.int .i64 x.n.ins, x.n.sv, x.n.lv, x.n.ov, x.pv, x.qv, x.kv, x.av, x.bv, .int .i64 x.oi, .int .i64 x.ni] 40]) rfl ?_
  refine hl_v rfl rfl rfl (rv_ev rfl) ?_
  refine hl_less (sx 0 rfl (sx 1 rfl (sx 2 rfl (sx 4 rfl (sx 12 rfl (sub_nil _)))))) (.refl _) ?_
  refine hl_nil ?_
  refine hq_then ?_
  refine hc_ret ?_
  refine hq_then_ret ?_
  refine hq_conv [rowE 24 1 (.slice none 0 0) (([] : List IR).length) (([] : List IR).flatMap irC)] (conv_pick (src := [rowE 24 1 (.slice none 0 0) (([] : List IR).length) (([] : List IR).flatMap irC), rowE 24 1 (.slice none 0 0) (([] : List IR).length) (([] : List IR).flatMap irC), boxE b1 #[.int .i64 x.n.ins, x.n.sv, x.n.lv, x.n.ov, x.pv, x.qv, x.kv, x.av, x.bv, .int .i64 x.oi, .int .i64 x.ni] 40]) (dst := [rowE 24 1 (.slice none 0 0) (([] : List IR).length) (([] : List IR).flatMap irC)]) (l := []) [0] (by decide) rfl) ?_
  refine hq_conv [irsE (.slice none 0 0) ([] : List IR)] (fun w hm => by
    have h1 : Mem _ [rowE 24 1 (.slice none 0 0) ([] : List IR).length (([] : List IR).flatMap irC)] w := hm
    have h2 := Mem.big (ps := []) h1
    exact Mem.big (ps := [bigE (([] : List IR).map irPart), rowE 24 1 (.slice none 0 0) ([] : List IR).length (([] : List IR).flatMap irC)]) h2) ?_
  exact hq_retR (post := [irsE (.slice none 0 0) ([] : List IR)]) rfl rfl (.refl _) ⟨[], rfl, by first | exact (wavR_no (.inl hno)).symm | exact (wavR_no (.inr (by omega))).symm⟩
set_option maxHeartbeats 4000000 in
set_option maxRecDepth 100000 in
theorem specWaveforms_ret (x : Td) (a : Int) (w : World) (hr : RdsTd w x) :
  Calls Try.prog 33 #[.agg #[.int .i64 x.n.ins, x.n.sv, x.n.lv, x.n.ov, x.pv, x.qv, x.kv, x.av, x.bv, .int .i64 x.oi, .int .i64 x.ni], .int .i64 a] w (Ret w (fun v' post => ∃ es : List IR, post = [irsE v' es] ∧ es.map IR.xs = wavR x a)) := by
 have t1 := sml hr.ks
 have t2 := sml hr.ao
 have t3 := sml hr.bs
 have t4 := hr.dl.small
 have t5 := hr.ds.small
 have t6 := hr.n.sq.small
 have t7 := hr.n.lt.small
 have t8 := sml hr.n.ou
 have hcnt : x.n.cnt = 1 + x.n.ins + x.n.ss.length + x.n.ls.length := rfl
 have hfst : x.n.fst = 1 + x.n.ins + x.n.ss.length := rfl
 refine calls_hc (N := 17) (args := [.agg #[.int .i64 x.n.ins, x.n.sv, x.n.lv, x.n.ov, x.pv, x.qv, x.kv, x.av, x.bv, .int .i64 x.oi, .int .i64 x.ni], .int .i64 a]) Try.func33 rfl rfl ?_
 refine hc_less _ (sx 0 rfl (sx 1 rfl (sub_nil _))) (.refl _) ?_
 refine hc_seq ?_
 refine hc_region ?_
 refine hl_box rfl rfl rfl (rq_box rfl rfl) ?_
 intro b1
 refine hl_nilRow 24 1 ?_
 refine hl_eqL (l' := [rowE 24 1 (.slice none 0 0) (([] : List IR).length) (([] : List IR).flatMap irC), boxE b1 #[.int .i64 x.n.ins, x.n.sv, x.n.lv, x.n.ov, x.pv, x.qv, x.kv, x.av, x.bv, .int .i64 x.oi, .int .i64 x.ni] 40]) rfl ?_
 refine hl_v rfl rfl rfl (rv_ev rfl) ?_
 refine hl_less (sx 0 rfl (sx 1 rfl (sx 2 rfl (sx 4 rfl (sub_nil _))))) (.refl _) ?_
 refine hl_nil ?_
 refine hq_then ?_
 refine hc_seq ?_
 refine hc_seq ?_
 refine hc_region ?_
 refine hl_v rfl rfl rfl (rv_loadN (cs := [.int .i64 x.n.ins, x.n.sv, x.n.lv, x.n.ov, x.pv, x.qv, x.kv, x.av, x.bv, .int .i64 x.oi, .int .i64 x.ni]) rfl (by kernel_rfl) (by kernel_rfl) rfl rfl (box_part 1 rfl 0 rfl)) ?_
 refine hl_callV rfl rfl rfl (rq_call (by kernel_rfl) rfl (fun w hm => ret_ans (specTimedOk_ans x w (hr.below hm.bel)))) ?_
 refine hl_bool (fun h3 => ?_) (fun h3 => ?_)
 ·
  have hok := of_pB h3
  obtain ⟨ci, cs_, cl, ck, ca, cb, cd, ce⟩ := hok.bnd
  have hi0 := ci.1
  have hi1 := ci.2
  refine hl_v rfl rfl rfl (rv_ev rfl) ?_
  refine hl_v rfl rfl rfl (rv_ev rfl) ?_
  refine hl_v rfl rfl rfl (rv_ev rfl) ?_
  refine hl_callV rfl rfl rfl (rq_call (by kernel_rfl) rfl (fun w hm => ret_ans (l01In_ans a 0 1100 w))) ?_
  refine hl_bool (fun h4 => ?_) (fun h4 => ?_)
  ·
   obtain ⟨h4a, h4b⟩ := (inR_iff _ _ _).1 h4
   refine hl_v rfl rfl rfl (rv_ev rfl) ?_
   refine hl_v rfl rfl rfl (rv_ev rfl) ?_
   refine hl_less (sx 0 rfl (sx 1 rfl (sx 2 rfl (sx 4 rfl (sx 12 rfl (sub_nil _)))))) (.refl _) ?_
   refine hl_nil ?_
   refine hq_then ?_
   refine hc_false rfl ?_
   refine hc_skip ?_
   refine hq_then ?_
   refine hc_seq ?_
   refine hc_region ?_
   refine hl_v rfl rfl rfl (rv_loadN (cs := [.int .i64 x.n.ins, x.n.sv, x.n.lv, x.n.ov, x.pv, x.qv, x.kv, x.av, x.bv, .int .i64 x.oi, .int .i64 x.ni]) rfl (by kernel_rfl) (by kernel_rfl) rfl rfl (box_part 1 rfl 0 rfl)) ?_
   refine hl_v rfl rfl rfl (rv_ev rfl) ?_
   refine hl_q rfl rfl rfl (rq_call (by kernel_rfl) rfl (fun w hm => l37Waves_ret x a w (hr.below hm.bel) hok (by omega))) ?_
   intro v5 p6 hR7
   obtain ⟨es, rfl, hw⟩ := hR7
   have hwl := hw.len
   refine hl_v rfl rfl rfl (rv_ev rfl) ?_
   refine hl_less (sx 0 rfl (sx 1 rfl (sx 2 rfl (sx 4 rfl (sx 12 rfl (sub_nil _)))))) (.refl _) ?_
   refine hl_nil ?_
   refine hq_then ?_
   refine hc_ret ?_
   refine hq_conv [irsE v5 es] (conv_pick (src := [irsE v5 es, rowE 24 1 (.slice none 0 0) (([] : List IR).length) (([] : List IR).flatMap irC), boxE b1 #[.int .i64 x.n.ins, x.n.sv, x.n.lv, x.n.ov, x.pv, x.qv, x.kv, x.av, x.bv, .int .i64 x.oi, .int .i64 x.ni] 40]) (dst := [irsE v5 es]) (l := []) [0] (by decide) rfl) ?_
   exact hq_retR (post := [irsE v5 es]) rfl rfl (.refl _) ⟨es, rfl, by rw [hw.all, wavR_ok hok (by omega)]⟩
  ·
   have h4a := inR_notL h4
   refine hl_v rfl rfl rfl (rv_ev rfl) ?_
   refine hl_v rfl rfl rfl (rv_ev rfl) ?_
   refine hl_less (sx 0 rfl (sx 1 rfl (sx 2 rfl (sx 4 rfl (sx 12 rfl (sub_nil _)))))) (.refl _) ?_
   refine hl_nil ?_
   refine hq_then ?_
   refine hc_true rfl ?_
   refine hc_seq ?_
   refine hc_region ?_
   refine hl_row rfl rfl rfl (rq_slice0 (s := 1) rfl Try.underlying27 (by kernel_rfl)) ?_
   intro g8
   refine hl_v rfl rfl rfl (rv_ev rfl) ?_
   refine hl_less (sx 0 rfl (sx 1 rfl (sx 2 rfl (sx 4 rfl (sx 12 rfl (sub_nil _)))))) (.refl _) ?_
   refine hl_nil ?_
   refine hq_then ?_
   refine hc_ret ?_
   refine hq_then_ret ?_
   refine hq_conv [rowE 24 1 (.slice (some ⟨g8, 0, none⟩) 0 0) 0 ([])] (conv_pick (src := [rowE 24 1 (.slice (some ⟨g8, 0, none⟩) 0 0) 0 ([]), rowE 24 1 (.slice none 0 0) (([] : List IR).length) (([] : List IR).flatMap irC), boxE b1 #[.int .i64 x.n.ins, x.n.sv, x.n.lv, x.n.ov, x.pv, x.qv, x.kv, x.av, x.bv, .int .i64 x.oi, .int .i64 x.ni] 40]) (dst := [rowE 24 1 (.slice (some ⟨g8, 0, none⟩) 0 0) 0 ([])]) (l := []) [0] (by decide) rfl) ?_
   refine hq_conv [irsE (.slice (some ⟨g8, 0, none⟩) 0 0) ([] : List IR)] (fun w hm => by
     have h1 : Mem _ [rowE 24 1 (.slice (some ⟨g8, 0, none⟩) 0 0) ([] : List IR).length (([] : List IR).flatMap irC)] w := hm
     have h2 := Mem.big (ps := []) h1
     exact Mem.big (ps := [bigE (([] : List IR).map irPart), rowE 24 1 (.slice (some ⟨g8, 0, none⟩) 0 0) ([] : List IR).length (([] : List IR).flatMap irC)]) h2) ?_
   exact hq_retR (post := [irsE (.slice (some ⟨g8, 0, none⟩) 0 0) ([] : List IR)]) rfl rfl (.refl _) ⟨[], rfl, by first | exact (wavR_no (.inl hno)).symm | exact (wavR_no (.inr (by omega))).symm⟩
 ·
  have hno := of_pBn h3
  refine hl_v rfl rfl rfl (rv_ev rfl) ?_
  refine hl_v rfl rfl rfl (rv_ev rfl) ?_
  refine hl_skip rfl rfl rfl ?_
  refine hl_skip rfl rfl rfl ?_
  refine hl_skip rfl rfl rfl ?_
  refine hl_v rfl rfl rfl (rv_ev rfl) ?_
  refine hl_less (sx 0 rfl (sx 1 rfl (sx 2 rfl (sx 4 rfl (sx 12 rfl (sub_nil _)))))) (.refl _) ?_
  refine hl_nil ?_
  refine hq_then ?_
  refine hc_true rfl ?_
  refine hc_seq ?_
  refine hc_region ?_
  refine hl_row rfl rfl rfl (rq_slice0 (s := 1) rfl Try.underlying27 (by kernel_rfl)) ?_
  intro g9
  refine hl_v rfl rfl rfl (rv_ev rfl) ?_
  refine hl_less (sx 0 rfl (sx 1 rfl (sx 2 rfl (sx 4 rfl (sx 12 rfl (sub_nil _)))))) (.refl _) ?_
  refine hl_nil ?_
  refine hq_then ?_
  refine hc_ret ?_
  refine hq_then_ret ?_
  refine hq_conv [rowE 24 1 (.slice (some ⟨g9, 0, none⟩) 0 0) 0 ([])] (conv_pick (src := [rowE 24 1 (.slice (some ⟨g9, 0, none⟩) 0 0) 0 ([]), rowE 24 1 (.slice none 0 0) (([] : List IR).length) (([] : List IR).flatMap irC), boxE b1 #[.int .i64 x.n.ins, x.n.sv, x.n.lv, x.n.ov, x.pv, x.qv, x.kv, x.av, x.bv, .int .i64 x.oi, .int .i64 x.ni] 40]) (dst := [rowE 24 1 (.slice (some ⟨g9, 0, none⟩) 0 0) 0 ([])]) (l := []) [0] (by decide) rfl) ?_
  refine hq_conv [irsE (.slice (some ⟨g9, 0, none⟩) 0 0) ([] : List IR)] (fun w hm => by
    have h1 : Mem _ [rowE 24 1 (.slice (some ⟨g9, 0, none⟩) 0 0) ([] : List IR).length (([] : List IR).flatMap irC)] w := hm
    have h2 := Mem.big (ps := []) h1
    exact Mem.big (ps := [bigE (([] : List IR).map irPart), rowE 24 1 (.slice (some ⟨g9, 0, none⟩) 0 0) ([] : List IR).length (([] : List IR).flatMap irC)]) h2) ?_
  exact hq_retR (post := [irsE (.slice (some ⟨g9, 0, none⟩) 0 0) ([] : List IR)]) rfl rfl (.refl _) ⟨[], rfl, by first | exact (wavR_no (.inl hno)).symm | exact (wavR_no (.inr (by omega))).symm⟩
open Go.RowKit
def tot (es : List IR) : Nat → Nat
  | 0 => 0
  | i + 1 => tot es i + (es.getD i ir0).xs.length
theorem tot_mono (es : List IR) {i : Nat} : ∀ j, i ≤ j → tot es i ≤ tot es j
  | 0, h => by have : i = 0 := by omega
               subst this; exact Nat.le_refl _
  | j + 1, h => by
    by_cases c : i = j + 1
    · subst c; exact Nat.le_refl _
    · exact Nat.le_trans (tot_mono es j (by omega)) (Nat.le_add_right _ _)
theorem tot_le {es : List IR} {N : Nat} (h : ∀ s ∈ es, s.xs.length ≤ N) : ∀ i, i ≤ es.length → tot es i ≤ i * N
  | 0, _ => by show 0 ≤ _; omega
  | i + 1, hi => by
    have h1 := tot_le h i (by omega)
    have h2 := h _ (getD_memX (l := es) (d := ir0) (k := i) (by omega))
    show tot es i + _ ≤ _
    rw [Nat.succ_mul]; omega
/-- rows marked one after the other, as far as row j -/
structure MkOk (es : List IR) (k : Int) (j : Nat) (zs : List IR) : Prop where
  len : zs.length = es.length
  lo : ∀ i, i < j → (zs.getD i ir0).xs = seqL (k + tot es i) (es.getD i ir0).xs.length
  hi : ∀ i, j ≤ i → (zs.getD i ir0).xs.length = (es.getD i ir0).xs.length
theorem MkOk.next {es zs : List IR} {k q : Int} {j : Nat} (h : MkOk es k j zs) (hj : j < es.length) (hq : q = k + tot es j) {v : Value} : MkOk es k (j + 1) (zs.set j (IR.mk v (seqL q (zs.getD j ir0).xs.length))) := by
  have hl := h.len
  refine ⟨by rw [List.length_set]; exact hl, fun i hi => ?_, fun i hi => ?_⟩
  · by_cases c : i = j
    · subst c; rw [set_selfG (by omega), ← hq]
      show seqL q _ = _
      rw [h.hi i (Nat.le_refl _)]
    · rw [set_neG (fun h => c h.symm)]; exact h.lo i (by omega)
  · rw [set_neG (by omega)]; exact h.hi i (by omega)
theorem wavR_sz (x : Td) (a : Int) : (wavR x a).length ≤ 500 ∧ ∀ q ∈ wavR x a, q.length ≤ 1101 := by
  by_cases h : TdOk x
  · by_cases h2 : 0 ≤ a ∧ a ≤ 1100
    · rw [wavR_ok h h2]
      have hb := h.bnd
      have h3 := hb.i
      have h4 := hb.s
      have h5 := hb.l
      have hc : x.n.cnt = 1 + x.n.ins + x.n.ss.length + x.n.ls.length := rfl
      refine ⟨by rw [wvs_len]; omega, fun q hq => ?_⟩
      obtain ⟨i, hi, rfl⟩ := List.mem_iff_getElem.1 hq
      rw [wvs_len] at hi
      have h6 := wvs_rl x a.toNat (k := x.n.cnt.toNat) (q := i) hi
      rw [List.getD_eq_getElem?_getD, List.getElem?_eq_getElem (by rw [wvs_len]; exact hi)] at h6
      have h7 : ((wvsL x a.toNat x.n.cnt.toNat)[i]'(by rw [wvs_len]; exact hi)).length = a.toNat + 1 := h6
      omega
    · rw [wavR_no (.inr h2)]; simp
  · rw [wavR_no (.inl h)]; simp
theorem wav_sz {x : Td} {a : Int} {es : List IR} (h : es.map IR.xs = wavR x a) : es.length ≤ 500 ∧ ∀ s ∈ es, s.xs.length ≤ 1101 := by
  obtain ⟨h1, h2⟩ := wavR_sz x a
  refine ⟨by rw [← h, List.length_map] at h1; exact h1, fun s hs => h2 _ (by rw [← h]; exact List.mem_map.2 ⟨s, hs, rfl⟩)⟩
theorem wav_sz2 {x : Td} {a : Int} {es : List IR} (h : es.map IR.xs = wavR x a) : es.length ≤ 1048576 ∧ ∀ s ∈ es, s.xs.length ≤ 1048576 := by
  obtain ⟨h1, h2⟩ := wav_sz h
  exact ⟨by omega, fun s hs => by have := h2 s hs; omega⟩
theorem wav_tot {x : Td} {a : Int} {es : List IR} (h : es.map IR.xs = wavR x a) : tot es es.length ≤ 1000000 := by
  obtain ⟨h1, h2⟩ := wav_sz h
  have := tot_le h2 es.length (Nat.le_refl _)
  have h3 : es.length * 1101 ≤ 500 * 1101 := Nat.mul_le_mul_right _ h1
  omega
set_option maxHeartbeats 4000000 in
set_option maxRecDepth 100000 in
theorem markIrX_mut (es : List IR) (k : Int) (v : Value) (w0 : World) (l : List HP) (w : World) (hm0 : Mem w0 (irsE v es :: l) w) (hk : 0 ≤ k ∧ k ≤ 100000000000000) (hz : es.length ≤ 1048576 ∧ ∀ s ∈ es, s.xs.length ≤ 1048576) (ht : tot es es.length ≤ 1000000) :
  Calls Try.prog 36 #[v, .int .i64 k] w (fun e_ w_ => ∃ v_ p_, e_ = .returned v_ ∧ (fun u_ p_ => ∃ zs : List IR, u_ = .int .i64 (k + tot es es.length) ∧ p_ = irsE v zs ∧ MkOk es k es.length zs) v_ p_ ∧ Mem w0 (p_ :: l) w_) := by
 obtain ⟨hz1, hz2⟩ := hz
 refine calls_hcM (N := 19) (args := [v, .int .i64 k]) Try.func36 rfl rfl (l := (bigE (es.map irPart) :: rowE 24 1 v es.length (es.flatMap irC) :: l)) hm0.unbig ?_
 refine hc_less _ (sx 0 rfl (sx 1 rfl (sub_nil _))) (.refl _) ?_
 refine hc_seq ?_
 refine hc_region ?_
 refine hl_v rfl rfl rfl (rv_ev rfl) ?_
 refine hl_less (sx 0 rfl (sx 1 rfl (sx 4 rfl (sub_nil _)))) (.refl _) ?_
 refine hl_nil ?_
 refine hq_then ?_
 refine hc_seq ?_
 refine hc_seq ?_
 refine hc_region ?_
 refine hl_v rfl rfl rfl (rv_ev rfl) ?_
 refine hl_less (sx 0 rfl (sx 1 rfl (sx 4 rfl (sx 5 rfl (sub_nil _))))) (.refl _) ?_
 refine hl_nil ?_
 refine hq_then ?_
 refine hc_block ?_
 refine hc_loop3 (α := Nat) (β := Int) (γ := List IR) (fun j q zs => (bigE (zs.map irPart) :: rowE 24 1 v zs.length (zs.flatMap irC) :: l)) (fun j q zs => [(0, v), (1, .int .i64 q), (4, .int .i64 0), (5, .int .i64 (j : Int))]) (fun j q zs => j ≤ es.length ∧ q = k + tot es j ∧ MkOk es k j zs) (fun j q zs => es.length - j) 0 k es ⟨by omega, by show k = k + ((0 : Nat) : Int); omega, ⟨rfl, fun i hi => absurd hi (by omega), fun i hi => rfl⟩⟩ (sx 0 rfl (sx 1 rfl (sx 4 rfl (sx 5 rfl (sub_nil _))))) ((.cons_cons _ (.cons_cons _ (.refl _)))) ?_
 intro j q zs hi1
 obtain ⟨hj, hq, hmk⟩ := hi1
 have hzl := hmk.len
 have htj := tot_mono es es.length hj
 have htj2 : j < es.length → tot es (j + 1) ≤ tot es es.length := fun h => tot_mono es es.length h
 refine hc_seq ?_
 refine hc_seq ?_
 refine hc_region ?_
 refine hl_v rfl rfl rfl (rv_ev rfl) ?_
 refine hl_v rfl rfl rfl (rv_ev rfl) ?_
 refine hl_v rfl rfl rfl (rv_len rfl Try.underlying27 rfl (rd_row 1 rfl)) ?_
 refine hl_lss rfl rfl rfl rfl rfl rfl (fun h2 => ?_) (fun h2 => ?_)
 ·
  refine hl_less (sx 0 rfl (sx 1 rfl (sx 4 rfl (sx 5 rfl (sx 9 rfl (sub_nil _)))))) (.refl _) ?_
  refine hl_nil ?_
  refine hq_then ?_
  refine hc_true rfl ?_
  refine hc_skip ?_
  refine hq_then ?_
  refine hc_seq ?_
  refine hc_block ?_
  refine hc_region ?_
  refine hl_v rfl rfl rfl (rv_ev rfl) ?_
  refine hl_v rfl rfl rfl (rv_ev rfl) ?_
  refine hl_v rfl rfl rfl (rv_index (s := 1) rfl Try.underlying27 (by kernel_rfl) rfl rfl (rd_row 1 rfl) (by omega) (by first | omega | (simp only [List.length_set]; omega))) ?_
  refine hl_v rfl rfl rfl (rv_loadEl (u := (zs.getD j ir0).v) rfl (by kernel_rfl) rfl (rd_row 1 rfl) (flat_one irC (fun r => r.v) (fun _ => rfl) zs ir0 (show j < _ by first | omega | (simp only [List.length_set]; omega)))) ?_
  refine hl_v rfl rfl rfl (rv_ev rfl) ?_
  have hxl := hz2 _ (getD_memX (l := es) (d := ir0) (k := j) (by omega))
  have hxl2 := hmk.hi j (Nat.le_refl _)
  refine hl_conv (rowE 3 1 ((zs.getD j ir0).v) (((zs.getD j ir0).xs).length) (((zs.getD j ir0).xs).map (Value.int .i64)) :: bigE ((zs.map irPart).eraseIdx j) :: rowE 24 1 v zs.length (zs.flatMap irC) :: l) (cv_focus (part := irPart) (zs := zs) (d := ir0) (by omega)) ?_
  refine hl_callM (R := (fun u_ p_ => u_ = .int .i64 (q + ((zs.getD j ir0).xs).length) ∧ p_ = rowE 3 1 ((zs.getD j ir0).v) ((zs.getD j ir0).xs).length ((seqL q ((zs.getD j ir0).xs).length).map (Value.int .i64)))) 0 rfl rfl (by kernel_rfl) rfl rfl (fun l' w hm => markIntS_mut ((zs.getD j ir0).xs) q ((zs.getD j ir0).v) _ _ w hm (by omega) (by omega)) ?_
  intro v3 p4 hR5
  obtain ⟨rfl, rfl⟩ := hR5
  refine hl_eqL (l' := (rowE 3 1 ((zs.getD j ir0).v) (((zs.getD j ir0).xs).length) ((seqL q ((zs.getD j ir0).xs).length).map (Value.int .i64)) :: bigE ((zs.map irPart).eraseIdx j) :: rowE 24 1 v zs.length (zs.flatMap irC) :: l)) rfl ?_
  refine hl_v rfl rfl rfl (rv_ev rfl) ?_
  refine hl_less (sx 0 rfl (sx 1 rfl (sx 4 rfl (sx 5 rfl (sx 9 rfl (sub_nil _)))))) (.refl _) ?_
  refine hl_nil ?_
  refine hq_block_normal ?_
  refine hq_then ?_
  refine hc_region ?_
  refine hl_v rfl rfl rfl (rv_ev rfl) ?_
  refine hl_v rfl rfl rfl (rv_add rfl rfl rfl (by constructor <;> omega)) ?_
  refine hl_v rfl rfl rfl (rv_ev rfl) ?_
  refine hl_less (sx 0 rfl (sx 1 rfl (sx 4 rfl (sx 5 rfl (sx 9 rfl (sub_nil _)))))) (.refl _) ?_
  refine hl_nil ?_
  have hc1 : (zs).flatMap irC = (zs.set j (IR.mk (zs.getD j ir0).v (seqL q ((zs.getD j ir0).xs).length))).flatMap irC := by
   exact (set_ir zs (IR.mk (zs.getD j ir0).v (seqL q ((zs.getD j ir0).xs).length)) (by omega) rfl).symm
  have hc2 : (zs).length = (zs.set j (IR.mk (zs.getD j ir0).v (seqL q ((zs.getD j ir0).xs).length))).length := by simp only [List.length_set]
  refine hq_conv (bigE ((zs.set j (IR.mk (zs.getD j ir0).v (seqL q ((zs.getD j ir0).xs).length))).map irPart) :: rowE 24 1 v ((zs.set j (IR.mk (zs.getD j ir0).v (seqL q ((zs.getD j ir0).xs).length))).length) ((zs.set j (IR.mk (zs.getD j ir0).v (seqL q ((zs.getD j ir0).xs).length))).flatMap irC) :: l) (fun w hm => by have hm2 := cv_unfocus (part := irPart) (zs := zs) (j := j) (e := (IR.mk (zs.getD j ir0).v (seqL q ((zs.getD j ir0).xs).length))) (by omega) w (by simpa only [irPart, seqL_len] using hm); rw [hc1, hc2] at hm2; exact hm2) ?_
  exact hq_round3 (j + 1) _ _ ⟨by omega, by show _ = k + ((tot es j + _ : Nat) : Int); omega, hmk.next (by omega) hq⟩ (by omega) (sx 0 rfl (sx 1 rfl (sx 4 rfl (sx 5 rfl (sub_nil _))))) ((.cons_cons _ (.cons_cons _ (.refl _))))
 ·
  refine hl_less (sx 0 rfl (sx 1 rfl (sx 4 rfl (sx 5 rfl (sx 9 rfl (sub_nil _)))))) (.refl _) ?_
  refine hl_nil ?_
  refine hq_then ?_
  refine hc_false rfl ?_
  refine hc_exit ?_
  refine hq_then_exit ?_
  refine hq_then_exit ?_
  refine hq_block_exit ?_
  refine hq_then ?_
  refine hc_seq ?_
  refine hc_region ?_
  refine hl_v rfl rfl rfl (rv_ev rfl) ?_
  refine hl_v rfl rfl rfl (rv_ev rfl) ?_
  refine hl_less (sx 0 rfl (sx 1 rfl (sx 4 rfl (sx 5 rfl (sx 9 rfl (sub_nil _)))))) (.refl _) ?_
  refine hl_nil ?_
  refine hq_then ?_
  refine hc_ret ?_
  refine hq_conv (irsE v zs :: l) (conv_big (ps := [bigE (zs.map irPart), rowE 24 1 v zs.length (zs.flatMap irC)])) ?_
  exact hq_retMut (p' := irsE v zs) rfl rfl (.refl _) ⟨zs, by rw [hq, show j = es.length by omega], rfl, by rw [show j = es.length by omega] at hmk; exact hmk⟩
set_option maxHeartbeats 4000000 in
set_option maxRecDepth 100000 in
theorem heldIrX_ans (es zs : List IR) (k : Int) (v : Value) (w : World) (hr : RdsIr w v zs) (hl : zs.length = es.length) (hx : ∀ i, i < es.length → (zs.getD i ir0).xs = seqL (k + tot es i) (es.getD i ir0).xs.length) (hk : 0 ≤ k ∧ k ≤ 100000000000000) (ht : tot es es.length ≤ 1000000) :
  Calls Try.prog 37 #[v, .int .i64 k] w (Ans w (.int .i64 (k + tot es es.length))) := by
 have hsm := hr.small
 refine calls_hc (N := 21) (args := [v, .int .i64 k]) Try.func37 rfl rfl ?_
 refine hc_less _ (sx 0 rfl (sx 1 rfl (sub_nil _))) (.refl _) ?_
 refine hc_seq ?_
 refine hc_region ?_
 refine hl_v rfl rfl rfl (rv_ev rfl) ?_
 refine hl_less (sx 0 rfl (sx 1 rfl (sx 4 rfl (sub_nil _)))) (.refl _) ?_
 refine hl_nil ?_
 refine hq_then ?_
 refine hc_seq ?_
 refine hc_seq ?_
 refine hc_region ?_
 refine hl_v rfl rfl rfl (rv_ev rfl) ?_
 refine hl_less (sx 0 rfl (sx 1 rfl (sx 4 rfl (sx 5 rfl (sub_nil _))))) (.refl _) ?_
 refine hl_nil ?_
 refine hq_then ?_
 refine hc_block ?_
 refine hc_loop2 (α := Nat) (β := Int) (fun j q => []) (fun j q => [(0, v), (1, .int .i64 q), (4, .int .i64 0), (5, .int .i64 (j : Int))]) (fun j q => j ≤ es.length ∧ q = k + tot es j) (fun j q => es.length - j) 0 k ⟨by omega, by show k = k + ((0 : Nat) : Int); omega⟩ (sx 0 rfl (sx 1 rfl (sx 4 rfl (sx 5 rfl (sub_nil _))))) (.slnil) ?_
 intro j q hi1
 obtain ⟨hj, hq⟩ := hi1
 have htj := tot_mono es es.length hj
 have htj2 : j < es.length → tot es j + (es.getD j ir0).xs.length ≤ tot es es.length := fun h => tot_mono es es.length h
 refine hc_seq ?_
 refine hc_seq ?_
 refine hc_region ?_
 refine hl_v rfl rfl rfl (rv_ev rfl) ?_
 refine hl_v rfl rfl rfl (rv_ev rfl) ?_
 refine hl_v rfl rfl rfl (rv_len rfl Try.underlying27 rfl (rd_old hr.row)) ?_
 refine hl_lss rfl rfl rfl rfl rfl rfl (fun h2 => ?_) (fun h2 => ?_)
 ·
  refine hl_less (sx 0 rfl (sx 1 rfl (sx 4 rfl (sx 5 rfl (sx 9 rfl (sub_nil _)))))) (.refl _) ?_
  refine hl_nil ?_
  refine hq_then ?_
  refine hc_true rfl ?_
  refine hc_skip ?_
  refine hq_then ?_
  refine hc_seq ?_
  refine hc_block ?_
  refine hc_seq ?_
  refine hc_region ?_
  refine hl_v rfl rfl rfl (rv_ev rfl) ?_
  refine hl_v rfl rfl rfl (rv_ev rfl) ?_
  refine hl_v rfl rfl rfl (rv_index (s := 1) rfl Try.underlying27 (by kernel_rfl) rfl rfl (rd_old hr.row) (by omega) (by first | omega | (simp only [List.length_set]; omega))) ?_
  refine hl_v rfl rfl rfl (rv_loadEl (u := (zs.getD j ir0).v) rfl (by kernel_rfl) rfl (rd_old hr.row) (flat_one irC (fun r => r.v) (fun _ => rfl) zs ir0 (show j < _ by first | omega | (simp only [List.length_set]; omega)))) ?_
  refine hl_v rfl rfl rfl (rv_ev rfl) ?_
  refine hl_callV rfl rfl rfl (rq_call (by kernel_rfl) rfl (fun w hm => ret_ans (heldIntS_ans (es.getD j ir0).xs.length q _ w (by have h9 := (hr.at (d := ir0) (k := j) (by omega)).below hm.bel; rw [hx j (by omega), ← hq, seqL_len] at h9; exact h9) (by omega) (by omega)))) ?_
  refine hl_v rfl rfl rfl (rv_ev rfl) ?_
  refine hl_less (sx 0 rfl (sx 1 rfl (sx 4 rfl (sx 5 rfl (sx 9 rfl (sub_nil _)))))) (.refl _) ?_
  refine hl_nil ?_
  refine hq_then ?_
  refine hc_seq ?_
  refine hc_region ?_
  refine hl_v rfl rfl rfl (rv_ev rfl) ?_
  refine hl_lss rfl rfl rfl rfl rfl rfl (fun h3 => ?_) (fun h3 => ?_)
  ·
   refine hl_less (sx 0 rfl (sx 1 rfl (sx 4 rfl (sx 5 rfl (sx 9 rfl (sx 19 rfl (sub_nil _))))))) (.refl _) ?_
   refine hl_nil ?_
   refine hq_then ?_
   refine hc_true rfl ?_
   refine hc_seq ?_
   refine hc_region ?_
   refine hl_v rfl rfl rfl (rv_ev rfl) ?_
   refine hl_less (sx 0 rfl (sx 1 rfl (sx 4 rfl (sx 5 rfl (sx 9 rfl (sx 19 rfl (sub_nil _))))))) (.refl _) ?_
   refine hl_nil ?_
   refine hq_then ?_
   refine hc_ret ?_
   refine hq_block_ret ?_
   refine hq_then_ret ?_
   refine hq_then_ret ?_
   refine hq_block_ret ?_
   refine hq_then_ret ?_
   exfalso
   omega
  ·
   refine hl_less (sx 0 rfl (sx 1 rfl (sx 4 rfl (sx 5 rfl (sx 9 rfl (sx 19 rfl (sub_nil _))))))) (.refl _) ?_
   refine hl_nil ?_
   refine hq_then ?_
   refine hc_false rfl ?_
   refine hc_skip ?_
   refine hq_block_normal ?_
   refine hq_then ?_
   refine hc_region ?_
   refine hl_v rfl rfl rfl (rv_ev rfl) ?_
   refine hl_v rfl rfl rfl (rv_add rfl rfl rfl (by constructor <;> omega)) ?_
   refine hl_v rfl rfl rfl (rv_ev rfl) ?_
   refine hl_less (sx 0 rfl (sx 1 rfl (sx 4 rfl (sx 5 rfl (sx 9 rfl (sx 19 rfl (sub_nil _))))))) (.refl _) ?_
   refine hl_nil ?_
   exact hq_round2 (j + 1) _ ⟨by omega, by show _ = k + ((tot es j + _ : Nat) : Int); omega⟩ (by omega) (sx 0 rfl (sx 1 rfl (sx 4 rfl (sx 5 rfl (sub_nil _))))) (.slnil)
 ·
  refine hl_less (sx 0 rfl (sx 1 rfl (sx 4 rfl (sx 5 rfl (sx 9 rfl (sub_nil _)))))) (.refl _) ?_
  refine hl_nil ?_
  refine hq_then ?_
  refine hc_false rfl ?_
  refine hc_exit ?_
  refine hq_then_exit ?_
  refine hq_then_exit ?_
  refine hq_block_exit ?_
  refine hq_then ?_
  refine hc_seq ?_
  refine hc_region ?_
  refine hl_v rfl rfl rfl (rv_ev rfl) ?_
  refine hl_v rfl rfl rfl (rv_ev rfl) ?_
  refine hl_less (sx 0 rfl (sx 1 rfl (sx 4 rfl (sx 5 rfl (sx 9 rfl (sub_nil _)))))) (.refl _) ?_
  refine hl_nil ?_
  refine hq_then ?_
  refine hc_ret ?_
  exact hq_ans rfl rfl (by rw [hq, show j = es.length by omega])
set_option maxHeartbeats 4000000 in
set_option maxRecDepth 100000 in
theorem walk_FnExactWaveforms (x : Td) (a : Int) (w : World) (hr : RdsTd w x) :
  Calls Try.prog 8 #[.agg #[.int .i64 x.n.ins, x.n.sv, x.n.lv, x.n.ov, x.pv, x.qv, x.kv, x.av, x.bv, .int .i64 x.oi, .int .i64 x.ni], .int .i64 a] w (Ans w (.bool true)) := by
 refine calls_hc (N := 74) (args := [.agg #[.int .i64 x.n.ins, x.n.sv, x.n.lv, x.n.ov, x.pv, x.qv, x.kv, x.av, x.bv, .int .i64 x.oi, .int .i64 x.ni], .int .i64 a]) Try.func8 rfl rfl ?_
 refine hc_less _ (sx 0 rfl (sx 1 rfl (sub_nil _))) (.refl _) ?_
 refine hc_seq ?_
 refine hc_region ?_
 refine hl_box rfl rfl rfl (rq_box rfl rfl) ?_
 intro b1
 refine hl_v rfl rfl rfl (rv_ev rfl) ?_
 refine hl_less (sx 0 rfl (sx 1 rfl (sx 2 rfl (sx 4 rfl (sub_nil _))))) (.refl _) ?_
 refine hl_nil ?_
 refine hq_then ?_
 refine hc_seq ?_
 refine hc_region ?_
 refine hl_v rfl rfl rfl (rv_ev rfl) ?_
 refine hl_less (sx 0 rfl (sx 1 rfl (sx 2 rfl (sx 4 rfl (sx 5 rfl (sub_nil _)))))) (.refl _) ?_
 refine hl_nil ?_
 refine hq_then ?_
 refine hc_seq ?_
 refine hc_region ?_
 refine hl_v rfl rfl rfl (rv_loadN (cs := [.int .i64 x.n.ins, x.n.sv, x.n.lv, x.n.ov, x.pv, x.qv, x.kv, x.av, x.bv, .int .i64 x.oi, .int .i64 x.ni]) rfl (by kernel_rfl) (by kernel_rfl) rfl rfl (box_part 0 rfl 0 rfl)) ?_
 refine hl_v rfl rfl rfl (rv_ev rfl) ?_
 refine hl_q rfl rfl rfl (rq_call (by kernel_rfl) rfl (fun w hm => szTimed_ret x 1048576 w (hr.below hm.bel) (by omega))) ?_
 intro v2 p3 hR4
 obtain ⟨rfl, rhR4, rfl, hszx⟩ := hR4
 refine hl_v rfl rfl rfl (rv_ev rfl) ?_
 refine hl_less (sx 0 rfl (sx 1 rfl (sx 2 rfl (sx 4 rfl (sx 5 rfl (sub_nil _)))))) (.refl _) ?_
 refine hl_nil ?_
 refine hq_then ?_
 refine hc_seq ?_
 refine hc_seq ?_
 refine hc_region ?_
 refine hl_v rfl rfl rfl (rv_ev rfl) ?_
 refine hl_lss rfl rfl rfl rfl rfl rfl (fun h5 => ?_) (fun h5 => ?_)
 ·
  refine hl_less (sx 0 rfl (sx 1 rfl (sx 2 rfl (sx 4 rfl (sx 5 rfl (sx 17 rfl (sub_nil _))))))) (.refl _) ?_
  refine hl_nil ?_
  refine hq_then ?_
  refine hc_true rfl ?_
  refine hc_seq ?_
  refine hc_region ?_
  refine hl_v rfl rfl rfl (rv_ev rfl) ?_
  refine hl_less (sx 0 rfl (sx 1 rfl (sx 2 rfl (sx 4 rfl (sx 5 rfl (sx 17 rfl (sub_nil _))))))) (.refl _) ?_
  refine hl_nil ?_
  refine hq_then ?_
  refine hc_ret ?_
  refine hq_then_ret ?_
  exact hq_ans rfl rfl rfl
 ·
  refine hl_less (sx 0 rfl (sx 1 rfl (sx 2 rfl (sx 4 rfl (sx 5 rfl (sx 17 rfl (sub_nil _))))))) (.refl _) ?_
  refine hl_nil ?_
  refine hq_then ?_
  refine hc_false rfl ?_
  refine hc_skip ?_
  refine hq_then ?_
  refine hc_seq ?_
  refine hc_region ?_
  have hz := hszx (by omega)
  refine hl_v rfl rfl rfl (rv_loadN (cs := [.int .i64 x.n.ins, x.n.sv, x.n.lv, x.n.ov, x.pv, x.qv, x.kv, x.av, x.bv, .int .i64 x.oi, .int .i64 x.ni]) rfl (by kernel_rfl) (by kernel_rfl) rfl rfl (box_part 0 rfl 0 rfl)) ?_
  refine hl_q rfl rfl rfl (rq_call (by kernel_rfl) rfl (fun w hm => toTimed_ret x w (hr.below hm.bel) hz)) ?_
  intro v6 p7 hR8
  obtain ⟨yhR8, rfl, rfl, hshR8, hohR8⟩ := hR8
  have hzhR8 := hz.same hshR8
  refine hl_v rfl rfl rfl (rv_ev rfl) ?_
  refine hl_q rfl rfl rfl (rq_call (by kernel_rfl) rfl (fun w hm => by have h9 := specWaveforms_ret yhR8 a w (td_rds 0 rfl w hm); rw [wavR_same hshR8] at h9; exact h9)) ?_
  intro v9 p10 hR11
  obtain ⟨zhR11, rfl, chR11⟩ := hR11
  have nhR11 := wav_sz2 chR11
  have thR11 := wav_tot chR11
  refine hl_v rfl rfl rfl (rv_ev rfl) ?_
  refine hl_less (sx 0 rfl (sx 1 rfl (sx 2 rfl (sx 4 rfl (sx 5 rfl (sx 6 rfl (sx 17 rfl (sub_nil _)))))))) (.refl _) ?_
  refine hl_nil ?_
  refine hq_then ?_
  refine hc_seq ?_
  refine hc_region ?_
  refine hl_v rfl rfl rfl (rv_loadN (cs := [.int .i64 x.n.ins, x.n.sv, x.n.lv, x.n.ov, x.pv, x.qv, x.kv, x.av, x.bv, .int .i64 x.oi, .int .i64 x.ni]) rfl (by kernel_rfl) (by kernel_rfl) rfl rfl (box_part 2 rfl 0 rfl)) ?_
  refine hl_q rfl rfl rfl (rq_call (by kernel_rfl) rfl (fun w hm => toTimed_ret x w (hr.below hm.bel) hz)) ?_
  intro v12 p13 hR14
  obtain ⟨yhR14, rfl, rfl, hshR14, hohR14⟩ := hR14
  have hzhR14 := hz.same hshR14
  refine hl_box rfl rfl rfl (rq_alloc (z := .agg #[.int .i64 0, .slice none 0 0, .slice none 0 0, .slice none 0 0, .slice none 0 0, .slice none 0 0, .slice none 0 0, .slice none 0 0, .slice none 0 0, .int .i64 0, .int .i64 0]) rfl (by kernel_rfl)) ?_
  intro b15
  refine hl_storeBoxN (i := 0) (off := 0) (us := [.int .i64 yhR14.n.ins, yhR14.n.sv, yhR14.n.lv, yhR14.n.ov, yhR14.pv, yhR14.qv, yhR14.kv, yhR14.av, yhR14.bv, .int .i64 yhR14.oi, .int .i64 yhR14.ni]) (cs' := #[.int .i64 yhR14.n.ins, yhR14.n.sv, yhR14.n.lv, yhR14.n.ov, yhR14.pv, yhR14.qv, yhR14.kv, yhR14.av, yhR14.bv, .int .i64 yhR14.oi, .int .i64 yhR14.ni]) (l' := [boxE b15 #[.int .i64 yhR14.n.ins, yhR14.n.sv, yhR14.n.lv, yhR14.n.ov, yhR14.pv, yhR14.qv, yhR14.kv, yhR14.av, yhR14.bv, .int .i64 yhR14.oi, .int .i64 yhR14.ni] 40, tdE yhR14, irsE v9 zhR11, tdE yhR8, boxE b1 #[.int .i64 x.n.ins, x.n.sv, x.n.lv, x.n.ov, x.pv, x.qv, x.kv, x.av, x.bv, .int .i64 x.oi, .int .i64 x.ni] 31]) rfl rfl rfl (by kernel_rfl) rfl rfl rfl (all_cons rfl (all_cons hohR14.sv (all_cons hohR14.lv (all_cons hohR14.ov (all_cons hohR14.pv (all_cons hohR14.qv (all_cons hohR14.kv (all_cons hohR14.av (all_cons hohR14.bv (all_cons rfl (all_cons rfl all_nil))))))))))) rfl (by kernel_rfl) rfl ?_
  refine hl_less (sx 0 rfl (sx 1 rfl (sx 2 rfl (sx 4 rfl (sx 5 rfl (sx 6 rfl (sx 7 rfl (sx 17 rfl (sub_nil _))))))))) (.refl _) ?_
  refine hl_nil ?_
  refine hq_then ?_
  refine hc_seq ?_
  refine hc_region ?_
  refine hl_v rfl rfl rfl (rv_loadN (cs := [.int .i64 yhR14.n.ins, yhR14.n.sv, yhR14.n.lv, yhR14.n.ov, yhR14.pv, yhR14.qv, yhR14.kv, yhR14.av, yhR14.bv, .int .i64 yhR14.oi, .int .i64 yhR14.ni]) rfl (by kernel_rfl) (by kernel_rfl) rfl rfl (box_part 0 rfl 0 rfl)) ?_
  refine hl_v rfl rfl rfl (rv_ev rfl) ?_
  refine hl_q rfl rfl rfl (rq_call (by kernel_rfl) rfl (fun w hm => by have h9 := implWaveforms_ret yhR14 a w (td_rds 1 rfl w hm); rw [wavR_same hshR14] at h9; exact h9)) ?_
  intro v16 p17 hR18
  obtain ⟨zhR18, rfl, chR18⟩ := hR18
  have nhR18 := wav_sz2 chR18
  have thR18 := wav_tot chR18
  refine hl_v rfl rfl rfl (rv_ev rfl) ?_
  refine hl_less (sx 0 rfl (sx 1 rfl (sx 2 rfl (sx 4 rfl (sx 5 rfl (sx 6 rfl (sx 7 rfl (sx 8 rfl (sx 17 rfl (sub_nil _)))))))))) (.refl _) ?_
  refine hl_nil ?_
  refine hq_then ?_
  refine hc_seq ?_
  refine hc_seq ?_
  refine hc_region ?_
  refine hl_v rfl rfl rfl (rv_ev rfl) ?_
  refine hl_v rfl rfl rfl (rv_ev rfl) ?_
  refine hl_callV rfl rfl rfl (rq_call (by kernel_rfl) rfl (fun w hm => ret_ans (eqIntR_yes zhR18 zhR11 _ _ w (rdsX_of 0 rfl w hm) (rdsX_of 3 rfl w hm) (chR18.trans chR11.symm) (wav_sz2 chR18)))) ?_
  refine hl_v rfl rfl rfl (rv_ev rfl) ?_
  refine hl_less (sx 0 rfl (sx 1 rfl (sx 2 rfl (sx 4 rfl (sx 5 rfl (sx 6 rfl (sx 7 rfl (sx 8 rfl (sx 17 rfl (sx 30 rfl (sub_nil _))))))))))) (.refl _) ?_
  refine hl_nil ?_
  refine hq_then ?_
  refine hc_false rfl ?_
  refine hc_skip ?_
  refine hq_then ?_
  refine hc_seq ?_
  refine hc_seq ?_
  refine hc_draw (by kernel_rfl) 5 [0, 1, 2, 3, 4] (List.take 5 _) (List.drop 5 _) [[], [], [1], [0, 2], [2, 3]] [31, 32, 33, 34, 35] (fun i_ vs_ v_ p_ => match i_ with | 0 => v_ = .agg #[.int .i64 yhR14.n.ins, yhR14.n.sv, yhR14.n.lv, yhR14.n.ov, yhR14.pv, yhR14.qv, yhR14.kv, yhR14.av, yhR14.bv, .int .i64 yhR14.oi, .int .i64 yhR14.ni] ∧ p_ = [] | 1 => v_ = .agg #[.int .i64 x.n.ins, x.n.sv, x.n.lv, x.n.ov, x.pv, x.qv, x.kv, x.av, x.bv, .int .i64 x.oi, .int .i64 x.ni] ∧ p_ = [] | 2 => (fun v_ p_ => ∃ y : Td, v_ = y.agg ∧ p_ = [tdE y] ∧ Same x y ∧ OneTd y) v_ p_ | 3 => v_ = .bool true ∧ p_ = [] | 4 => v_ = .bool false ∧ p_ = [] | _ => True) (List.take_append_drop 5 _).symm (by kernel_rfl) (by kernel_rfl) rfl rfl ?_ ?_
  ·
   refine ⟨?_, ?_, ?_, ?_, ?_, trivial⟩
   ·
    intro vf pf hR
    refine Or.inl ⟨rfl, ?_⟩
    refine rq_less (sx 7 rfl (sub_nil _)) (List.sublist_append_right _ _) ?_
    exact rq_v (rv_loadN (cs := [.int .i64 yhR14.n.ins, yhR14.n.sv, yhR14.n.lv, yhR14.n.ov, yhR14.pv, yhR14.qv, yhR14.kv, yhR14.av, yhR14.bv, .int .i64 yhR14.oi, .int .i64 yhR14.ni]) rfl (by kernel_rfl) (by kernel_rfl) rfl rfl (box_part 1 rfl 0 rfl))
   ·
    intro vf pf hR
    refine Or.inl ⟨rfl, ?_⟩
    refine rq_less (sx 2 rfl (sub_nil _)) (List.sublist_append_right _ _) ?_
    exact rq_v (rv_loadN (cs := [.int .i64 x.n.ins, x.n.sv, x.n.lv, x.n.ov, x.pv, x.qv, x.kv, x.av, x.bv, .int .i64 x.oi, .int .i64 x.ni]) rfl (by kernel_rfl) (by kernel_rfl) rfl rfl (box_part 5 rfl 0 rfl))
   ·
    intro vf pf hR
    have e1 : (vf 1) = .agg #[.int .i64 x.n.ins, x.n.sv, x.n.lv, x.n.ov, x.pv, x.qv, x.kv, x.av, x.bv, .int .i64 x.oi, .int .i64 x.ni] ∧ (pf 1) = [] := hR 1 (by decide)
    refine Or.inl ⟨rfl, ?_⟩
    refine rq_less (sx 32 (congrArg some e1.1) (sub_nil _)) (List.sublist_append_right _ _) ?_
    exact rq_call (by kernel_rfl) rfl (fun w hm => toTimed_ret x w (hr.below hm.bel) hz)
   ·
    intro vf pf hR
    have e0 : (vf 0) = .agg #[.int .i64 yhR14.n.ins, yhR14.n.sv, yhR14.n.lv, yhR14.n.ov, yhR14.pv, yhR14.qv, yhR14.kv, yhR14.av, yhR14.bv, .int .i64 yhR14.oi, .int .i64 yhR14.ni] ∧ (pf 0) = [] := hR 0 (by decide)
    have e2 : (fun v_ p_ => ∃ y : Td, v_ = y.agg ∧ p_ = [tdE y] ∧ Same x y ∧ OneTd y) (vf 2) (pf 2) := hR 2 (by decide)
    obtain ⟨v19, v2⟩ : ∃ x, vf 2 = x := ⟨_, rfl⟩
    obtain ⟨p20, p2⟩ : ∃ x, pf 2 = x := ⟨_, rfl⟩
    have hR21 := e2
    rw [v2, p2] at hR21
    obtain ⟨yhR21, rfl, rfl, hshR21, hohR21⟩ := hR21
    have hzhR21 := hz.same hshR21
    refine Or.inl ⟨rfl, ?_⟩
    refine rq_less (l' := [tdE yhR21, irsE v16 zhR18, boxE b15 #[.int .i64 yhR14.n.ins, yhR14.n.sv, yhR14.n.lv, yhR14.n.ov, yhR14.pv, yhR14.qv, yhR14.kv, yhR14.av, yhR14.bv, .int .i64 yhR14.oi, .int .i64 yhR14.ni] 40, tdE yhR14, irsE v9 zhR11, tdE yhR8, boxE b1 #[.int .i64 x.n.ins, x.n.sv, x.n.lv, x.n.ov, x.pv, x.qv, x.kv, x.av, x.bv, .int .i64 x.oi, .int .i64 x.ni] 31]) (sx 31 (congrArg some e0.1) (sx 33 (congrArg some v2) (sub_nil _))) (by first | (simp only [p2, v2, e0.2, List.flatMap_cons, List.flatMap_nil, List.append_nil, List.nil_append, List.cons_append]; exact List.Sublist.refl _) | simp [p2, v2, e0.2]) ?_
    exact (rq_call (by kernel_rfl) rfl (fun w hm => ret_ans (eqTimed_yes yhR14 yhR21 w (td_rds 3 rfl w hm) (td_rds 0 rfl w hm) (hshR21.symm.trans hshR14) hzhR14)))
   ·
    intro vf pf hR
    have e2 : (fun v_ p_ => ∃ y : Td, v_ = y.agg ∧ p_ = [tdE y] ∧ Same x y ∧ OneTd y) (vf 2) (pf 2) := hR 2 (by decide)
    obtain ⟨v19, v2⟩ : ∃ x, vf 2 = x := ⟨_, rfl⟩
    obtain ⟨p20, p2⟩ : ∃ x, pf 2 = x := ⟨_, rfl⟩
    have hR21 := e2
    rw [v2, p2] at hR21
    obtain ⟨yhR21, rfl, rfl, hshR21, hohR21⟩ := hR21
    have hzhR21 := hz.same hshR21
    have e3 : (vf 3) = .bool true ∧ (pf 3) = [] := hR 3 (by decide)
    refine Or.inl ⟨rfl, ?_⟩
    refine rq_less (l' := [tdE yhR21, irsE v16 zhR18, boxE b15 #[.int .i64 yhR14.n.ins, yhR14.n.sv, yhR14.n.lv, yhR14.n.ov, yhR14.pv, yhR14.qv, yhR14.kv, yhR14.av, yhR14.bv, .int .i64 yhR14.oi, .int .i64 yhR14.ni] 40, tdE yhR14, irsE v9 zhR11, tdE yhR8, boxE b1 #[.int .i64 x.n.ins, x.n.sv, x.n.lv, x.n.ov, x.pv, x.qv, x.kv, x.av, x.bv, .int .i64 x.oi, .int .i64 x.ni] 31]) (sx 34 (congrArg some e3.1) (sub_nil _)) (by first | (simp only [p2, v2, e3.2, List.flatMap_cons, List.flatMap_nil, List.append_nil, List.nil_append, List.cons_append]; exact List.Sublist.refl _) | simp [p2, v2, e3.2]) ?_
    exact rq_v (rv_ev rfl)
  ·
   intro vf pf hR
   have e2 : (fun v_ p_ => ∃ y : Td, v_ = y.agg ∧ p_ = [tdE y] ∧ Same x y ∧ OneTd y) (vf 2) (pf 2) := hR 2 (by decide)
   obtain ⟨v19, v2⟩ : ∃ x, vf 2 = x := ⟨_, rfl⟩
   obtain ⟨p20, p2⟩ : ∃ x, pf 2 = x := ⟨_, rfl⟩
   have hR21 := e2
   rw [v2, p2] at hR21
   obtain ⟨yhR21, rfl, rfl, hshR21, hohR21⟩ := hR21
   have hzhR21 := hz.same hshR21
   have e4 : (vf 4) = .bool false ∧ (pf 4) = [] := hR 4 (by decide)
   have q0 : (vf 0) = .agg #[.int .i64 yhR14.n.ins, yhR14.n.sv, yhR14.n.lv, yhR14.n.ov, yhR14.pv, yhR14.qv, yhR14.kv, yhR14.av, yhR14.bv, .int .i64 yhR14.oi, .int .i64 yhR14.ni] ∧ (pf 0) = [] := hR 0 (by decide)
   have q1 : (vf 1) = .agg #[.int .i64 x.n.ins, x.n.sv, x.n.lv, x.n.ov, x.pv, x.qv, x.kv, x.av, x.bv, .int .i64 x.oi, .int .i64 x.ni] ∧ (pf 1) = [] := hR 1 (by decide)
   have q3 : (vf 3) = .bool true ∧ (pf 3) = [] := hR 3 (by decide)
   have q4 : (vf 4) = .bool false ∧ (pf 4) = [] := hR 4 (by decide)
   refine hl_less (l' := [tdE yhR21, irsE v16 zhR18, boxE b15 #[.int .i64 yhR14.n.ins, yhR14.n.sv, yhR14.n.lv, yhR14.n.ov, yhR14.pv, yhR14.qv, yhR14.kv, yhR14.av, yhR14.bv, .int .i64 yhR14.oi, .int .i64 yhR14.ni] 40, tdE yhR14, irsE v9 zhR11, tdE yhR8, boxE b1 #[.int .i64 x.n.ins, x.n.sv, x.n.lv, x.n.ov, x.pv, x.qv, x.kv, x.av, x.bv, .int .i64 x.oi, .int .i64 x.ni] 31]) (sx 0 rfl (sx 1 rfl (sx 2 rfl (sx 4 rfl (sx 5 rfl (sx 6 rfl (sx 7 rfl (sx 8 rfl (sx 17 rfl (sx 30 rfl (sx 35 (congrArg some e4.1) (sub_nil _)))))))))))) (by first | (simp only [p2, v2, q0.2, q1.2, q3.2, q4.2, List.flatMap_cons, List.flatMap_nil, List.append_nil, List.nil_append, List.cons_append]; exact List.Sublist.refl _) | simp [p2, v2, q0.2, q1.2, q3.2, q4.2]) ?_
   simp only [List.drop_succ_cons, List.drop_zero]
   refine hl_less (sx 0 rfl (sx 1 rfl (sx 2 rfl (sx 4 rfl (sx 5 rfl (sx 6 rfl (sx 7 rfl (sx 8 rfl (sx 17 rfl (sx 30 rfl (sx 35 rfl (sub_nil _)))))))))))) (.refl _) ?_
   refine hl_nil ?_
   refine hq_then ?_
   refine hc_false rfl ?_
   refine hc_skip ?_
   refine hq_then ?_
   refine hc_seq ?_
   refine hc_region ?_
   refine hl_v rfl rfl rfl (rv_ev rfl) ?_
   refine hl_less (sx 0 rfl (sx 1 rfl (sx 2 rfl (sx 4 rfl (sx 5 rfl (sx 6 rfl (sx 7 rfl (sx 8 rfl (sx 9 rfl (sx 17 rfl (sx 30 rfl (sx 35 rfl (sub_nil _))))))))))))) (.refl _) ?_
   refine hl_nil ?_
   refine hq_then ?_
   refine hc_seq ?_
   refine hc_region ?_
   refine hl_v rfl rfl rfl (rv_loadN (cs := [.int .i64 yhR14.n.ins, yhR14.n.sv, yhR14.n.lv, yhR14.n.ov, yhR14.pv, yhR14.qv, yhR14.kv, yhR14.av, yhR14.bv, .int .i64 yhR14.oi, .int .i64 yhR14.ni]) rfl (by kernel_rfl) (by kernel_rfl) rfl rfl (box_part 2 rfl 0 rfl)) ?_
   refine hl_v rfl rfl rfl (rv_ev rfl) ?_
   refine hl_callM (R := (fun u_ p_ => ∃ q : Int, u_ = .int .i64 q ∧ 1 ≤ q ∧ q ≤ 1 + 30000000000000)) 3 rfl rfl (by kernel_rfl) rfl rfl (fun l' w hm => markTimed_mut yhR14 1 _ _ w hm (by omega) hzhR14 hohR14) ?_
   intro v22 p23 hR24
   obtain ⟨qhR24, rfl, ahR24, bhR24⟩ := hR24
   refine hl_eqL (l' := [tdE yhR21, irsE v16 zhR18, boxE b15 #[.int .i64 yhR14.n.ins, yhR14.n.sv, yhR14.n.lv, yhR14.n.ov, yhR14.pv, yhR14.qv, yhR14.kv, yhR14.av, yhR14.bv, .int .i64 yhR14.oi, .int .i64 yhR14.ni] 40, p23, irsE v9 zhR11, tdE yhR8, boxE b1 #[.int .i64 x.n.ins, x.n.sv, x.n.lv, x.n.ov, x.pv, x.qv, x.kv, x.av, x.bv, .int .i64 x.oi, .int .i64 x.ni] 31]) rfl ?_
   refine hl_v rfl rfl rfl (rv_ev rfl) ?_
   refine hl_less (sx 0 rfl (sx 1 rfl (sx 2 rfl (sx 4 rfl (sx 5 rfl (sx 6 rfl (sx 7 rfl (sx 8 rfl (sx 9 rfl (sx 17 rfl (sx 30 rfl (sx 35 rfl (sub_nil _))))))))))))) (.refl _) ?_
   refine hl_nil ?_
   refine hq_then ?_
   refine hc_seq ?_
   refine hc_seq ?_
   refine hc_region ?_
   refine hl_v rfl rfl rfl (rv_ev rfl) ?_
   refine hl_lss rfl rfl rfl rfl rfl rfl (fun h25 => ?_) (fun h25 => ?_)
   ·
    refine hl_v rfl rfl rfl (rv_ev rfl) ?_
    refine hl_skip rfl rfl rfl ?_
    refine hl_skip rfl rfl rfl ?_
    refine hl_skip rfl rfl rfl ?_
    refine hl_skip rfl rfl rfl ?_
    refine hl_v rfl rfl rfl (rv_ev rfl) ?_
    refine hl_less (sx 0 rfl (sx 1 rfl (sx 2 rfl (sx 4 rfl (sx 5 rfl (sx 6 rfl (sx 7 rfl (sx 8 rfl (sx 9 rfl (sx 17 rfl (sx 30 rfl (sx 35 rfl (sx 46 rfl (sub_nil _)))))))))))))) (.refl _) ?_
    refine hl_nil ?_
    refine hq_then ?_
    refine hc_true rfl ?_
    refine hc_seq ?_
    refine hc_region ?_
    refine hl_v rfl rfl rfl (rv_ev rfl) ?_
    refine hl_less (sx 0 rfl (sx 1 rfl (sx 2 rfl (sx 4 rfl (sx 5 rfl (sx 6 rfl (sx 7 rfl (sx 8 rfl (sx 9 rfl (sx 17 rfl (sx 30 rfl (sx 35 rfl (sx 46 rfl (sub_nil _)))))))))))))) (.refl _) ?_
    refine hl_nil ?_
    refine hq_then ?_
    refine hc_ret ?_
    refine hq_then_ret ?_
    exfalso
    omega
   ·
    refine hl_v rfl rfl rfl (rv_ev rfl) ?_
    refine hl_v rfl rfl rfl (rv_ev rfl) ?_
    refine hl_v rfl rfl rfl (rv_ev rfl) ?_
    refine hl_callV rfl rfl rfl (rq_call (by kernel_rfl) rfl (fun w hm => ret_ans (eqIntR_yes zhR18 zhR11 _ _ w (rdsX_of 1 rfl w hm) (rdsX_of 4 rfl w hm) (chR18.trans chR11.symm) (wav_sz2 chR18)))) ?_
    refine hl_v rfl rfl rfl (rv_ev rfl) ?_
    refine hl_v rfl rfl rfl (rv_ev rfl) ?_
    refine hl_less (sx 0 rfl (sx 1 rfl (sx 2 rfl (sx 4 rfl (sx 5 rfl (sx 6 rfl (sx 7 rfl (sx 8 rfl (sx 9 rfl (sx 17 rfl (sx 30 rfl (sx 35 rfl (sx 46 rfl (sub_nil _)))))))))))))) (.refl _) ?_
    refine hl_nil ?_
    refine hq_then ?_
    refine hc_false rfl ?_
    refine hc_skip ?_
    refine hq_then ?_
    refine hc_seq ?_
    refine hc_region ?_
    refine hl_v rfl rfl rfl (rv_ev rfl) ?_
    refine hl_less (sx 0 rfl (sx 1 rfl (sx 2 rfl (sx 4 rfl (sx 5 rfl (sx 6 rfl (sx 7 rfl (sx 8 rfl (sx 9 rfl (sx 10 rfl (sx 17 rfl (sx 30 rfl (sx 35 rfl (sx 46 rfl (sub_nil _))))))))))))))) (.refl _) ?_
    refine hl_nil ?_
    refine hq_then ?_
    refine hc_seq ?_
    refine hc_region ?_
    refine hl_v rfl rfl rfl (rv_ev rfl) ?_
    refine hl_v rfl rfl rfl (rv_ev rfl) ?_
    refine hl_callM (R := (fun u_ p_ => ∃ zs : List IR, u_ = .int .i64 (1 + tot zhR18 zhR18.length) ∧ p_ = irsE v16 zs ∧ MkOk zhR18 1 zhR18.length zs)) 1 rfl rfl (by kernel_rfl) rfl rfl (fun l' w hm => markIrX_mut zhR18 1 v16 _ _ w hm (by omega) (wav_sz2 chR18) (wav_tot chR18)) ?_
    intro v26 p27 hR28
    obtain ⟨ghR28, rfl, rfl, mhR28⟩ := hR28
    refine hl_eqL (l' := [tdE yhR21, irsE v16 ghR28, boxE b15 #[.int .i64 yhR14.n.ins, yhR14.n.sv, yhR14.n.lv, yhR14.n.ov, yhR14.pv, yhR14.qv, yhR14.kv, yhR14.av, yhR14.bv, .int .i64 yhR14.oi, .int .i64 yhR14.ni] 40, p23, irsE v9 zhR11, tdE yhR8, boxE b1 #[.int .i64 x.n.ins, x.n.sv, x.n.lv, x.n.ov, x.pv, x.qv, x.kv, x.av, x.bv, .int .i64 x.oi, .int .i64 x.ni] 31]) rfl ?_
    refine hl_v rfl rfl rfl (rv_ev rfl) ?_
    refine hl_less (sx 0 rfl (sx 1 rfl (sx 2 rfl (sx 4 rfl (sx 5 rfl (sx 6 rfl (sx 7 rfl (sx 8 rfl (sx 9 rfl (sx 10 rfl (sx 17 rfl (sx 30 rfl (sx 35 rfl (sx 46 rfl (sub_nil _))))))))))))))) (.refl _) ?_
    refine hl_nil ?_
    refine hq_then ?_
    refine hc_seq ?_
    refine hc_region ?_
    refine hl_v rfl rfl rfl (rv_ev rfl) ?_
    refine hl_less (sx 0 rfl (sx 1 rfl (sx 2 rfl (sx 4 rfl (sx 5 rfl (sx 6 rfl (sx 7 rfl (sx 8 rfl (sx 9 rfl (sx 10 rfl (sx 11 rfl (sx 17 rfl (sx 30 rfl (sx 35 rfl (sx 46 rfl (sub_nil _)))))))))))))))) (.refl _) ?_
    refine hl_nil ?_
    refine hq_then ?_
    refine hc_seq ?_
    refine hc_region ?_
    refine hl_v rfl rfl rfl (rv_ev rfl) ?_
    refine hl_v rfl rfl rfl (rv_ev rfl) ?_
    refine hl_callV rfl rfl rfl (rq_call (by kernel_rfl) rfl (fun w hm => ret_ans (heldIrX_ans zhR18 ghR28 1 _ w (rdsX_of 1 rfl w hm) mhR28.len mhR28.lo (by omega) (wav_tot chR18)))) ?_
    refine hl_v rfl rfl rfl (rv_ev rfl) ?_
    refine hl_less (sx 0 rfl (sx 1 rfl (sx 2 rfl (sx 4 rfl (sx 5 rfl (sx 6 rfl (sx 7 rfl (sx 8 rfl (sx 9 rfl (sx 10 rfl (sx 11 rfl (sx 17 rfl (sx 30 rfl (sx 35 rfl (sx 46 rfl (sub_nil _)))))))))))))))) (.refl _) ?_
    refine hl_nil ?_
    refine hq_then ?_
    refine hc_seq ?_
    refine hc_seq ?_
    refine hc_region ?_
    refine hl_v rfl rfl rfl (rv_ev rfl) ?_
    refine hl_lss rfl rfl rfl rfl rfl rfl (fun h29 => ?_) (fun h29 => ?_)
    ·
     refine hl_less (sx 0 rfl (sx 1 rfl (sx 2 rfl (sx 4 rfl (sx 5 rfl (sx 6 rfl (sx 7 rfl (sx 8 rfl (sx 9 rfl (sx 10 rfl (sx 11 rfl (sx 17 rfl (sx 30 rfl (sx 35 rfl (sx 46 rfl (sx 54 rfl (sub_nil _))))))))))))))))) (.refl _) ?_
     refine hl_nil ?_
     refine hq_then ?_
     refine hc_true rfl ?_
     refine hc_seq ?_
     refine hc_region ?_
     refine hl_v rfl rfl rfl (rv_ev rfl) ?_
     refine hl_less (sx 0 rfl (sx 1 rfl (sx 2 rfl (sx 4 rfl (sx 5 rfl (sx 6 rfl (sx 7 rfl (sx 8 rfl (sx 9 rfl (sx 10 rfl (sx 11 rfl (sx 17 rfl (sx 30 rfl (sx 35 rfl (sx 46 rfl (sx 54 rfl (sub_nil _))))))))))))))))) (.refl _) ?_
     refine hl_nil ?_
     refine hq_then ?_
     refine hc_ret ?_
     refine hq_then_ret ?_
     exfalso
     omega
    ·
     refine hl_less (sx 0 rfl (sx 1 rfl (sx 2 rfl (sx 4 rfl (sx 5 rfl (sx 6 rfl (sx 7 rfl (sx 8 rfl (sx 9 rfl (sx 10 rfl (sx 11 rfl (sx 17 rfl (sx 30 rfl (sx 35 rfl (sx 46 rfl (sx 54 rfl (sub_nil _))))))))))))))))) (.refl _) ?_
     refine hl_nil ?_
     refine hq_then ?_
     refine hc_false rfl ?_
     refine hc_skip ?_
     refine hq_then ?_
     refine hc_seq ?_
     refine hc_seq ?_
     refine hc_region ?_
     refine hl_v rfl rfl rfl (rv_ev rfl) ?_
     refine hl_v rfl rfl rfl (rv_ev rfl) ?_
     refine hl_neq rfl rfl rfl rfl rfl rfl (fun h30 => ?_) (fun h30 => ?_)
     ·
      refine hl_less (sx 0 rfl (sx 1 rfl (sx 2 rfl (sx 4 rfl (sx 5 rfl (sx 6 rfl (sx 7 rfl (sx 8 rfl (sx 9 rfl (sx 10 rfl (sx 11 rfl (sx 17 rfl (sx 30 rfl (sx 35 rfl (sx 46 rfl (sx 54 rfl (sx 57 rfl (sub_nil _)))))))))))))))))) (.refl _) ?_
      refine hl_nil ?_
      refine hq_then ?_
      refine hc_true rfl ?_
      refine hc_seq ?_
      refine hc_region ?_
      refine hl_v rfl rfl rfl (rv_ev rfl) ?_
      refine hl_less (sx 0 rfl (sx 1 rfl (sx 2 rfl (sx 4 rfl (sx 5 rfl (sx 6 rfl (sx 7 rfl (sx 8 rfl (sx 9 rfl (sx 10 rfl (sx 11 rfl (sx 17 rfl (sx 30 rfl (sx 35 rfl (sx 46 rfl (sx 54 rfl (sx 57 rfl (sub_nil _)))))))))))))))))) (.refl _) ?_
      refine hl_nil ?_
      refine hq_then ?_
      refine hc_ret ?_
      refine hq_then_ret ?_
      exfalso
      omega
     ·
      refine hl_less (sx 0 rfl (sx 1 rfl (sx 2 rfl (sx 4 rfl (sx 5 rfl (sx 6 rfl (sx 7 rfl (sx 8 rfl (sx 9 rfl (sx 10 rfl (sx 11 rfl (sx 17 rfl (sx 30 rfl (sx 35 rfl (sx 46 rfl (sx 54 rfl (sx 57 rfl (sub_nil _)))))))))))))))))) (.refl _) ?_
      refine hl_nil ?_
      refine hq_then ?_
      refine hc_false rfl ?_
      refine hc_skip ?_
      refine hq_then ?_
      refine hc_seq ?_
      refine hc_region ?_
      refine hl_v rfl rfl rfl (rv_loadN (cs := [.int .i64 x.n.ins, x.n.sv, x.n.lv, x.n.ov, x.pv, x.qv, x.kv, x.av, x.bv, .int .i64 x.oi, .int .i64 x.ni]) rfl (by kernel_rfl) (by kernel_rfl) rfl rfl (box_part 6 rfl 0 rfl)) ?_
      refine hl_q rfl rfl rfl (rq_call (by kernel_rfl) rfl (fun w hm => toTimed_ret x w (hr.below hm.bel) hz)) ?_
      intro v31 p32 hR33
      obtain ⟨yhR33, rfl, rfl, hshR33, hohR33⟩ := hR33
      have hzhR33 := hz.same hshR33
      refine hl_v rfl rfl rfl (rv_ev rfl) ?_
      refine hl_q rfl rfl rfl (rq_call (by kernel_rfl) rfl (fun w hm => by have h9 := implWaveforms_ret yhR33 a w (td_rds 0 rfl w hm); rw [wavR_same hshR33] at h9; exact h9)) ?_
      intro v34 p35 hR36
      obtain ⟨zhR36, rfl, chR36⟩ := hR36
      have nhR36 := wav_sz2 chR36
      have thR36 := wav_tot chR36
      refine hl_v rfl rfl rfl (rv_ev rfl) ?_
      refine hl_less (sx 0 rfl (sx 1 rfl (sx 2 rfl (sx 4 rfl (sx 5 rfl (sx 6 rfl (sx 7 rfl (sx 8 rfl (sx 9 rfl (sx 10 rfl (sx 11 rfl (sx 12 rfl (sx 17 rfl (sx 30 rfl (sx 35 rfl (sx 46 rfl (sx 54 rfl (sx 57 rfl (sub_nil _))))))))))))))))))) (.refl _) ?_
      refine hl_nil ?_
      refine hq_then ?_
      refine hc_seq ?_
      refine hc_seq ?_
      refine hc_region ?_
      refine hl_v rfl rfl rfl (rv_ev rfl) ?_
      refine hl_v rfl rfl rfl (rv_ev rfl) ?_
      refine hl_callV rfl rfl rfl (rq_call (by kernel_rfl) rfl (fun w hm => ret_ans (eqIntR_yes zhR36 zhR11 _ _ w (rdsX_of 0 rfl w hm) (rdsX_of 6 rfl w hm) (chR36.trans chR11.symm) (wav_sz2 chR36)))) ?_
      refine hl_v rfl rfl rfl (rv_ev rfl) ?_
      refine hl_less (sx 0 rfl (sx 1 rfl (sx 2 rfl (sx 4 rfl (sx 5 rfl (sx 6 rfl (sx 7 rfl (sx 8 rfl (sx 9 rfl (sx 10 rfl (sx 11 rfl (sx 12 rfl (sx 17 rfl (sx 30 rfl (sx 35 rfl (sx 46 rfl (sx 54 rfl (sx 57 rfl (sx 65 rfl (sub_nil _)))))))))))))))))))) (.refl _) ?_
      refine hl_nil ?_
      refine hq_then ?_
      refine hc_false rfl ?_
      refine hc_skip ?_
      refine hq_then ?_
      refine hc_seq ?_
      refine hc_region ?_
      refine hl_v rfl rfl rfl (rv_ev rfl) ?_
      refine hl_less (sx 0 rfl (sx 1 rfl (sx 2 rfl (sx 4 rfl (sx 5 rfl (sx 6 rfl (sx 7 rfl (sx 8 rfl (sx 9 rfl (sx 10 rfl (sx 11 rfl (sx 12 rfl (sx 17 rfl (sx 30 rfl (sx 35 rfl (sx 46 rfl (sx 54 rfl (sx 57 rfl (sx 65 rfl (sub_nil _)))))))))))))))))))) (.refl _) ?_
      refine hl_nil ?_
      refine hq_then ?_
      refine hc_seq ?_
      refine hc_region ?_
      refine hl_v rfl rfl rfl (rv_ev rfl) ?_
      refine hl_v rfl rfl rfl (rv_ev rfl) ?_
      refine hl_callV rfl rfl rfl (rq_call (by kernel_rfl) rfl (fun w hm => ret_ans (heldIrX_ans zhR18 ghR28 1 _ w (rdsX_of 3 rfl w hm) mhR28.len mhR28.lo (by omega) (wav_tot chR18)))) ?_
      refine hl_v rfl rfl rfl (rv_ev rfl) ?_
      refine hl_less (sx 0 rfl (sx 1 rfl (sx 2 rfl (sx 4 rfl (sx 5 rfl (sx 6 rfl (sx 7 rfl (sx 8 rfl (sx 9 rfl (sx 10 rfl (sx 11 rfl (sx 12 rfl (sx 17 rfl (sx 30 rfl (sx 35 rfl (sx 46 rfl (sx 54 rfl (sx 57 rfl (sx 65 rfl (sub_nil _)))))))))))))))))))) (.refl _) ?_
      refine hl_nil ?_
      refine hq_then ?_
      refine hc_seq ?_
      refine hc_seq ?_
      refine hc_region ?_
      refine hl_v rfl rfl rfl (rv_ev rfl) ?_
      refine hl_lss rfl rfl rfl rfl rfl rfl (fun h37 => ?_) (fun h37 => ?_)
      ·
       refine hl_less (sx 0 rfl (sx 1 rfl (sx 2 rfl (sx 4 rfl (sx 5 rfl (sx 6 rfl (sx 7 rfl (sx 8 rfl (sx 9 rfl (sx 10 rfl (sx 11 rfl (sx 12 rfl (sx 17 rfl (sx 30 rfl (sx 35 rfl (sx 46 rfl (sx 54 rfl (sx 57 rfl (sx 65 rfl (sx 70 rfl (sub_nil _))))))))))))))))))))) (.refl _) ?_
       refine hl_nil ?_
       refine hq_then ?_
       refine hc_true rfl ?_
       refine hc_seq ?_
       refine hc_region ?_
       refine hl_v rfl rfl rfl (rv_ev rfl) ?_
       refine hl_less (sx 0 rfl (sx 1 rfl (sx 2 rfl (sx 4 rfl (sx 5 rfl (sx 6 rfl (sx 7 rfl (sx 8 rfl (sx 9 rfl (sx 10 rfl (sx 11 rfl (sx 12 rfl (sx 17 rfl (sx 30 rfl (sx 35 rfl (sx 46 rfl (sx 54 rfl (sx 57 rfl (sx 65 rfl (sx 70 rfl (sub_nil _))))))))))))))))))))) (.refl _) ?_
       refine hl_nil ?_
       refine hq_then ?_
       refine hc_ret ?_
       refine hq_then_ret ?_
       exfalso
       omega
      ·
       refine hl_less (sx 0 rfl (sx 1 rfl (sx 2 rfl (sx 4 rfl (sx 5 rfl (sx 6 rfl (sx 7 rfl (sx 8 rfl (sx 9 rfl (sx 10 rfl (sx 11 rfl (sx 12 rfl (sx 17 rfl (sx 30 rfl (sx 35 rfl (sx 46 rfl (sx 54 rfl (sx 57 rfl (sx 65 rfl (sx 70 rfl (sub_nil _))))))))))))))))))))) (.refl _) ?_
       refine hl_nil ?_
       refine hq_then ?_
       refine hc_false rfl ?_
       refine hc_skip ?_
       refine hq_then ?_
       refine hc_seq ?_
       refine hc_seq ?_
       refine hc_region ?_
       refine hl_v rfl rfl rfl (rv_ev rfl) ?_
       refine hl_v rfl rfl rfl (rv_ev rfl) ?_
       refine hl_neq rfl rfl rfl rfl rfl rfl (fun h38 => ?_) (fun h38 => ?_)
       ·
        refine hl_less (sx 0 rfl (sx 1 rfl (sx 2 rfl (sx 4 rfl (sx 5 rfl (sx 6 rfl (sx 7 rfl (sx 8 rfl (sx 9 rfl (sx 10 rfl (sx 11 rfl (sx 12 rfl (sx 17 rfl (sx 30 rfl (sx 35 rfl (sx 46 rfl (sx 54 rfl (sx 57 rfl (sx 65 rfl (sx 70 rfl (sx 73 rfl (sub_nil _)))))))))))))))))))))) (.refl _) ?_
        refine hl_nil ?_
        refine hq_then ?_
        refine hc_true rfl ?_
        refine hc_seq ?_
        refine hc_region ?_
        refine hl_v rfl rfl rfl (rv_ev rfl) ?_
        refine hl_less (sx 0 rfl (sx 1 rfl (sx 2 rfl (sx 4 rfl (sx 5 rfl (sx 6 rfl (sx 7 rfl (sx 8 rfl (sx 9 rfl (sx 10 rfl (sx 11 rfl (sx 12 rfl (sx 17 rfl (sx 30 rfl (sx 35 rfl (sx 46 rfl (sx 54 rfl (sx 57 rfl (sx 65 rfl (sx 70 rfl (sx 73 rfl (sub_nil _)))))))))))))))))))))) (.refl _) ?_
        refine hl_nil ?_
        refine hq_then ?_
        refine hc_ret ?_
        refine hq_then_ret ?_
        exfalso
        omega
       ·
        refine hl_less (sx 0 rfl (sx 1 rfl (sx 2 rfl (sx 4 rfl (sx 5 rfl (sx 6 rfl (sx 7 rfl (sx 8 rfl (sx 9 rfl (sx 10 rfl (sx 11 rfl (sx 12 rfl (sx 17 rfl (sx 30 rfl (sx 35 rfl (sx 46 rfl (sx 54 rfl (sx 57 rfl (sx 65 rfl (sx 70 rfl (sx 73 rfl (sub_nil _)))))))))))))))))))))) (.refl _) ?_
        refine hl_nil ?_
        refine hq_then ?_
        refine hc_false rfl ?_
        refine hc_skip ?_
        refine hq_then ?_
        refine hc_seq ?_
        refine hc_region ?_
        refine hl_v rfl rfl rfl (rv_ev rfl) ?_
        refine hl_less (sx 0 rfl (sx 1 rfl (sx 2 rfl (sx 4 rfl (sx 5 rfl (sx 6 rfl (sx 7 rfl (sx 8 rfl (sx 9 rfl (sx 10 rfl (sx 11 rfl (sx 12 rfl (sx 17 rfl (sx 30 rfl (sx 35 rfl (sx 46 rfl (sx 54 rfl (sx 57 rfl (sx 65 rfl (sx 70 rfl (sx 73 rfl (sub_nil _)))))))))))))))))))))) (.refl _) ?_
        refine hl_nil ?_
        refine hq_then ?_
        refine hc_ret ?_
        exact hq_ans rfl rfl rfl
end Go.Proofs.Ytceebbcoikgocaa
