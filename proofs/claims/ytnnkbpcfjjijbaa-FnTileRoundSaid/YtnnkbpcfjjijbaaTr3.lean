/- Texts of the law FnTileRound, part 3: what it uses. -/
import Derived.Test.YtnnkbpcfjjijbaaTr2
set_option linter.unusedVariables false
set_option linter.unusedSimpArgs false
namespace Go.Proofs.Ytnnkbpcfjjijbaa
open Go.RowKit Go.ChangeShapes
open Go.RowKit
set_option maxHeartbeats 4000000 in
set_option maxRecDepth 100000 in
theorem implEncodeTile_ret (d : Dev) (t : Tc) (w : World) (ht : t.Rds w) :
  Calls Try.prog 53 #[.agg #[.int .i64 d.W, .int .i64 d.H, .int .i64 d.T, .int .i64 d.R], .agg #[t.mv, t.lv, .int .i64 t.pad, .int .i64 t.ram]] w (Ret w (IsEnc d t.val)) := by
 refine calls_hc (N := 76) (args := [.agg #[.int .i64 d.W, .int .i64 d.H, .int .i64 d.T, .int .i64 d.R], .agg #[t.mv, t.lv, .int .i64 t.pad, .int .i64 t.ram]]) Try.func53 rfl rfl ?_
 refine hc_less _ (sx 0 rfl (sx 1 rfl (sub_nil _))) (.refl _) ?_
 refine hc_seq ?_
 refine hc_region ?_
 refine hl_box rfl rfl rfl (rq_box rfl rfl) ?_
 intro b1
 refine hl_box rfl rfl rfl (rq_box rfl rfl) ?_
 intro b2
 refine hl_v rfl rfl rfl (rv_ev rfl) ?_
 refine hl_v rfl rfl rfl (rv_ev rfl) ?_
 refine hl_less (sx 0 rfl (sx 1 rfl (sx 2 rfl (sx 3 rfl (sx 4 rfl (sx 5 rfl (sub_nil _))))))) (.refl _) ?_
 refine hl_nil ?_
 refine hq_then ?_
 refine hc_seq ?_
 refine hc_seq ?_
 refine hc_region ?_
 refine hl_v rfl rfl rfl (rv_loadN (cs := [.int .i64 d.W, .int .i64 d.H, .int .i64 d.T, .int .i64 d.R]) rfl (by kernel_rfl) (by kernel_rfl) rfl rfl (box_part 1 rfl 0 rfl)) ?_
 refine hl_v rfl rfl rfl (rv_loadN (cs := [t.mv, t.lv, .int .i64 t.pad, .int .i64 t.ram]) rfl (by kernel_rfl) (by kernel_rfl) rfl rfl (box_part 0 rfl 0 rfl)) ?_
 refine hl_callV rfl rfl rfl (rq_call (by kernel_rfl) rfl (fun w hm => ret_ans (implTileConfigOk_ans d t w (ht.below hm.bel)))) ?_
 refine hl_bool (fun h3 => ?_) (fun h3 => ?_)
 ·
  obtain ⟨hd, hmx5, hes2, hpad, hram, hmxr, hesr⟩ := (tcOkV_iff d t).1 h3
  obtain ⟨-, -, ⟨l1, l2⟩, -⟩ := (devB_iff d).1 hd
  have hfr : frW d = (5 * (5 + 4 * d.T) + 67 + 15) / 16 := rfl
  have hNN : ((frW d).toNat : Int) = frW d := by omega
  refine hl_v rfl rfl rfl (rv_ev rfl) ?_
  refine hl_less (sx 0 rfl (sx 1 rfl (sx 2 rfl (sx 3 rfl (sx 4 rfl (sx 5 rfl (sx 16 rfl (sub_nil _)))))))) (.refl _) ?_
  refine hl_nil ?_
  refine hq_then ?_
  refine hc_false rfl ?_
  refine hc_skip ?_
  refine hq_then ?_
  refine hc_seq ?_
  refine hc_region ?_
  refine hl_v rfl rfl rfl (rv_loadN (cs := [.int .i64 d.W, .int .i64 d.H, .int .i64 d.T, .int .i64 d.R]) rfl (by kernel_rfl) (by kernel_rfl) rfl rfl (box_part 1 rfl 0 rfl)) ?_
  refine hl_callV rfl rfl rfl (rq_call (by kernel_rfl) rfl (fun w hm => ret_ans (implFrame_any d hd w))) ?_
  refine hl_row rfl rfl rfl (rq_make (z := .int .i64 0) (s := 1) (bytes := 8) (n := (List.replicate (frW d).toNat (0 : Int)).length) (cs := ((List.replicate (frW d).toNat (0 : Int)).map (Value.int .i64))) rfl Try.underlying30 (by kernel_rfl) (by decide) rfl rfl (by first | (rw [List.length_replicate]; done) | (rw [List.length_replicate]; omega)) (by first | (rw [List.length_replicate]; done) | (rw [List.length_replicate]; omega)) (by rw [List.length_replicate]; omega) (ints_make _)) ?_
  intro g4
  refine hl_v rfl rfl rfl (rv_build (cs := #[.slice (some ⟨g4, 0, none⟩) ((List.replicate (frW d).toNat (0 : Int)).length) ((List.replicate (frW d).toNat (0 : Int)).length), .int .i64 0]) rfl rfl (by kernel_rfl)) ?_
  refine hl_box rfl rfl rfl (rq_box rfl rfl) ?_
  intro b5
  refine hl_v rfl rfl rfl (rv_ev rfl) ?_
  refine hl_less (sx 0 rfl (sx 1 rfl (sx 2 rfl (sx 3 rfl (sx 4 rfl (sx 5 rfl (sx 6 rfl (sx 16 rfl (sub_nil _))))))))) (.refl _) ?_
  refine hl_nil ?_
  refine hq_then ?_
  refine hc_seq ?_
  refine hc_seq ?_
  refine hc_region ?_
  refine hl_conv [boxE b5 #[.slice (some ⟨g4, 0, none⟩) ((List.replicate (frW d).toNat (0 : Int)).length) ((List.replicate (frW d).toNat (0 : Int)).length), .int .i64 0] 105, rowE 3 1 (.slice (some ⟨g4, 0, none⟩) ((List.replicate (frW d).toNat (0 : Int)).length) ((List.replicate (frW d).toNat (0 : Int)).length)) ((List.replicate (frW d).toNat (0 : Int)).length) ((List.replicate (frW d).toNat (0 : Int)).map (Value.int .i64)), boxE b2 #[t.mv, t.lv, .int .i64 t.pad, .int .i64 t.ram] 39, boxE b1 #[.int .i64 d.W, .int .i64 d.H, .int .i64 d.T, .int .i64 d.R] 25] (conv_pick (src := [boxE b5 #[.slice (some ⟨g4, 0, none⟩) ((List.replicate (frW d).toNat (0 : Int)).length) ((List.replicate (frW d).toNat (0 : Int)).length), .int .i64 0] 105, rowE 3 1 (.slice (some ⟨g4, 0, none⟩) ((List.replicate (frW d).toNat (0 : Int)).length) ((List.replicate (frW d).toNat (0 : Int)).length)) ((List.replicate (frW d).toNat (0 : Int)).length) ((List.replicate (frW d).toNat (0 : Int)).map (Value.int .i64)), boxE b2 #[t.mv, t.lv, .int .i64 t.pad, .int .i64 t.ram] 39, boxE b1 #[.int .i64 d.W, .int .i64 d.H, .int .i64 d.T, .int .i64 d.R] 25]) (dst := [boxE b5 #[.slice (some ⟨g4, 0, none⟩) ((List.replicate (frW d).toNat (0 : Int)).length) ((List.replicate (frW d).toNat (0 : Int)).length), .int .i64 0] 105, rowE 3 1 (.slice (some ⟨g4, 0, none⟩) ((List.replicate (frW d).toNat (0 : Int)).length) ((List.replicate (frW d).toNat (0 : Int)).length)) ((List.replicate (frW d).toNat (0 : Int)).length) ((List.replicate (frW d).toNat (0 : Int)).map (Value.int .i64)), boxE b2 #[t.mv, t.lv, .int .i64 t.pad, .int .i64 t.ram] 39, boxE b1 #[.int .i64 d.W, .int .i64 d.H, .int .i64 d.T, .int .i64 d.R] 25]) (l := []) [0, 1, 2, 3] (by decide) rfl) ?_
  refine hl_conv [wrE b5 (.slice (some ⟨g4, 0, none⟩) ((List.replicate (frW d).toNat (0 : Int)).length) ((List.replicate (frW d).toNat (0 : Int)).length)) (([] : List Int).length : Int) (packJ (frW d).toNat ([] : List Int) ([] : List Int).length), boxE b2 #[t.mv, t.lv, .int .i64 t.pad, .int .i64 t.ram] 39, boxE b1 #[.int .i64 d.W, .int .i64 d.H, .int .i64 d.T, .int .i64 d.R] 25] (fun w hm => by have h2 := Mem.big (ps := [boxE b5 #[.slice (some ⟨g4, 0, none⟩) ((List.replicate (frW d).toNat (0 : Int)).length) ((List.replicate (frW d).toNat (0 : Int)).length), .int .i64 0] 105, rowE 3 1 (.slice (some ⟨g4, 0, none⟩) ((List.replicate (frW d).toNat (0 : Int)).length) ((List.replicate (frW d).toNat (0 : Int)).length)) ((List.replicate (frW d).toNat (0 : Int)).length) ((List.replicate (frW d).toNat (0 : Int)).map (Value.int .i64))]) hm; exact h2) ?_
  refine hl_v rfl rfl rfl (rv_field (k0 := 0) rfl (by kernel_rfl) rfl) ?_
  refine hl_v rfl rfl rfl (rv_load rfl (by kernel_rfl) rfl (box_cell 1 rfl rfl)) ?_
  refine hl_v rfl rfl rfl (rv_len rfl Try.underlying30 rfl (rd_old ht.mx)) ?_
  refine hl_v rfl rfl rfl (rv_ev rfl) ?_
  refine hl_less (sx 0 rfl (sx 1 rfl (sx 2 rfl (sx 3 rfl (sx 4 rfl (sx 5 rfl (sx 6 rfl (sx 16 rfl (sx 23 rfl (sx 24 rfl (sx 25 rfl (sub_nil _)))))))))))) (.refl _) ?_
  refine hl_nil ?_
  refine hq_then ?_
  refine hc_block ?_
  refine hc_loop2 (α := Nat) (β := List Int) (fun j bs => [wrE b5 (.slice (some ⟨g4, 0, none⟩) ((List.replicate (frW d).toNat (0 : Int)).length) ((List.replicate (frW d).toNat (0 : Int)).length)) (bs.length : Int) (packJ (frW d).toNat bs bs.length), boxE b2 #[t.mv, t.lv, .int .i64 t.pad, .int .i64 t.ram] 39, boxE b1 #[.int .i64 d.W, .int .i64 d.H, .int .i64 d.T, .int .i64 d.R] 25]) (fun j bs => [(0, .agg #[.int .i64 d.W, .int .i64 d.H, .int .i64 d.T, .int .i64 d.R]), (1, .agg #[t.mv, t.lv, .int .i64 t.pad, .int .i64 t.ram]), (2, .pointer (some ⟨b1, 0, none⟩)), (3, .pointer (some ⟨b2, 0, none⟩)), (4, .slice none 0 0), (5, .bool false), (6, .pointer (some ⟨b5, 0, none⟩)), (16, .bool false), (23, t.mv), (24, .int .i64 (t.mx.length : Int)), (25, .int .i64 (j : Int))]) (fun j bs => j ≤ t.mx.length ∧ bs = (t.mx.take j).flatMap (fun x => bitsOf x 5) ∧ bs.length = 5 * j ∧ Bits bs) (fun j bs => t.mx.length - j) 0 [] ⟨by omega, by simp, rfl, bits_nil⟩ (sx 0 rfl (sx 1 rfl (sx 2 rfl (sx 3 rfl (sx 4 rfl (sx 5 rfl (sx 6 rfl (sx 16 rfl (sx 23 rfl (sx 24 rfl (sx 25 rfl (sub_nil _)))))))))))) ((.cons_cons _ (.cons_cons _ (.cons_cons _ .slnil)))) ?_
  intro j bs hi6
  obtain ⟨hj, hbs, hbl, hbb⟩ := hi6
  refine hc_seq ?_
  refine hc_region ?_
  refine hl_lss rfl rfl rfl rfl rfl rfl (fun h7 => ?_) (fun h7 => ?_)
  ·
   refine hl_less (sx 0 rfl (sx 1 rfl (sx 2 rfl (sx 3 rfl (sx 4 rfl (sx 5 rfl (sx 6 rfl (sx 16 rfl (sx 23 rfl (sx 24 rfl (sx 25 rfl (sx 26 rfl (sub_nil _))))))))))))) (.refl _) ?_
   refine hl_nil ?_
   refine hq_then ?_
   refine hc_seq ?_
   refine hc_true rfl ?_
   refine hc_skip ?_
   refine hq_then ?_
   refine hc_seq ?_
   refine hc_block ?_
   refine hc_seq ?_
   refine hc_region ?_
   have hmj := hmxr j (by omega)
   refine hl_v rfl rfl rfl (rv_index (s := 1) rfl Try.underlying30 (by kernel_rfl) rfl rfl (rd_old ht.mx) (by omega) (by first | omega | (simp only [List.length_set]; omega))) ?_
   refine hl_v rfl rfl rfl (rv_loadEl (u := .int .i64 (t.mx.getD j 0)) rfl (by kernel_rfl) rfl (rd_old ht.mx) (ints_at1 (show _ < t.mx.length by first | omega | (simp only [List.length_set]; omega)))) ?_
   refine hl_v rfl rfl rfl (rv_ev rfl) ?_
   refine hl_less (sx 0 rfl (sx 1 rfl (sx 2 rfl (sx 3 rfl (sx 4 rfl (sx 5 rfl (sx 6 rfl (sx 8 rfl (sx 16 rfl (sx 23 rfl (sx 24 rfl (sx 25 rfl (sx 26 rfl (sub_nil _)))))))))))))) (.refl _) ?_
   refine hl_nil ?_
   refine hq_then ?_
   refine hc_region ?_
   refine hl_v rfl rfl rfl (rv_ev rfl) ?_
   refine hl_v rfl rfl rfl (rv_ev rfl) ?_
   refine hl_callM (R := (fun u_ p_ => p_ = wrE b5 (.slice (some ⟨g4, 0, none⟩) ((List.replicate (frW d).toNat (0 : Int)).length) ((List.replicate (frW d).toNat (0 : Int)).length)) ((bs ++ bitsOf (t.mx.getD j 0) 5).length : Int) (packJ (frW d).toNat (bs ++ bitsOf (t.mx.getD j 0) 5) (bs ++ bitsOf (t.mx.getD j 0) 5).length))) 0 rfl rfl (by kernel_rfl) rfl rfl (fun l' w hm => bitPut_to (frW d).toNat bs (.slice (some ⟨g4, 0, none⟩) ((List.replicate (frW d).toNat (0 : Int)).length) ((List.replicate (frW d).toNat (0 : Int)).length)) b5 (t.mx.getD j 0) 5 _ _ w hm hbb (by omega) (by omega) (by first | omega | (simp only [List.length_append, bitsOf_len]; omega)) (by omega)) ?_
   intro v8 p9 hR10
   subst hR10
   refine hl_eqL (l' := [wrE b5 (.slice (some ⟨g4, 0, none⟩) ((List.replicate (frW d).toNat (0 : Int)).length) ((List.replicate (frW d).toNat (0 : Int)).length)) ((bs ++ bitsOf (t.mx.getD j 0) 5).length : Int) (packJ (frW d).toNat (bs ++ bitsOf (t.mx.getD j 0) 5) (bs ++ bitsOf (t.mx.getD j 0) 5).length), boxE b2 #[t.mv, t.lv, .int .i64 t.pad, .int .i64 t.ram] 39, boxE b1 #[.int .i64 d.W, .int .i64 d.H, .int .i64 d.T, .int .i64 d.R] 25]) rfl ?_
   refine hl_less (sx 0 rfl (sx 1 rfl (sx 2 rfl (sx 3 rfl (sx 4 rfl (sx 5 rfl (sx 6 rfl (sx 8 rfl (sx 16 rfl (sx 23 rfl (sx 24 rfl (sx 25 rfl (sx 26 rfl (sub_nil _)))))))))))))) (.refl _) ?_
   refine hl_nil ?_
   refine hq_block_normal ?_
   refine hq_then ?_
   refine hc_region ?_
   refine hl_v rfl rfl rfl (rv_add rfl rfl rfl (by constructor <;> omega)) ?_
   refine hl_v rfl rfl rfl (rv_ev rfl) ?_
   refine hl_less (sx 0 rfl (sx 1 rfl (sx 2 rfl (sx 3 rfl (sx 4 rfl (sx 5 rfl (sx 6 rfl (sx 8 rfl (sx 16 rfl (sx 23 rfl (sx 24 rfl (sx 25 rfl (sx 26 rfl (sub_nil _)))))))))))))) (.refl _) ?_
   refine hl_nil ?_
   exact hq_round2 (j + 1) (bs ++ bitsOf (t.mx.getD j 0) 5) ⟨by omega, by rw [fm_take _ _ 0 j (by omega), ← hbs], by rw [List.length_append, bitsOf_len]; omega, bits_app hbb (bitsOf_bits _ _)⟩ (by omega) (sx 0 rfl (sx 1 rfl (sx 2 rfl (sx 3 rfl (sx 4 rfl (sx 5 rfl (sx 6 rfl (sx 16 rfl (sx 23 rfl (sx 24 rfl (sx 25 rfl (sub_nil _)))))))))))) ((.cons_cons _ (.cons_cons _ (.cons_cons _ .slnil))))
  ·
   refine hl_less (sx 0 rfl (sx 1 rfl (sx 2 rfl (sx 3 rfl (sx 4 rfl (sx 5 rfl (sx 6 rfl (sx 16 rfl (sx 23 rfl (sx 24 rfl (sx 25 rfl (sx 26 rfl (sub_nil _))))))))))))) (.refl _) ?_
   refine hl_nil ?_
   refine hq_then ?_
   refine hc_seq ?_
   refine hc_false rfl ?_
   refine hc_exit ?_
   refine hq_then_exit ?_
   refine hq_then_exit ?_
   refine hq_block_exit ?_
   refine hq_then ?_
   refine hc_seq ?_
   refine hc_seq ?_
   refine hc_region ?_
   refine hl_v rfl rfl rfl (rv_field (k0 := 1) rfl (by kernel_rfl) rfl) ?_
   refine hl_v rfl rfl rfl (rv_load rfl (by kernel_rfl) rfl (box_cell 1 rfl rfl)) ?_
   refine hl_v rfl rfl rfl (rv_len rfl Try.underlying37 rfl (rd_old ht.lv)) ?_
   refine hl_v rfl rfl rfl (rv_ev rfl) ?_
   refine hl_less (sx 0 rfl (sx 1 rfl (sx 2 rfl (sx 3 rfl (sx 4 rfl (sx 5 rfl (sx 6 rfl (sx 16 rfl (sx 23 rfl (sx 24 rfl (sx 25 rfl (sx 26 rfl (sx 34 rfl (sx 35 rfl (sx 36 rfl (sub_nil _)))))))))))))))) (.refl _) ?_
   refine hl_nil ?_
   refine hq_then ?_
   refine hc_block ?_
   refine hc_loop2 (α := Nat) (β := List Int) (fun e cs => [wrE b5 (.slice (some ⟨g4, 0, none⟩) ((List.replicate (frW d).toNat (0 : Int)).length) ((List.replicate (frW d).toNat (0 : Int)).length)) (cs.length : Int) (packJ (frW d).toNat cs cs.length), boxE b2 #[t.mv, t.lv, .int .i64 t.pad, .int .i64 t.ram] 39, boxE b1 #[.int .i64 d.W, .int .i64 d.H, .int .i64 d.T, .int .i64 d.R] 25]) (fun e cs => [(0, .agg #[.int .i64 d.W, .int .i64 d.H, .int .i64 d.T, .int .i64 d.R]), (1, .agg #[t.mv, t.lv, .int .i64 t.pad, .int .i64 t.ram]), (2, .pointer (some ⟨b1, 0, none⟩)), (3, .pointer (some ⟨b2, 0, none⟩)), (4, .slice none 0 0), (5, .bool false), (6, .pointer (some ⟨b5, 0, none⟩)), (16, .bool false), (23, t.mv), (24, .int .i64 (t.mx.length : Int)), (25, .int .i64 (j : Int)), (26, .bool false), (34, t.lv), (35, .int .i64 (t.es.length : Int)), (36, .int .i64 (e : Int))]) (fun e cs => e ≤ t.es.length ∧ cs = t.mx.flatMap (fun x => bitsOf x 5) ++ (t.es.take e).flatMap (fun x => leBits x.val) ∧ cs.length = 5 * t.mx.length + 30 * e ∧ Bits cs) (fun e cs => t.es.length - e) 0 bs ⟨by omega, by rw [hbs, show j = t.mx.length by omega, List.take_length]; simp, by omega, hbb⟩ (sx 0 rfl (sx 1 rfl (sx 2 rfl (sx 3 rfl (sx 4 rfl (sx 5 rfl (sx 6 rfl (sx 16 rfl (sx 23 rfl (sx 24 rfl (sx 25 rfl (sx 26 rfl (sx 34 rfl (sx 35 rfl (sx 36 rfl (sub_nil _)))))))))))))))) ((.cons_cons _ (.cons_cons _ (.cons_cons _ .slnil)))) ?_
   intro e cs hi11
   obtain ⟨he, hcs, hcl, hcb⟩ := hi11
   refine hc_seq ?_
   refine hc_region ?_
   refine hl_lss rfl rfl rfl rfl rfl rfl (fun h12 => ?_) (fun h12 => ?_)
   ·
    refine hl_less (sx 0 rfl (sx 1 rfl (sx 2 rfl (sx 3 rfl (sx 4 rfl (sx 5 rfl (sx 6 rfl (sx 16 rfl (sx 23 rfl (sx 24 rfl (sx 25 rfl (sx 26 rfl (sx 34 rfl (sx 35 rfl (sx 36 rfl (sx 37 rfl (sub_nil _))))))))))))))))) (.refl _) ?_
    refine hl_nil ?_
    refine hq_then ?_
    refine hc_seq ?_
    refine hc_true rfl ?_
    refine hc_skip ?_
    refine hq_then ?_
    refine hc_seq ?_
    refine hc_block ?_
    refine hc_seq ?_
    refine hc_region ?_
    have hrE := ht.es _ (getD_mem' (es := t.es) (i := e) (d := Le0) (by omega))
    have hre := hrE.1
    have hro := hre.one
    obtain ⟨r1, r2, r3, r4, r5⟩ := (leOkV_iff _).1 (hesr e (by omega))
    refine hl_v rfl rfl rfl (rv_index (s := 4) rfl Try.underlying37 (by kernel_rfl) rfl rfl (rd_old ht.lv) (by omega) (by first | omega | (simp only [List.length_set]; omega))) ?_
    refine hl_v rfl rfl rfl (rv_loadElN (us := [(t.es.getD e Le0).v, .int .i64 ((t.es.getD e Le0).m), .int .i64 ((t.es.getD e Le0).f), .int .i64 ((t.es.getD e Le0).i)]) rfl (by kernel_rfl) (by kernel_rfl) rfl (rd_old ht.lv) (by omega) rfl (flat_atN Le.cells 4 (fun _ => rfl) t.es Le0 (show e < _ by first | omega | (simp only [List.length_set]; omega)) rfl)) ?_
    refine hl_box rfl rfl rfl (rq_alloc (z := .agg #[.slice none 0 0, .int .i64 0, .int .i64 0, .int .i64 0]) rfl (by kernel_rfl)) ?_
    intro b13
    refine hl_storeBoxN (i := 0) (off := 0) (us := [(t.es.getD e Le0).v, .int .i64 ((t.es.getD e Le0).m), .int .i64 ((t.es.getD e Le0).f), .int .i64 ((t.es.getD e Le0).i)]) (l' := [boxE b13 #[(t.es.getD e Le0).v, .int .i64 ((t.es.getD e Le0).m), .int .i64 ((t.es.getD e Le0).f), .int .i64 ((t.es.getD e Le0).i)] 87, wrE b5 (.slice (some ⟨g4, 0, none⟩) ((List.replicate (frW d).toNat (0 : Int)).length) ((List.replicate (frW d).toNat (0 : Int)).length)) (cs.length : Int) (packJ (frW d).toNat cs cs.length), boxE b2 #[t.mv, t.lv, .int .i64 t.pad, .int .i64 t.ram] 39, boxE b1 #[.int .i64 d.W, .int .i64 d.H, .int .i64 d.T, .int .i64 d.R] 25]) rfl rfl rfl (by kernel_rfl) rfl rfl rfl (all_cons hro (all_cons rfl (all_cons rfl (all_cons rfl all_nil)))) rfl rfl rfl ?_
    refine hl_less (sx 0 rfl (sx 1 rfl (sx 2 rfl (sx 3 rfl (sx 4 rfl (sx 5 rfl (sx 6 rfl (sx 10 rfl (sx 16 rfl (sx 23 rfl (sx 24 rfl (sx 25 rfl (sx 26 rfl (sx 34 rfl (sx 35 rfl (sx 36 rfl (sx 37 rfl (sub_nil _)))))))))))))))))) (.refl _) ?_
    refine hl_nil ?_
    refine hq_then ?_
    refine hc_seq ?_
    refine hc_seq ?_
    refine hc_region ?_
    refine hl_v rfl rfl rfl (rv_field (k0 := 0) rfl (by kernel_rfl) rfl) ?_
    refine hl_v rfl rfl rfl (rv_load rfl (by kernel_rfl) rfl (box_cell 0 rfl rfl)) ?_
    refine hl_v rfl rfl rfl (rv_len rfl Try.underlying30 rfl (rd_old hre)) ?_
    refine hl_v rfl rfl rfl (rv_ev rfl) ?_
    refine hl_less (sx 0 rfl (sx 1 rfl (sx 2 rfl (sx 3 rfl (sx 4 rfl (sx 5 rfl (sx 6 rfl (sx 10 rfl (sx 16 rfl (sx 23 rfl (sx 24 rfl (sx 25 rfl (sx 26 rfl (sx 34 rfl (sx 35 rfl (sx 36 rfl (sx 37 rfl (sx 41 rfl (sx 42 rfl (sx 43 rfl (sub_nil _))))))))))))))))))))) (.refl _) ?_
    refine hl_nil ?_
    refine hq_then ?_
    refine hc_block ?_
    refine hc_loop2 (α := Nat) (β := List Int) (fun k ds => [boxE b13 #[(t.es.getD e Le0).v, .int .i64 ((t.es.getD e Le0).m), .int .i64 ((t.es.getD e Le0).f), .int .i64 ((t.es.getD e Le0).i)] 87, wrE b5 (.slice (some ⟨g4, 0, none⟩) ((List.replicate (frW d).toNat (0 : Int)).length) ((List.replicate (frW d).toNat (0 : Int)).length)) (ds.length : Int) (packJ (frW d).toNat ds ds.length), boxE b2 #[t.mv, t.lv, .int .i64 t.pad, .int .i64 t.ram] 39, boxE b1 #[.int .i64 d.W, .int .i64 d.H, .int .i64 d.T, .int .i64 d.R] 25]) (fun k ds => [(0, .agg #[.int .i64 d.W, .int .i64 d.H, .int .i64 d.T, .int .i64 d.R]), (1, .agg #[t.mv, t.lv, .int .i64 t.pad, .int .i64 t.ram]), (2, .pointer (some ⟨b1, 0, none⟩)), (3, .pointer (some ⟨b2, 0, none⟩)), (4, .slice none 0 0), (5, .bool false), (6, .pointer (some ⟨b5, 0, none⟩)), (10, .pointer (some ⟨b13, 0, none⟩)), (16, .bool false), (23, t.mv), (24, .int .i64 (t.mx.length : Int)), (25, .int .i64 (j : Int)), (26, .bool false), (34, t.lv), (35, .int .i64 (t.es.length : Int)), (36, .int .i64 (e : Int)), (37, .bool true), (41, (t.es.getD e Le0).v), (42, .int .i64 (((t.es.getD e Le0).xs).length : Int)), (43, .int .i64 (k : Int))]) (fun k ds => k ≤ (t.es.getD e Le0).xs.length ∧ ds = cs ++ ((t.es.getD e Le0).xs.take k).flatMap (fun x => bitsOf x 3) ∧ ds.length = cs.length + 3 * k ∧ Bits ds) (fun k ds => (t.es.getD e Le0).xs.length - k) 0 cs ⟨by omega, by simp, by omega, hcb⟩ (sx 0 rfl (sx 1 rfl (sx 2 rfl (sx 3 rfl (sx 4 rfl (sx 5 rfl (sx 6 rfl (sx 10 rfl (sx 16 rfl (sx 23 rfl (sx 24 rfl (sx 25 rfl (sx 26 rfl (sx 34 rfl (sx 35 rfl (sx 36 rfl (sx 37 rfl (sx 41 rfl (sx 42 rfl (sx 43 rfl (sub_nil _))))))))))))))))))))) ((.cons_cons _ (.cons_cons _ (.cons_cons _ (.cons_cons _ .slnil))))) ?_
    intro k ds hi14
    obtain ⟨hk1, hds, hdl, hdb⟩ := hi14
    refine hc_seq ?_
    refine hc_region ?_
    refine hl_lss rfl rfl rfl rfl rfl rfl (fun h15 => ?_) (fun h15 => ?_)
    ·
     refine hl_less (sx 0 rfl (sx 1 rfl (sx 2 rfl (sx 3 rfl (sx 4 rfl (sx 5 rfl (sx 6 rfl (sx 10 rfl (sx 16 rfl (sx 23 rfl (sx 24 rfl (sx 25 rfl (sx 26 rfl (sx 34 rfl (sx 35 rfl (sx 36 rfl (sx 37 rfl (sx 41 rfl (sx 42 rfl (sx 43 rfl (sx 44 rfl (sub_nil _)))))))))))))))))))))) (.refl _) ?_
     refine hl_nil ?_
     refine hq_then ?_
     refine hc_seq ?_
     refine hc_true rfl ?_
     refine hc_skip ?_
     refine hq_then ?_
     refine hc_seq ?_
     refine hc_block ?_
     refine hc_seq ?_
     refine hc_region ?_
     have hsk := r5 k (by omega)
     refine hl_v rfl rfl rfl (rv_index (s := 1) rfl Try.underlying30 (by kernel_rfl) rfl rfl (rd_old hre) (by omega) (by first | omega | (simp only [List.length_set]; omega))) ?_
     refine hl_v rfl rfl rfl (rv_loadEl (u := .int .i64 (((t.es.getD e Le0).xs).getD k 0)) rfl (by kernel_rfl) rfl (rd_old hre) (ints_at1 (show _ < ((t.es.getD e Le0).xs).length by first | omega | (simp only [List.length_set]; omega)))) ?_
     refine hl_v rfl rfl rfl (rv_ev rfl) ?_
     refine hl_less (sx 0 rfl (sx 1 rfl (sx 2 rfl (sx 3 rfl (sx 4 rfl (sx 5 rfl (sx 6 rfl (sx 10 rfl (sx 12 rfl (sx 16 rfl (sx 23 rfl (sx 24 rfl (sx 25 rfl (sx 26 rfl (sx 34 rfl (sx 35 rfl (sx 36 rfl (sx 37 rfl (sx 41 rfl (sx 42 rfl (sx 43 rfl (sx 44 rfl (sub_nil _))))))))))))))))))))))) (.refl _) ?_
     refine hl_nil ?_
     refine hq_then ?_
     refine hc_region ?_
     refine hl_v rfl rfl rfl (rv_ev rfl) ?_
     refine hl_v rfl rfl rfl (rv_ev rfl) ?_
     refine hl_callM (R := (fun u_ p_ => p_ = wrE b5 (.slice (some ⟨g4, 0, none⟩) ((List.replicate (frW d).toNat (0 : Int)).length) ((List.replicate (frW d).toNat (0 : Int)).length)) ((ds ++ bitsOf (((t.es.getD e Le0).xs).getD k 0) 3).length : Int) (packJ (frW d).toNat (ds ++ bitsOf (((t.es.getD e Le0).xs).getD k 0) 3) (ds ++ bitsOf (((t.es.getD e Le0).xs).getD k 0) 3).length))) 1 rfl rfl (by kernel_rfl) rfl rfl (fun l' w hm => bitPut_to (frW d).toNat ds (.slice (some ⟨g4, 0, none⟩) ((List.replicate (frW d).toNat (0 : Int)).length) ((List.replicate (frW d).toNat (0 : Int)).length)) b5 (((t.es.getD e Le0).xs).getD k 0) 3 _ _ w hm hdb (by omega) (by omega) (by first | omega | (simp only [List.length_append, bitsOf_len]; omega)) (by omega)) ?_
     intro v16 p17 hR18
     subst hR18
     refine hl_eqL (l' := [boxE b13 #[(t.es.getD e Le0).v, .int .i64 ((t.es.getD e Le0).m), .int .i64 ((t.es.getD e Le0).f), .int .i64 ((t.es.getD e Le0).i)] 87, wrE b5 (.slice (some ⟨g4, 0, none⟩) ((List.replicate (frW d).toNat (0 : Int)).length) ((List.replicate (frW d).toNat (0 : Int)).length)) ((ds ++ bitsOf (((t.es.getD e Le0).xs).getD k 0) 3).length : Int) (packJ (frW d).toNat (ds ++ bitsOf (((t.es.getD e Le0).xs).getD k 0) 3) (ds ++ bitsOf (((t.es.getD e Le0).xs).getD k 0) 3).length), boxE b2 #[t.mv, t.lv, .int .i64 t.pad, .int .i64 t.ram] 39, boxE b1 #[.int .i64 d.W, .int .i64 d.H, .int .i64 d.T, .int .i64 d.R] 25]) rfl ?_
     refine hl_less (sx 0 rfl (sx 1 rfl (sx 2 rfl (sx 3 rfl (sx 4 rfl (sx 5 rfl (sx 6 rfl (sx 10 rfl (sx 12 rfl (sx 16 rfl (sx 23 rfl (sx 24 rfl (sx 25 rfl (sx 26 rfl (sx 34 rfl (sx 35 rfl (sx 36 rfl (sx 37 rfl (sx 41 rfl (sx 42 rfl (sx 43 rfl (sx 44 rfl (sub_nil _))))))))))))))))))))))) (.refl _) ?_
     refine hl_nil ?_
     refine hq_block_normal ?_
     refine hq_then ?_
     refine hc_region ?_
     refine hl_v rfl rfl rfl (rv_add rfl rfl rfl (by constructor <;> omega)) ?_
     refine hl_v rfl rfl rfl (rv_ev rfl) ?_
     refine hl_less (sx 0 rfl (sx 1 rfl (sx 2 rfl (sx 3 rfl (sx 4 rfl (sx 5 rfl (sx 6 rfl (sx 10 rfl (sx 12 rfl (sx 16 rfl (sx 23 rfl (sx 24 rfl (sx 25 rfl (sx 26 rfl (sx 34 rfl (sx 35 rfl (sx 36 rfl (sx 37 rfl (sx 41 rfl (sx 42 rfl (sx 43 rfl (sx 44 rfl (sub_nil _))))))))))))))))))))))) (.refl _) ?_
     refine hl_nil ?_
     exact hq_round2 (k + 1) (ds ++ bitsOf ((t.es.getD e Le0).xs.getD k 0) 3) ⟨by omega, by rw [fm_take _ _ 0 k (by omega), ← List.append_assoc, ← hds], by rw [List.length_append, bitsOf_len]; omega, bits_app hdb (bitsOf_bits _ _)⟩ (by omega) (sx 0 rfl (sx 1 rfl (sx 2 rfl (sx 3 rfl (sx 4 rfl (sx 5 rfl (sx 6 rfl (sx 10 rfl (sx 16 rfl (sx 23 rfl (sx 24 rfl (sx 25 rfl (sx 26 rfl (sx 34 rfl (sx 35 rfl (sx 36 rfl (sx 37 rfl (sx 41 rfl (sx 42 rfl (sx 43 rfl (sub_nil _))))))))))))))))))))) ((.cons_cons _ (.cons_cons _ (.cons_cons _ (.cons_cons _ .slnil)))))
    ·
     refine hl_less (sx 0 rfl (sx 1 rfl (sx 2 rfl (sx 3 rfl (sx 4 rfl (sx 5 rfl (sx 6 rfl (sx 10 rfl (sx 16 rfl (sx 23 rfl (sx 24 rfl (sx 25 rfl (sx 26 rfl (sx 34 rfl (sx 35 rfl (sx 36 rfl (sx 37 rfl (sx 41 rfl (sx 42 rfl (sx 43 rfl (sx 44 rfl (sub_nil _)))))))))))))))))))))) (.refl _) ?_
     refine hl_nil ?_
     refine hq_then ?_
     refine hc_seq ?_
     refine hc_false rfl ?_
     refine hc_exit ?_
     refine hq_then_exit ?_
     refine hq_then_exit ?_
     refine hq_block_exit ?_
     refine hq_then ?_
     refine hc_seq ?_
     refine hc_region ?_
     refine hl_v rfl rfl rfl (rv_ev rfl) ?_
     refine hl_v rfl rfl rfl (rv_field (k0 := 1) rfl (by kernel_rfl) rfl) ?_
     refine hl_v rfl rfl rfl (rv_load rfl (by kernel_rfl) rfl (box_cell 0 rfl rfl)) ?_
     refine hl_callM (R := (fun u_ p_ => p_ = wrE b5 (.slice (some ⟨g4, 0, none⟩) ((List.replicate (frW d).toNat (0 : Int)).length) ((List.replicate (frW d).toNat (0 : Int)).length)) ((ds ++ bitsOf ((t.es.getD e Le0).m) 16).length : Int) (packJ (frW d).toNat (ds ++ bitsOf ((t.es.getD e Le0).m) 16) (ds ++ bitsOf ((t.es.getD e Le0).m) 16).length))) 1 rfl rfl (by kernel_rfl) rfl rfl (fun l' w hm => bitPut_to (frW d).toNat ds (.slice (some ⟨g4, 0, none⟩) ((List.replicate (frW d).toNat (0 : Int)).length) ((List.replicate (frW d).toNat (0 : Int)).length)) b5 ((t.es.getD e Le0).m) 16 _ _ w hm hdb (by omega) (by omega) (by first | omega | (simp only [List.length_append, bitsOf_len]; omega)) (by omega)) ?_
     intro v19 p20 hR21
     subst hR21
     refine hl_eqL (l' := [boxE b13 #[(t.es.getD e Le0).v, .int .i64 ((t.es.getD e Le0).m), .int .i64 ((t.es.getD e Le0).f), .int .i64 ((t.es.getD e Le0).i)] 87, wrE b5 (.slice (some ⟨g4, 0, none⟩) ((List.replicate (frW d).toNat (0 : Int)).length) ((List.replicate (frW d).toNat (0 : Int)).length)) ((ds ++ bitsOf ((t.es.getD e Le0).m) 16).length : Int) (packJ (frW d).toNat (ds ++ bitsOf ((t.es.getD e Le0).m) 16) (ds ++ bitsOf ((t.es.getD e Le0).m) 16).length), boxE b2 #[t.mv, t.lv, .int .i64 t.pad, .int .i64 t.ram] 39, boxE b1 #[.int .i64 d.W, .int .i64 d.H, .int .i64 d.T, .int .i64 d.R] 25]) rfl ?_
     refine hl_less (sx 0 rfl (sx 1 rfl (sx 2 rfl (sx 3 rfl (sx 4 rfl (sx 5 rfl (sx 6 rfl (sx 10 rfl (sx 16 rfl (sx 23 rfl (sx 24 rfl (sx 25 rfl (sx 26 rfl (sx 34 rfl (sx 35 rfl (sx 36 rfl (sx 37 rfl (sx 41 rfl (sx 42 rfl (sx 43 rfl (sx 44 rfl (sub_nil _)))))))))))))))))))))) (.refl _) ?_
     refine hl_nil ?_
     refine hq_then ?_
     refine hc_seq ?_
     refine hc_region ?_
     refine hl_v rfl rfl rfl (rv_ev rfl) ?_
     refine hl_v rfl rfl rfl (rv_field (k0 := 2) rfl (by kernel_rfl) rfl) ?_
     refine hl_v rfl rfl rfl (rv_load rfl (by kernel_rfl) rfl (box_cell 0 rfl rfl)) ?_
     refine hl_callM (R := (fun u_ p_ => p_ = wrE b5 (.slice (some ⟨g4, 0, none⟩) ((List.replicate (frW d).toNat (0 : Int)).length) ((List.replicate (frW d).toNat (0 : Int)).length)) (((ds ++ bitsOf ((t.es.getD e Le0).m) 16) ++ bitsOf ((t.es.getD e Le0).f) 1).length : Int) (packJ (frW d).toNat ((ds ++ bitsOf ((t.es.getD e Le0).m) 16) ++ bitsOf ((t.es.getD e Le0).f) 1) ((ds ++ bitsOf ((t.es.getD e Le0).m) 16) ++ bitsOf ((t.es.getD e Le0).f) 1).length))) 1 rfl rfl (by kernel_rfl) rfl rfl (fun l' w hm => bitPut_to (frW d).toNat (ds ++ bitsOf ((t.es.getD e Le0).m) 16) (.slice (some ⟨g4, 0, none⟩) ((List.replicate (frW d).toNat (0 : Int)).length) ((List.replicate (frW d).toNat (0 : Int)).length)) b5 ((t.es.getD e Le0).f) 1 _ _ w hm (bits_app hdb (bitsOf_bits _ _)) (by omega) (by omega) (by first | omega | (simp only [List.length_append, bitsOf_len]; omega)) (by omega)) ?_
     intro v22 p23 hR24
     subst hR24
     refine hl_eqL (l' := [boxE b13 #[(t.es.getD e Le0).v, .int .i64 ((t.es.getD e Le0).m), .int .i64 ((t.es.getD e Le0).f), .int .i64 ((t.es.getD e Le0).i)] 87, wrE b5 (.slice (some ⟨g4, 0, none⟩) ((List.replicate (frW d).toNat (0 : Int)).length) ((List.replicate (frW d).toNat (0 : Int)).length)) (((ds ++ bitsOf ((t.es.getD e Le0).m) 16) ++ bitsOf ((t.es.getD e Le0).f) 1).length : Int) (packJ (frW d).toNat ((ds ++ bitsOf ((t.es.getD e Le0).m) 16) ++ bitsOf ((t.es.getD e Le0).f) 1) ((ds ++ bitsOf ((t.es.getD e Le0).m) 16) ++ bitsOf ((t.es.getD e Le0).f) 1).length), boxE b2 #[t.mv, t.lv, .int .i64 t.pad, .int .i64 t.ram] 39, boxE b1 #[.int .i64 d.W, .int .i64 d.H, .int .i64 d.T, .int .i64 d.R] 25]) rfl ?_
     refine hl_less (sx 0 rfl (sx 1 rfl (sx 2 rfl (sx 3 rfl (sx 4 rfl (sx 5 rfl (sx 6 rfl (sx 10 rfl (sx 16 rfl (sx 23 rfl (sx 24 rfl (sx 25 rfl (sx 26 rfl (sx 34 rfl (sx 35 rfl (sx 36 rfl (sx 37 rfl (sx 41 rfl (sx 42 rfl (sx 43 rfl (sx 44 rfl (sub_nil _)))))))))))))))))))))) (.refl _) ?_
     refine hl_nil ?_
     refine hq_then ?_
     refine hc_region ?_
     refine hl_v rfl rfl rfl (rv_ev rfl) ?_
     refine hl_v rfl rfl rfl (rv_field (k0 := 3) rfl (by kernel_rfl) rfl) ?_
     refine hl_v rfl rfl rfl (rv_load rfl (by kernel_rfl) rfl (box_cell 0 rfl rfl)) ?_
     refine hl_callM (R := (fun u_ p_ => p_ = wrE b5 (.slice (some ⟨g4, 0, none⟩) ((List.replicate (frW d).toNat (0 : Int)).length) ((List.replicate (frW d).toNat (0 : Int)).length)) ((((ds ++ bitsOf ((t.es.getD e Le0).m) 16) ++ bitsOf ((t.es.getD e Le0).f) 1) ++ bitsOf ((t.es.getD e Le0).i) 1).length : Int) (packJ (frW d).toNat (((ds ++ bitsOf ((t.es.getD e Le0).m) 16) ++ bitsOf ((t.es.getD e Le0).f) 1) ++ bitsOf ((t.es.getD e Le0).i) 1) (((ds ++ bitsOf ((t.es.getD e Le0).m) 16) ++ bitsOf ((t.es.getD e Le0).f) 1) ++ bitsOf ((t.es.getD e Le0).i) 1).length))) 1 rfl rfl (by kernel_rfl) rfl rfl (fun l' w hm => bitPut_to (frW d).toNat ((ds ++ bitsOf ((t.es.getD e Le0).m) 16) ++ bitsOf ((t.es.getD e Le0).f) 1) (.slice (some ⟨g4, 0, none⟩) ((List.replicate (frW d).toNat (0 : Int)).length) ((List.replicate (frW d).toNat (0 : Int)).length)) b5 ((t.es.getD e Le0).i) 1 _ _ w hm (bits_app (bits_app hdb (bitsOf_bits _ _)) (bitsOf_bits _ _)) (by omega) (by omega) (by first | omega | (simp only [List.length_append, bitsOf_len]; omega)) (by omega)) ?_
     intro v25 p26 hR27
     subst hR27
     refine hl_eqL (l' := [boxE b13 #[(t.es.getD e Le0).v, .int .i64 ((t.es.getD e Le0).m), .int .i64 ((t.es.getD e Le0).f), .int .i64 ((t.es.getD e Le0).i)] 87, wrE b5 (.slice (some ⟨g4, 0, none⟩) ((List.replicate (frW d).toNat (0 : Int)).length) ((List.replicate (frW d).toNat (0 : Int)).length)) ((((ds ++ bitsOf ((t.es.getD e Le0).m) 16) ++ bitsOf ((t.es.getD e Le0).f) 1) ++ bitsOf ((t.es.getD e Le0).i) 1).length : Int) (packJ (frW d).toNat (((ds ++ bitsOf ((t.es.getD e Le0).m) 16) ++ bitsOf ((t.es.getD e Le0).f) 1) ++ bitsOf ((t.es.getD e Le0).i) 1) (((ds ++ bitsOf ((t.es.getD e Le0).m) 16) ++ bitsOf ((t.es.getD e Le0).f) 1) ++ bitsOf ((t.es.getD e Le0).i) 1).length), boxE b2 #[t.mv, t.lv, .int .i64 t.pad, .int .i64 t.ram] 39, boxE b1 #[.int .i64 d.W, .int .i64 d.H, .int .i64 d.T, .int .i64 d.R] 25]) rfl ?_
     refine hl_less (sx 0 rfl (sx 1 rfl (sx 2 rfl (sx 3 rfl (sx 4 rfl (sx 5 rfl (sx 6 rfl (sx 10 rfl (sx 16 rfl (sx 23 rfl (sx 24 rfl (sx 25 rfl (sx 26 rfl (sx 34 rfl (sx 35 rfl (sx 36 rfl (sx 37 rfl (sx 41 rfl (sx 42 rfl (sx 43 rfl (sx 44 rfl (sub_nil _)))))))))))))))))))))) (.refl _) ?_
     refine hl_nil ?_
     refine hq_block_normal ?_
     refine hq_then ?_
     refine hc_region ?_
     refine hl_v rfl rfl rfl (rv_add rfl rfl rfl (by constructor <;> omega)) ?_
     refine hl_v rfl rfl rfl (rv_ev rfl) ?_
     refine hl_less (sx 0 rfl (sx 1 rfl (sx 2 rfl (sx 3 rfl (sx 4 rfl (sx 5 rfl (sx 6 rfl (sx 10 rfl (sx 16 rfl (sx 23 rfl (sx 24 rfl (sx 25 rfl (sx 26 rfl (sx 34 rfl (sx 35 rfl (sx 36 rfl (sx 37 rfl (sx 41 rfl (sx 42 rfl (sx 43 rfl (sx 44 rfl (sub_nil _)))))))))))))))))))))) (.refl _) ?_
     refine hl_nil ?_
     exact hq_round2 (e + 1) (((ds ++ bitsOf ((t.es.getD e Le0).m) 16) ++ bitsOf ((t.es.getD e Le0).f) 1) ++ bitsOf ((t.es.getD e Le0).i) 1) ⟨by omega, by rw [fm_take _ _ Le0 e (by omega), ← List.append_assoc, ← hcs, hds, show k = (t.es.getD e Le0).xs.length by omega, List.take_length]; simp [leBits, Le.val, List.append_assoc], by simp only [List.length_append, bitsOf_len]; omega, bits_app (bits_app (bits_app hdb (bitsOf_bits _ _)) (bitsOf_bits _ _)) (bitsOf_bits _ _)⟩ (by omega) (sx 0 rfl (sx 1 rfl (sx 2 rfl (sx 3 rfl (sx 4 rfl (sx 5 rfl (sx 6 rfl (sx 16 rfl (sx 23 rfl (sx 24 rfl (sx 25 rfl (sx 26 rfl (sx 34 rfl (sx 35 rfl (sx 36 rfl (sub_nil _)))))))))))))))) ((.cons _ (.cons_cons _ (.cons_cons _ (.cons_cons _ .slnil)))))
   ·
    refine hl_less (sx 0 rfl (sx 1 rfl (sx 2 rfl (sx 3 rfl (sx 4 rfl (sx 5 rfl (sx 6 rfl (sx 16 rfl (sx 23 rfl (sx 24 rfl (sx 25 rfl (sx 26 rfl (sx 34 rfl (sx 35 rfl (sx 36 rfl (sx 37 rfl (sub_nil _))))))))))))))))) (.refl _) ?_
    refine hl_nil ?_
    refine hq_then ?_
    refine hc_seq ?_
    refine hc_false rfl ?_
    refine hc_exit ?_
    refine hq_then_exit ?_
    refine hq_then_exit ?_
    refine hq_block_exit ?_
    refine hq_then ?_
    refine hc_seq ?_
    refine hc_region ?_
    refine hl_v rfl rfl rfl (rv_ev rfl) ?_
    refine hl_v rfl rfl rfl (rv_field (k0 := 2) rfl (by kernel_rfl) rfl) ?_
    refine hl_v rfl rfl rfl (rv_load rfl (by kernel_rfl) rfl (box_cell 1 rfl rfl)) ?_
    refine hl_callM (R := (fun u_ p_ => p_ = wrE b5 (.slice (some ⟨g4, 0, none⟩) ((List.replicate (frW d).toNat (0 : Int)).length) ((List.replicate (frW d).toNat (0 : Int)).length)) ((cs ++ bitsOf t.pad 2).length : Int) (packJ (frW d).toNat (cs ++ bitsOf t.pad 2) (cs ++ bitsOf t.pad 2).length))) 0 rfl rfl (by kernel_rfl) rfl rfl (fun l' w hm => bitPut_to (frW d).toNat cs (.slice (some ⟨g4, 0, none⟩) ((List.replicate (frW d).toNat (0 : Int)).length) ((List.replicate (frW d).toNat (0 : Int)).length)) b5 t.pad 2 _ _ w hm hcb (by omega) (by omega) (by first | omega | (simp only [List.length_append, bitsOf_len]; omega)) (by omega)) ?_
    intro v28 p29 hR30
    subst hR30
    refine hl_eqL (l' := [wrE b5 (.slice (some ⟨g4, 0, none⟩) ((List.replicate (frW d).toNat (0 : Int)).length) ((List.replicate (frW d).toNat (0 : Int)).length)) ((cs ++ bitsOf t.pad 2).length : Int) (packJ (frW d).toNat (cs ++ bitsOf t.pad 2) (cs ++ bitsOf t.pad 2).length), boxE b2 #[t.mv, t.lv, .int .i64 t.pad, .int .i64 t.ram] 39, boxE b1 #[.int .i64 d.W, .int .i64 d.H, .int .i64 d.T, .int .i64 d.R] 25]) rfl ?_
    refine hl_less (sx 0 rfl (sx 1 rfl (sx 2 rfl (sx 3 rfl (sx 4 rfl (sx 5 rfl (sx 6 rfl (sx 16 rfl (sx 23 rfl (sx 24 rfl (sx 25 rfl (sx 26 rfl (sx 34 rfl (sx 35 rfl (sx 36 rfl (sx 37 rfl (sub_nil _))))))))))))))))) (.refl _) ?_
    refine hl_nil ?_
    refine hq_then ?_
    refine hc_seq ?_
    refine hc_region ?_
    refine hl_v rfl rfl rfl (rv_ev rfl) ?_
    refine hl_v rfl rfl rfl (rv_field (k0 := 3) rfl (by kernel_rfl) rfl) ?_
    refine hl_v rfl rfl rfl (rv_load rfl (by kernel_rfl) rfl (box_cell 1 rfl rfl)) ?_
    refine hl_callM (R := (fun u_ p_ => p_ = wrE b5 (.slice (some ⟨g4, 0, none⟩) ((List.replicate (frW d).toNat (0 : Int)).length) ((List.replicate (frW d).toNat (0 : Int)).length)) (((cs ++ bitsOf t.pad 2) ++ bitsOf t.ram 5).length : Int) (packJ (frW d).toNat ((cs ++ bitsOf t.pad 2) ++ bitsOf t.ram 5) ((cs ++ bitsOf t.pad 2) ++ bitsOf t.ram 5).length))) 0 rfl rfl (by kernel_rfl) rfl rfl (fun l' w hm => bitPut_to (frW d).toNat (cs ++ bitsOf t.pad 2) (.slice (some ⟨g4, 0, none⟩) ((List.replicate (frW d).toNat (0 : Int)).length) ((List.replicate (frW d).toNat (0 : Int)).length)) b5 t.ram 5 _ _ w hm (bits_app hcb (bitsOf_bits _ _)) (by omega) (by omega) (by first | omega | (simp only [List.length_append, bitsOf_len]; omega)) (by omega)) ?_
    intro v31 p32 hR33
    subst hR33
    refine hl_eqL (l' := [wrE b5 (.slice (some ⟨g4, 0, none⟩) ((List.replicate (frW d).toNat (0 : Int)).length) ((List.replicate (frW d).toNat (0 : Int)).length)) (((cs ++ bitsOf t.pad 2) ++ bitsOf t.ram 5).length : Int) (packJ (frW d).toNat ((cs ++ bitsOf t.pad 2) ++ bitsOf t.ram 5) ((cs ++ bitsOf t.pad 2) ++ bitsOf t.ram 5).length), boxE b2 #[t.mv, t.lv, .int .i64 t.pad, .int .i64 t.ram] 39, boxE b1 #[.int .i64 d.W, .int .i64 d.H, .int .i64 d.T, .int .i64 d.R] 25]) rfl ?_
    refine hl_less (sx 0 rfl (sx 1 rfl (sx 2 rfl (sx 3 rfl (sx 4 rfl (sx 5 rfl (sx 6 rfl (sx 16 rfl (sx 23 rfl (sx 24 rfl (sx 25 rfl (sx 26 rfl (sx 34 rfl (sx 35 rfl (sx 36 rfl (sx 37 rfl (sub_nil _))))))))))))))))) (.refl _) ?_
    refine hl_nil ?_
    refine hq_then ?_
    refine hc_seq ?_
    refine hc_region ?_
    refine hl_conv [wrE b5 (.slice (some ⟨g4, 0, none⟩) ((List.replicate (frW d).toNat (0 : Int)).length) ((List.replicate (frW d).toNat (0 : Int)).length)) (((cs ++ bitsOf t.pad 2) ++ bitsOf t.ram 5).length : Int) (packJ (frW d).toNat ((cs ++ bitsOf t.pad 2) ++ bitsOf t.ram 5) ((cs ++ bitsOf t.pad 2) ++ bitsOf t.ram 5).length), boxE b2 #[t.mv, t.lv, .int .i64 t.pad, .int .i64 t.ram] 39, boxE b1 #[.int .i64 d.W, .int .i64 d.H, .int .i64 d.T, .int .i64 d.R] 25] (conv_pick (src := [wrE b5 (.slice (some ⟨g4, 0, none⟩) ((List.replicate (frW d).toNat (0 : Int)).length) ((List.replicate (frW d).toNat (0 : Int)).length)) (((cs ++ bitsOf t.pad 2) ++ bitsOf t.ram 5).length : Int) (packJ (frW d).toNat ((cs ++ bitsOf t.pad 2) ++ bitsOf t.ram 5) ((cs ++ bitsOf t.pad 2) ++ bitsOf t.ram 5).length), boxE b2 #[t.mv, t.lv, .int .i64 t.pad, .int .i64 t.ram] 39, boxE b1 #[.int .i64 d.W, .int .i64 d.H, .int .i64 d.T, .int .i64 d.R] 25]) (dst := [wrE b5 (.slice (some ⟨g4, 0, none⟩) ((List.replicate (frW d).toNat (0 : Int)).length) ((List.replicate (frW d).toNat (0 : Int)).length)) (((cs ++ bitsOf t.pad 2) ++ bitsOf t.ram 5).length : Int) (packJ (frW d).toNat ((cs ++ bitsOf t.pad 2) ++ bitsOf t.ram 5) ((cs ++ bitsOf t.pad 2) ++ bitsOf t.ram 5).length), boxE b2 #[t.mv, t.lv, .int .i64 t.pad, .int .i64 t.ram] 39, boxE b1 #[.int .i64 d.W, .int .i64 d.H, .int .i64 d.T, .int .i64 d.R] 25]) (l := []) [0, 1, 2] (by decide) rfl) ?_
    refine hl_conv [boxE b5 #[.slice (some ⟨g4, 0, none⟩) ((List.replicate (frW d).toNat (0 : Int)).length) ((List.replicate (frW d).toNat (0 : Int)).length), .int .i64 (((cs ++ bitsOf t.pad 2) ++ bitsOf t.ram 5).length : Int)] 105, rowE 3 1 (.slice (some ⟨g4, 0, none⟩) ((List.replicate (frW d).toNat (0 : Int)).length) ((List.replicate (frW d).toNat (0 : Int)).length)) ((packJ (frW d).toNat ((cs ++ bitsOf t.pad 2) ++ bitsOf t.ram 5) ((cs ++ bitsOf t.pad 2) ++ bitsOf t.ram 5).length).length) ((packJ (frW d).toNat ((cs ++ bitsOf t.pad 2) ++ bitsOf t.ram 5) ((cs ++ bitsOf t.pad 2) ++ bitsOf t.ram 5).length).map (Value.int .i64)), boxE b2 #[t.mv, t.lv, .int .i64 t.pad, .int .i64 t.ram] 39, boxE b1 #[.int .i64 d.W, .int .i64 d.H, .int .i64 d.T, .int .i64 d.R] 25] conv_unbig ?_
    refine hl_v rfl rfl rfl (rv_ev rfl) ?_
    refine hl_v rfl rfl rfl (rv_nilCheck rfl rfl) ?_
    refine hl_v rfl rfl rfl (rv_field (k0 := 0) rfl (by kernel_rfl) rfl) ?_
    refine hl_v rfl rfl rfl (rv_load rfl (by kernel_rfl) rfl (box_cell 0 rfl rfl)) ?_
    refine hl_v rfl rfl rfl (rv_ev rfl) ?_
    refine hl_v rfl rfl rfl (rv_ev rfl) ?_
    refine hl_less (sx 0 rfl (sx 1 rfl (sx 2 rfl (sx 3 rfl (sx 4 rfl (sx 5 rfl (sx 6 rfl (sx 16 rfl (sx 23 rfl (sx 24 rfl (sx 25 rfl (sx 26 rfl (sx 34 rfl (sx 35 rfl (sx 36 rfl (sx 37 rfl (sub_nil _))))))))))))))))) (.refl _) ?_
    refine hl_nil ?_
    refine hq_then ?_
    refine hc_ret ?_
    have hyes : tcOkV d t.val = true := by assumption
    have htb : ((cs ++ bitsOf t.pad 2) ++ bitsOf t.ram 5) = tcBits t.val := by rw [hcs, show e = t.es.length by omega, List.take_length]; simp [tcBits, Tc.val, List.flatMap_map, List.append_assoc]
    exact hq_retM (rs := [.tmp 4, .tmp 5]) (vs := [.slice (some ⟨g4, 0, none⟩) ((List.replicate (frW d).toNat (0 : Int)).length) ((List.replicate (frW d).toNat (0 : Int)).length), .bool true]) (post := [rowE 3 1 (.slice (some ⟨g4, 0, none⟩) ((List.replicate (frW d).toNat (0 : Int)).length) ((List.replicate (frW d).toNat (0 : Int)).length)) ((packJ (frW d).toNat ((cs ++ bitsOf t.pad 2) ++ bitsOf t.ram 5) ((cs ++ bitsOf t.pad 2) ++ bitsOf t.ram 5).length).length) ((packJ (frW d).toNat ((cs ++ bitsOf t.pad 2) ++ bitsOf t.ram 5) ((cs ++ bitsOf t.pad 2) ++ bitsOf t.ram 5).length).map (Value.int .i64))]) rfl ⟨rfl, rfl, trivial⟩ rfl ((.cons _ (.cons_cons _ (.cons _ (.cons _ .slnil))))) ⟨_, by rw [hyes]; rfl, by unfold encV; rw [if_pos hyes, ← htb]⟩
 ·
  refine hl_v rfl rfl rfl (rv_ev rfl) ?_
  refine hl_less (sx 0 rfl (sx 1 rfl (sx 2 rfl (sx 3 rfl (sx 4 rfl (sx 5 rfl (sx 16 rfl (sub_nil _)))))))) (.refl _) ?_
  refine hl_nil ?_
  refine hq_then ?_
  refine hc_true rfl ?_
  refine hc_seq ?_
  refine hc_region ?_
  refine hl_v rfl rfl rfl (rv_ev rfl) ?_
  refine hl_v rfl rfl rfl (rv_ev rfl) ?_
  refine hl_less (sx 0 rfl (sx 1 rfl (sx 2 rfl (sx 3 rfl (sx 4 rfl (sx 5 rfl (sx 16 rfl (sub_nil _)))))))) (.refl _) ?_
  refine hl_nil ?_
  refine hq_then ?_
  refine hc_ret ?_
  refine hq_then_ret ?_
  refine hq_conv (rowE 3 1 (.slice none 0 0) 0 [] :: [boxE b2 #[t.mv, t.lv, .int .i64 t.pad, .int .i64 t.ram] 39, boxE b1 #[.int .i64 d.W, .int .i64 d.H, .int .i64 d.T, .int .i64 d.R] 25]) (fun w hm => hm.nilRow 3 1) ?_
  have hno : tcOkV d t.val = false := by assumption
  exact hq_retM (rs := [.tmp 4, .tmp 5]) (vs := [.slice none 0 0, .bool false]) (post := [rowE 3 1 (.slice none 0 0) 0 []]) rfl ⟨rfl, rfl, trivial⟩ rfl (.cons_cons _ (List.nil_sublist _)) ⟨_, by rw [hno]; rfl, by unfold encV; rw [hno]; rfl⟩
open Go.RowKit
theorem flat_bits (f : Int → List Int) (hf : ∀ x, Bits (f x)) : ∀ l : List Int, Bits (l.flatMap f)
  | [] => bits_nil
  | a :: l => by rw [List.flatMap_cons]; exact bits_app (hf a) (flat_bits f hf l)
theorem le_bits (e : List Int × Int × Int × Int) : Bits (leBits e) := bits_app (bits_app (bits_app (flat_bits _ (fun x => bitsOf_bits x 3) _) (bitsOf_bits _ _)) (bitsOf_bits _ _)) (bitsOf_bits _ _)
theorem les_bits : ∀ l : List (List Int × Int × Int × Int), Bits (l.flatMap leBits)
  | [] => bits_nil
  | a :: l => by rw [List.flatMap_cons]; exact bits_app (le_bits a) (les_bits l)
theorem tc_bits (v : List Int × List (List Int × Int × Int × Int) × Int × Int) : Bits (tcBits v) := bits_app (bits_app (bits_app (flat_bits _ (fun x => bitsOf_bits x 5) _) (les_bits _)) (bitsOf_bits _ _)) (bitsOf_bits _ _)
open Go.RowKit
def insI : List Int → Int → List Int
  | [], x => [x]
  | y :: ys, x => if y < x then y :: insI ys x else if y = x then y :: ys else x :: y :: ys
theorem insI_at (xs : List Int) (x : Int) (k : Nat) (hk : k ≤ xs.length) (h1 : ∀ j, j < k → xs.getD j 0 < x) (h2 : k < xs.length → x < xs.getD k 0) : insI xs x = xs.take k ++ [x] ++ xs.drop k := by
  induction xs generalizing k with
  | nil => simp at hk; subst hk; rfl
  | cons y ys ih =>
    cases k with
    | zero =>
      have := h2 (by simp)
      simp at this
      simp only [insI, List.take_zero, List.nil_append, List.drop_zero, List.singleton_append]
      rw [if_neg (by omega), if_neg (by omega)]
    | succ k =>
      have := h1 0 (by omega)
      simp at this
      simp only [insI]
      rw [if_pos this, ih k (by simpa using hk) (fun j hj => by have := h1 (j + 1) (by omega); simpa using this) (fun hlt => by have := h2 (by simpa using hlt); simpa using this)]
      simp
theorem insI_has (xs : List Int) (x : Int) (k : Nat) (hk : k < xs.length) (h1 : ∀ j, j < k → xs.getD j 0 < x) (h2 : xs.getD k 0 = x) : insI xs x = xs := by
  induction xs generalizing k with
  | nil => simp at hk
  | cons y ys ih =>
    cases k with
    | zero =>
      simp at h2
      simp only [insI]
      rw [if_neg (by omega), if_pos h2]
    | succ k =>
      have := h1 0 (by omega)
      simp at this
      simp only [insI]
      rw [if_pos this, ih k (by simpa using hk) (fun j hj => by have := h1 (j + 1) (by omega); simpa using this) (by simpa using h2)]
set_option maxHeartbeats 4000000 in
set_option maxRecDepth 100000 in
theorem insertInt_ret (v : Value) (xs : List Int) (x : Int) (w : World) (hv : RdsW w v 1 xs.length (xs.map (Value.int .i64))) (hn : xs.length ≤ 1000000) :
  Calls Try.prog 132 #[v, .int .i64 x] w (Ret w fun v' post => (v' = v ∧ post = [] ∧ insI xs x = xs) ∨ (post = [rowE 3 1 v' (insI xs x).length ((insI xs x).map (Value.int .i64))])) := by
 refine calls_hc (N := 48) (args := [v, .int .i64 x]) Try.func132 rfl rfl ?_
 refine hc_less _ (sx 0 rfl (sx 1 rfl (sub_nil _))) (.refl _) ?_
 refine hc_seq ?_
 refine hc_region ?_
 refine hl_v rfl rfl rfl (rv_ev rfl) ?_
 refine hl_less (sx 0 rfl (sx 1 rfl (sx 4 rfl (sub_nil _)))) (.refl _) ?_
 refine hl_nil ?_
 refine hq_then ?_
 refine hc_seq ?_
 refine hc_region ?_
 refine hl_v rfl rfl rfl (rv_ev rfl) ?_
 refine hl_less (sx 0 rfl (sx 1 rfl (sx 4 rfl (sx 5 rfl (sub_nil _))))) (.refl _) ?_
 refine hl_nil ?_
 refine hq_then ?_
 refine hc_seq ?_
 refine hc_block ?_
 refine hc_loop1 (α := Int) (fun k => []) (fun k => [(0, v), (1, .int .i64 x), (4, .slice none 0 0), (5, .int .i64 k)]) (fun k => 0 ≤ k ∧ k ≤ xs.length ∧ ∀ j, j < k.toNat → xs.getD j 0 < x) (fun k => ((xs.length : Int) - k).toNat) 0 ⟨by omega, by omega, fun j hj => absurd hj (by omega)⟩ (sx 0 rfl (sx 1 rfl (sx 4 rfl (sx 5 rfl (sub_nil _))))) (.slnil) ?_
 intro k hi1
 obtain ⟨hk0, hk1, hk2⟩ := hi1
 refine hc_seq ?_
 refine hc_seq ?_
 refine hc_region ?_
 refine hl_v rfl rfl rfl (rv_ev rfl) ?_
 refine hl_v rfl rfl rfl (rv_ev rfl) ?_
 refine hl_v rfl rfl rfl (rv_len rfl Try.underlying30 rfl (rd_old hv)) ?_
 refine hl_lss rfl rfl rfl rfl rfl rfl (fun h2 => ?_) (fun h2 => ?_)
 ·
  refine hl_v rfl rfl rfl (rv_ev rfl) ?_
  refine hl_v rfl rfl rfl (rv_ev rfl) ?_
  refine hl_v rfl rfl rfl (rv_ev rfl) ?_
  refine hl_v rfl rfl rfl (rv_index (s := 1) rfl Try.underlying30 (by kernel_rfl) rfl rfl (rd_old hv) (by omega) (by first | omega | (simp only [List.length_set]; omega))) ?_
  refine hl_v rfl rfl rfl (rv_loadEl (u := .int .i64 (xs.getD ((k).toNat) 0)) rfl (by kernel_rfl) rfl (rd_old hv) (ints_at1 (show _ < xs.length by first | omega | (simp only [List.length_set]; omega)))) ?_
  refine hl_v rfl rfl rfl (rv_ev rfl) ?_
  refine hl_lss rfl rfl rfl rfl rfl rfl (fun h3 => ?_) (fun h3 => ?_)
  ·
   refine hl_v rfl rfl rfl (rv_ev rfl) ?_
   refine hl_less (sx 0 rfl (sx 1 rfl (sx 4 rfl (sx 5 rfl (sx 18 rfl (sub_nil _)))))) (.refl _) ?_
   refine hl_nil ?_
   refine hq_then ?_
   refine hc_true rfl ?_
   refine hc_skip ?_
   refine hq_then ?_
   refine hc_block ?_
   refine hc_region ?_
   refine hl_v rfl rfl rfl (rv_ev rfl) ?_
   refine hl_v rfl rfl rfl (rv_add rfl rfl rfl (by constructor <;> omega)) ?_
   refine hl_v rfl rfl rfl (rv_ev rfl) ?_
   refine hl_less (sx 0 rfl (sx 1 rfl (sx 4 rfl (sx 5 rfl (sx 18 rfl (sub_nil _)))))) (.refl _) ?_
   refine hl_nil ?_
   refine hq_block_normal ?_
   exact hq_round1 (k + 1) ⟨by omega, by omega, fun j hj => by by_cases hjk : j = k.toNat; (subst hjk; assumption); exact hk2 j (by omega)⟩ (by omega) (sx 0 rfl (sx 1 rfl (sx 4 rfl (sx 5 rfl (sub_nil _))))) (.slnil)
  ·
   refine hl_v rfl rfl rfl (rv_ev rfl) ?_
   refine hl_less (sx 0 rfl (sx 1 rfl (sx 4 rfl (sx 5 rfl (sx 18 rfl (sub_nil _)))))) (.refl _) ?_
   refine hl_nil ?_
   refine hq_then ?_
   refine hc_false rfl ?_
   refine hc_exit ?_
   refine hq_then_exit ?_
   refine hq_then_exit ?_
   refine hq_block_exit ?_
   refine hq_then ?_
   refine hc_seq ?_
   refine hc_seq ?_
   refine hc_region ?_
   refine hl_v rfl rfl rfl (rv_ev rfl) ?_
   refine hl_v rfl rfl rfl (rv_ev rfl) ?_
   refine hl_v rfl rfl rfl (rv_len rfl Try.underlying30 rfl (rd_old hv)) ?_
   refine hl_lss rfl rfl rfl rfl rfl rfl (fun h4 => ?_) (fun h4 => ?_)
   ·
    refine hl_v rfl rfl rfl (rv_ev rfl) ?_
    refine hl_v rfl rfl rfl (rv_ev rfl) ?_
    refine hl_v rfl rfl rfl (rv_ev rfl) ?_
    refine hl_v rfl rfl rfl (rv_index (s := 1) rfl Try.underlying30 (by kernel_rfl) rfl rfl (rd_old hv) (by omega) (by first | omega | (simp only [List.length_set]; omega))) ?_
    refine hl_v rfl rfl rfl (rv_loadEl (u := .int .i64 (xs.getD ((k).toNat) 0)) rfl (by kernel_rfl) rfl (rd_old hv) (ints_at1 (show _ < xs.length by first | omega | (simp only [List.length_set]; omega)))) ?_
    refine hl_v rfl rfl rfl (rv_ev rfl) ?_
    refine hl_eql rfl rfl rfl rfl rfl rfl (fun h5 => ?_) (fun h5 => ?_)
    ·
     refine hl_v rfl rfl rfl (rv_ev rfl) ?_
     refine hl_less (sx 0 rfl (sx 1 rfl (sx 4 rfl (sx 5 rfl (sx 18 rfl (sx 32 rfl (sub_nil _))))))) (.refl _) ?_
     refine hl_nil ?_
     refine hq_then ?_
     refine hc_true rfl ?_
     refine hc_seq ?_
     refine hc_region ?_
     refine hl_v rfl rfl rfl (rv_ev rfl) ?_
     refine hl_v rfl rfl rfl (rv_ev rfl) ?_
     refine hl_less (sx 0 rfl (sx 1 rfl (sx 4 rfl (sx 5 rfl (sx 18 rfl (sx 32 rfl (sub_nil _))))))) (.refl _) ?_
     refine hl_nil ?_
     refine hq_then ?_
     refine hc_ret ?_
     refine hq_then_ret ?_
     exact hq_retR rfl rfl (List.nil_sublist _) (Or.inl ⟨rfl, rfl, insI_has xs x k.toNat (by omega) hk2 (by omega)⟩)
    ·
     refine hl_v rfl rfl rfl (rv_ev rfl) ?_
     refine hl_less (sx 0 rfl (sx 1 rfl (sx 4 rfl (sx 5 rfl (sx 18 rfl (sx 32 rfl (sub_nil _))))))) (.refl _) ?_
     refine hl_nil ?_
     refine hq_then ?_
     refine hc_false rfl ?_
     refine hc_skip ?_
     refine hq_then ?_
     refine hc_seq ?_
     refine hc_region ?_
     refine hl_row rfl rfl rfl (rq_slice0 (s := 1) rfl Try.underlying30 (by kernel_rfl)) ?_
     intro g6
     refine hl_v rfl rfl rfl (rv_ev rfl) ?_
     refine hl_v rfl rfl rfl (rv_ev rfl) ?_
     refine hl_v rfl rfl rfl (rv_slH rfl Try.underlying30 (by kernel_rfl) rfl rfl (rd_old hv) (by omega) (by omega)) ?_
     refine hl_append (i := 0) (z := .int .i64 0) (bytes := 8) (n' := (xs.take (k).toNat).length) (xs' := ((xs.take (k).toNat).map (Value.int .i64))) (L := fun v7 => [rowE 3 1 v7 ((xs.take (k).toNat).length) ((xs.take (k).toNat).map (Value.int .i64))]) rfl rfl rfl rfl Try.underlying30 (by kernel_rfl) (by kernel_rfl) rfl rfl rfl (rd_slH (rd_old hv) (by omega)) (ints_one _) (by simp; omega) ((Nat.zero_add _)) ((List.nil_append _)) (fun _ => rfl) ?_
     intro v7
     refine hl_v rfl rfl rfl (rv_ev rfl) ?_
     refine hl_less (sx 0 rfl (sx 1 rfl (sx 4 rfl (sx 5 rfl (sx 6 rfl (sx 18 rfl (sx 32 rfl (sub_nil _)))))))) (.refl _) ?_
     refine hl_nil ?_
     refine hq_then ?_
     refine hc_seq ?_
     refine hc_region ?_
     refine hl_v rfl rfl rfl (rv_ev rfl) ?_
     refine hl_v rfl rfl rfl (rv_ev rfl) ?_
     refine hl_row rfl rfl rfl (rq_buildSlice (z := .int .i64 0) (s := 1) (cs := ([x].map (Value.int .i64))) rfl Try.underlying30 (by kernel_rfl) (by decide) rfl (by kernel_rfl) rfl) ?_
     intro g8
     refine hl_append (i := 1) (z := .int .i64 0) (bytes := 8) (n' := ((xs.take (k).toNat) ++ ([x])).length) (xs' := (((xs.take (k).toNat) ++ ([x])).map (Value.int .i64))) (L := fun v9 => [rowE 3 1 (.slice (some ⟨g8, 0, none⟩) 1 1) 1 ([x].map (Value.int .i64)), rowE 3 1 v9 (((xs.take (k).toNat) ++ ([x])).length) (((xs.take (k).toNat) ++ ([x])).map (Value.int .i64))]) rfl rfl rfl rfl Try.underlying30 (by kernel_rfl) (by kernel_rfl) rfl rfl rfl (rd_row 0 rfl) (ints_one _) (by simp; omega) (len_app (xs.take (k).toNat) ([x])) (ints_app (xs.take (k).toNat) ([x])) (fun _ => rfl) ?_
     intro v9
     refine hl_v rfl rfl rfl (rv_ev rfl) ?_
     refine hl_less (sx 0 rfl (sx 1 rfl (sx 4 rfl (sx 5 rfl (sx 6 rfl (sx 18 rfl (sx 32 rfl (sub_nil _)))))))) (.refl _) ?_
     refine hl_nil ?_
     refine hq_then ?_
     refine hc_seq ?_
     refine hc_region ?_
     refine hl_v rfl rfl rfl (rv_ev rfl) ?_
     refine hl_v rfl rfl rfl (rv_ev rfl) ?_
     refine hl_v rfl rfl rfl (rv_ev rfl) ?_
     refine hl_v rfl rfl rfl (rv_slL rfl Try.underlying30 (by kernel_rfl) rfl rfl (rd_old hv) (by omega) (by omega)) ?_
     refine hl_append (i := 1) (z := .int .i64 0) (bytes := 8) (n' := (((xs.take (k).toNat) ++ ([x])) ++ (xs.drop (k).toNat)).length) (xs' := ((((xs.take (k).toNat) ++ ([x])) ++ (xs.drop (k).toNat)).map (Value.int .i64))) (L := fun v10 => [rowE 3 1 (.slice (some ⟨g8, 0, none⟩) 1 1) 1 ([x].map (Value.int .i64)), rowE 3 1 v10 ((((xs.take (k).toNat) ++ ([x])) ++ (xs.drop (k).toNat)).length) ((((xs.take (k).toNat) ++ ([x])) ++ (xs.drop (k).toNat)).map (Value.int .i64))]) rfl rfl rfl rfl Try.underlying30 (by kernel_rfl) (by kernel_rfl) rfl rfl rfl (rd_slL (rd_old hv) (by omega)) (ints_one _) (by simp; omega) (len_app ((xs.take (k).toNat) ++ ([x])) (xs.drop (k).toNat)) (ints_app ((xs.take (k).toNat) ++ ([x])) (xs.drop (k).toNat)) (fun _ => rfl) ?_
     intro v10
     refine hl_v rfl rfl rfl (rv_ev rfl) ?_
     refine hl_less (sx 0 rfl (sx 1 rfl (sx 4 rfl (sx 5 rfl (sx 6 rfl (sx 18 rfl (sx 32 rfl (sub_nil _)))))))) (.refl _) ?_
     refine hl_nil ?_
     refine hq_then ?_
     refine hc_ret ?_
     have e := insI_at xs x k.toNat (by omega) hk2 (by omega)
     exact hq_retR (post := [rowE 3 1 v10 ((((xs.take (k).toNat) ++ ([x])) ++ (xs.drop (k).toNat)).length) ((((xs.take (k).toNat) ++ ([x])) ++ (xs.drop (k).toNat)).map (Value.int .i64))]) rfl rfl ((.cons _ (.cons_cons _ .slnil))) (Or.inr (by rw [e]))
   ·
    refine hl_v rfl rfl rfl (rv_ev rfl) ?_
    refine hl_skip rfl rfl rfl ?_
    refine hl_skip rfl rfl rfl ?_
    refine hl_skip rfl rfl rfl ?_
    refine hl_skip rfl rfl rfl ?_
    refine hl_skip rfl rfl rfl ?_
    refine hl_skip rfl rfl rfl ?_
    refine hl_v rfl rfl rfl (rv_ev rfl) ?_
    refine hl_less (sx 0 rfl (sx 1 rfl (sx 4 rfl (sx 5 rfl (sx 18 rfl (sx 32 rfl (sub_nil _))))))) (.refl _) ?_
    refine hl_nil ?_
    refine hq_then ?_
    refine hc_false rfl ?_
    refine hc_skip ?_
    refine hq_then ?_
    refine hc_seq ?_
    refine hc_region ?_
    refine hl_row rfl rfl rfl (rq_slice0 (s := 1) rfl Try.underlying30 (by kernel_rfl)) ?_
    intro g11
    refine hl_v rfl rfl rfl (rv_ev rfl) ?_
    refine hl_v rfl rfl rfl (rv_ev rfl) ?_
    refine hl_v rfl rfl rfl (rv_slH rfl Try.underlying30 (by kernel_rfl) rfl rfl (rd_old hv) (by omega) (by omega)) ?_
    refine hl_append (i := 0) (z := .int .i64 0) (bytes := 8) (n' := (xs.take (k).toNat).length) (xs' := ((xs.take (k).toNat).map (Value.int .i64))) (L := fun v12 => [rowE 3 1 v12 ((xs.take (k).toNat).length) ((xs.take (k).toNat).map (Value.int .i64))]) rfl rfl rfl rfl Try.underlying30 (by kernel_rfl) (by kernel_rfl) rfl rfl rfl (rd_slH (rd_old hv) (by omega)) (ints_one _) (by simp; omega) ((Nat.zero_add _)) ((List.nil_append _)) (fun _ => rfl) ?_
    intro v12
    refine hl_v rfl rfl rfl (rv_ev rfl) ?_
    refine hl_less (sx 0 rfl (sx 1 rfl (sx 4 rfl (sx 5 rfl (sx 6 rfl (sx 18 rfl (sx 32 rfl (sub_nil _)))))))) (.refl _) ?_
    refine hl_nil ?_
    refine hq_then ?_
    refine hc_seq ?_
    refine hc_region ?_
    refine hl_v rfl rfl rfl (rv_ev rfl) ?_
    refine hl_v rfl rfl rfl (rv_ev rfl) ?_
    refine hl_row rfl rfl rfl (rq_buildSlice (z := .int .i64 0) (s := 1) (cs := ([x].map (Value.int .i64))) rfl Try.underlying30 (by kernel_rfl) (by decide) rfl (by kernel_rfl) rfl) ?_
    intro g13
    refine hl_append (i := 1) (z := .int .i64 0) (bytes := 8) (n' := ((xs.take (k).toNat) ++ ([x])).length) (xs' := (((xs.take (k).toNat) ++ ([x])).map (Value.int .i64))) (L := fun v14 => [rowE 3 1 (.slice (some ⟨g13, 0, none⟩) 1 1) 1 ([x].map (Value.int .i64)), rowE 3 1 v14 (((xs.take (k).toNat) ++ ([x])).length) (((xs.take (k).toNat) ++ ([x])).map (Value.int .i64))]) rfl rfl rfl rfl Try.underlying30 (by kernel_rfl) (by kernel_rfl) rfl rfl rfl (rd_row 0 rfl) (ints_one _) (by simp; omega) (len_app (xs.take (k).toNat) ([x])) (ints_app (xs.take (k).toNat) ([x])) (fun _ => rfl) ?_
    intro v14
    refine hl_v rfl rfl rfl (rv_ev rfl) ?_
    refine hl_less (sx 0 rfl (sx 1 rfl (sx 4 rfl (sx 5 rfl (sx 6 rfl (sx 18 rfl (sx 32 rfl (sub_nil _)))))))) (.refl _) ?_
    refine hl_nil ?_
    refine hq_then ?_
    refine hc_seq ?_
    refine hc_region ?_
    refine hl_v rfl rfl rfl (rv_ev rfl) ?_
    refine hl_v rfl rfl rfl (rv_ev rfl) ?_
    refine hl_v rfl rfl rfl (rv_ev rfl) ?_
    refine hl_v rfl rfl rfl (rv_slL rfl Try.underlying30 (by kernel_rfl) rfl rfl (rd_old hv) (by omega) (by omega)) ?_
    refine hl_append (i := 1) (z := .int .i64 0) (bytes := 8) (n' := (((xs.take (k).toNat) ++ ([x])) ++ (xs.drop (k).toNat)).length) (xs' := ((((xs.take (k).toNat) ++ ([x])) ++ (xs.drop (k).toNat)).map (Value.int .i64))) (L := fun v15 => [rowE 3 1 (.slice (some ⟨g13, 0, none⟩) 1 1) 1 ([x].map (Value.int .i64)), rowE 3 1 v15 ((((xs.take (k).toNat) ++ ([x])) ++ (xs.drop (k).toNat)).length) ((((xs.take (k).toNat) ++ ([x])) ++ (xs.drop (k).toNat)).map (Value.int .i64))]) rfl rfl rfl rfl Try.underlying30 (by kernel_rfl) (by kernel_rfl) rfl rfl rfl (rd_slL (rd_old hv) (by omega)) (ints_one _) (by simp; omega) (len_app ((xs.take (k).toNat) ++ ([x])) (xs.drop (k).toNat)) (ints_app ((xs.take (k).toNat) ++ ([x])) (xs.drop (k).toNat)) (fun _ => rfl) ?_
    intro v15
    refine hl_v rfl rfl rfl (rv_ev rfl) ?_
    refine hl_less (sx 0 rfl (sx 1 rfl (sx 4 rfl (sx 5 rfl (sx 6 rfl (sx 18 rfl (sx 32 rfl (sub_nil _)))))))) (.refl _) ?_
    refine hl_nil ?_
    refine hq_then ?_
    refine hc_ret ?_
    have e := insI_at xs x k.toNat (by omega) hk2 (by omega)
    exact hq_retR (post := [rowE 3 1 v15 ((((xs.take (k).toNat) ++ ([x])) ++ (xs.drop (k).toNat)).length) ((((xs.take (k).toNat) ++ ([x])) ++ (xs.drop (k).toNat)).map (Value.int .i64))]) rfl rfl ((.cons _ (.cons_cons _ .slnil))) (Or.inr (by rw [e]))
 ·
  refine hl_v rfl rfl rfl (rv_ev rfl) ?_
  refine hl_skip rfl rfl rfl ?_
  refine hl_skip rfl rfl rfl ?_
  refine hl_skip rfl rfl rfl ?_
  refine hl_skip rfl rfl rfl ?_
  refine hl_skip rfl rfl rfl ?_
  refine hl_skip rfl rfl rfl ?_
  refine hl_v rfl rfl rfl (rv_ev rfl) ?_
  refine hl_less (sx 0 rfl (sx 1 rfl (sx 4 rfl (sx 5 rfl (sx 18 rfl (sub_nil _)))))) (.refl _) ?_
  refine hl_nil ?_
  refine hq_then ?_
  refine hc_false rfl ?_
  refine hc_exit ?_
  refine hq_then_exit ?_
  refine hq_then_exit ?_
  refine hq_block_exit ?_
  refine hq_then ?_
  refine hc_seq ?_
  refine hc_seq ?_
  refine hc_region ?_
  refine hl_v rfl rfl rfl (rv_ev rfl) ?_
  refine hl_v rfl rfl rfl (rv_ev rfl) ?_
  refine hl_v rfl rfl rfl (rv_len rfl Try.underlying30 rfl (rd_old hv)) ?_
  refine hl_lss rfl rfl rfl rfl rfl rfl (fun h16 => ?_) (fun h16 => ?_)
  ·
   refine hl_v rfl rfl rfl (rv_ev rfl) ?_
   refine hl_v rfl rfl rfl (rv_ev rfl) ?_
   refine hl_v rfl rfl rfl (rv_ev rfl) ?_
   refine hl_v rfl rfl rfl (rv_index (s := 1) rfl Try.underlying30 (by kernel_rfl) rfl rfl (rd_old hv) (by omega) (by first | omega | (simp only [List.length_set]; omega))) ?_
   refine hl_v rfl rfl rfl (rv_loadEl (u := .int .i64 (xs.getD ((k).toNat) 0)) rfl (by kernel_rfl) rfl (rd_old hv) (ints_at1 (show _ < xs.length by first | omega | (simp only [List.length_set]; omega)))) ?_
   refine hl_v rfl rfl rfl (rv_ev rfl) ?_
   refine hl_eql rfl rfl rfl rfl rfl rfl (fun h17 => ?_) (fun h17 => ?_)
   ·
    refine hl_v rfl rfl rfl (rv_ev rfl) ?_
    refine hl_less (sx 0 rfl (sx 1 rfl (sx 4 rfl (sx 5 rfl (sx 18 rfl (sx 32 rfl (sub_nil _))))))) (.refl _) ?_
    refine hl_nil ?_
    refine hq_then ?_
    refine hc_true rfl ?_
    refine hc_seq ?_
    refine hc_region ?_
    refine hl_v rfl rfl rfl (rv_ev rfl) ?_
    refine hl_v rfl rfl rfl (rv_ev rfl) ?_
    refine hl_less (sx 0 rfl (sx 1 rfl (sx 4 rfl (sx 5 rfl (sx 18 rfl (sx 32 rfl (sub_nil _))))))) (.refl _) ?_
    refine hl_nil ?_
    refine hq_then ?_
    refine hc_ret ?_
    refine hq_then_ret ?_
    exact hq_retR rfl rfl (List.nil_sublist _) (Or.inl ⟨rfl, rfl, insI_has xs x k.toNat (by omega) hk2 (by omega)⟩)
   ·
    refine hl_v rfl rfl rfl (rv_ev rfl) ?_
    refine hl_less (sx 0 rfl (sx 1 rfl (sx 4 rfl (sx 5 rfl (sx 18 rfl (sx 32 rfl (sub_nil _))))))) (.refl _) ?_
    refine hl_nil ?_
    refine hq_then ?_
    refine hc_false rfl ?_
    refine hc_skip ?_
    refine hq_then ?_
    refine hc_seq ?_
    refine hc_region ?_
    refine hl_row rfl rfl rfl (rq_slice0 (s := 1) rfl Try.underlying30 (by kernel_rfl)) ?_
    intro g18
    refine hl_v rfl rfl rfl (rv_ev rfl) ?_
    refine hl_v rfl rfl rfl (rv_ev rfl) ?_
    refine hl_v rfl rfl rfl (rv_slH rfl Try.underlying30 (by kernel_rfl) rfl rfl (rd_old hv) (by omega) (by omega)) ?_
    refine hl_append (i := 0) (z := .int .i64 0) (bytes := 8) (n' := (xs.take (k).toNat).length) (xs' := ((xs.take (k).toNat).map (Value.int .i64))) (L := fun v19 => [rowE 3 1 v19 ((xs.take (k).toNat).length) ((xs.take (k).toNat).map (Value.int .i64))]) rfl rfl rfl rfl Try.underlying30 (by kernel_rfl) (by kernel_rfl) rfl rfl rfl (rd_slH (rd_old hv) (by omega)) (ints_one _) (by simp; omega) ((Nat.zero_add _)) ((List.nil_append _)) (fun _ => rfl) ?_
    intro v19
    refine hl_v rfl rfl rfl (rv_ev rfl) ?_
    refine hl_less (sx 0 rfl (sx 1 rfl (sx 4 rfl (sx 5 rfl (sx 6 rfl (sx 18 rfl (sx 32 rfl (sub_nil _)))))))) (.refl _) ?_
    refine hl_nil ?_
    refine hq_then ?_
    refine hc_seq ?_
    refine hc_region ?_
    refine hl_v rfl rfl rfl (rv_ev rfl) ?_
    refine hl_v rfl rfl rfl (rv_ev rfl) ?_
    refine hl_row rfl rfl rfl (rq_buildSlice (z := .int .i64 0) (s := 1) (cs := ([x].map (Value.int .i64))) rfl Try.underlying30 (by kernel_rfl) (by decide) rfl (by kernel_rfl) rfl) ?_
    intro g20
    refine hl_append (i := 1) (z := .int .i64 0) (bytes := 8) (n' := ((xs.take (k).toNat) ++ ([x])).length) (xs' := (((xs.take (k).toNat) ++ ([x])).map (Value.int .i64))) (L := fun v21 => [rowE 3 1 (.slice (some ⟨g20, 0, none⟩) 1 1) 1 ([x].map (Value.int .i64)), rowE 3 1 v21 (((xs.take (k).toNat) ++ ([x])).length) (((xs.take (k).toNat) ++ ([x])).map (Value.int .i64))]) rfl rfl rfl rfl Try.underlying30 (by kernel_rfl) (by kernel_rfl) rfl rfl rfl (rd_row 0 rfl) (ints_one _) (by simp; omega) (len_app (xs.take (k).toNat) ([x])) (ints_app (xs.take (k).toNat) ([x])) (fun _ => rfl) ?_
    intro v21
    refine hl_v rfl rfl rfl (rv_ev rfl) ?_
    refine hl_less (sx 0 rfl (sx 1 rfl (sx 4 rfl (sx 5 rfl (sx 6 rfl (sx 18 rfl (sx 32 rfl (sub_nil _)))))))) (.refl _) ?_
    refine hl_nil ?_
    refine hq_then ?_
    refine hc_seq ?_
    refine hc_region ?_
    refine hl_v rfl rfl rfl (rv_ev rfl) ?_
    refine hl_v rfl rfl rfl (rv_ev rfl) ?_
    refine hl_v rfl rfl rfl (rv_ev rfl) ?_
    refine hl_v rfl rfl rfl (rv_slL rfl Try.underlying30 (by kernel_rfl) rfl rfl (rd_old hv) (by omega) (by omega)) ?_
    refine hl_append (i := 1) (z := .int .i64 0) (bytes := 8) (n' := (((xs.take (k).toNat) ++ ([x])) ++ (xs.drop (k).toNat)).length) (xs' := ((((xs.take (k).toNat) ++ ([x])) ++ (xs.drop (k).toNat)).map (Value.int .i64))) (L := fun v22 => [rowE 3 1 (.slice (some ⟨g20, 0, none⟩) 1 1) 1 ([x].map (Value.int .i64)), rowE 3 1 v22 ((((xs.take (k).toNat) ++ ([x])) ++ (xs.drop (k).toNat)).length) ((((xs.take (k).toNat) ++ ([x])) ++ (xs.drop (k).toNat)).map (Value.int .i64))]) rfl rfl rfl rfl Try.underlying30 (by kernel_rfl) (by kernel_rfl) rfl rfl rfl (rd_slL (rd_old hv) (by omega)) (ints_one _) (by simp; omega) (len_app ((xs.take (k).toNat) ++ ([x])) (xs.drop (k).toNat)) (ints_app ((xs.take (k).toNat) ++ ([x])) (xs.drop (k).toNat)) (fun _ => rfl) ?_
    intro v22
    refine hl_v rfl rfl rfl (rv_ev rfl) ?_
    refine hl_less (sx 0 rfl (sx 1 rfl (sx 4 rfl (sx 5 rfl (sx 6 rfl (sx 18 rfl (sx 32 rfl (sub_nil _)))))))) (.refl _) ?_
    refine hl_nil ?_
    refine hq_then ?_
    refine hc_ret ?_
    have e := insI_at xs x k.toNat (by omega) hk2 (by omega)
    exact hq_retR (post := [rowE 3 1 v22 ((((xs.take (k).toNat) ++ ([x])) ++ (xs.drop (k).toNat)).length) ((((xs.take (k).toNat) ++ ([x])) ++ (xs.drop (k).toNat)).map (Value.int .i64))]) rfl rfl ((.cons _ (.cons_cons _ .slnil))) (Or.inr (by rw [e]))
  ·
   refine hl_v rfl rfl rfl (rv_ev rfl) ?_
   refine hl_skip rfl rfl rfl ?_
   refine hl_skip rfl rfl rfl ?_
   refine hl_skip rfl rfl rfl ?_
   refine hl_skip rfl rfl rfl ?_
   refine hl_skip rfl rfl rfl ?_
   refine hl_skip rfl rfl rfl ?_
   refine hl_v rfl rfl rfl (rv_ev rfl) ?_
   refine hl_less (sx 0 rfl (sx 1 rfl (sx 4 rfl (sx 5 rfl (sx 18 rfl (sx 32 rfl (sub_nil _))))))) (.refl _) ?_
   refine hl_nil ?_
   refine hq_then ?_
   refine hc_false rfl ?_
   refine hc_skip ?_
   refine hq_then ?_
   refine hc_seq ?_
   refine hc_region ?_
   refine hl_row rfl rfl rfl (rq_slice0 (s := 1) rfl Try.underlying30 (by kernel_rfl)) ?_
   intro g23
   refine hl_v rfl rfl rfl (rv_ev rfl) ?_
   refine hl_v rfl rfl rfl (rv_ev rfl) ?_
   refine hl_v rfl rfl rfl (rv_slH rfl Try.underlying30 (by kernel_rfl) rfl rfl (rd_old hv) (by omega) (by omega)) ?_
   refine hl_append (i := 0) (z := .int .i64 0) (bytes := 8) (n' := (xs.take (k).toNat).length) (xs' := ((xs.take (k).toNat).map (Value.int .i64))) (L := fun v24 => [rowE 3 1 v24 ((xs.take (k).toNat).length) ((xs.take (k).toNat).map (Value.int .i64))]) rfl rfl rfl rfl Try.underlying30 (by kernel_rfl) (by kernel_rfl) rfl rfl rfl (rd_slH (rd_old hv) (by omega)) (ints_one _) (by simp; omega) ((Nat.zero_add _)) ((List.nil_append _)) (fun _ => rfl) ?_
   intro v24
   refine hl_v rfl rfl rfl (rv_ev rfl) ?_
   refine hl_less (sx 0 rfl (sx 1 rfl (sx 4 rfl (sx 5 rfl (sx 6 rfl (sx 18 rfl (sx 32 rfl (sub_nil _)))))))) (.refl _) ?_
   refine hl_nil ?_
   refine hq_then ?_
   refine hc_seq ?_
   refine hc_region ?_
   refine hl_v rfl rfl rfl (rv_ev rfl) ?_
   refine hl_v rfl rfl rfl (rv_ev rfl) ?_
   refine hl_row rfl rfl rfl (rq_buildSlice (z := .int .i64 0) (s := 1) (cs := ([x].map (Value.int .i64))) rfl Try.underlying30 (by kernel_rfl) (by decide) rfl (by kernel_rfl) rfl) ?_
   intro g25
   refine hl_append (i := 1) (z := .int .i64 0) (bytes := 8) (n' := ((xs.take (k).toNat) ++ ([x])).length) (xs' := (((xs.take (k).toNat) ++ ([x])).map (Value.int .i64))) (L := fun v26 => [rowE 3 1 (.slice (some ⟨g25, 0, none⟩) 1 1) 1 ([x].map (Value.int .i64)), rowE 3 1 v26 (((xs.take (k).toNat) ++ ([x])).length) (((xs.take (k).toNat) ++ ([x])).map (Value.int .i64))]) rfl rfl rfl rfl Try.underlying30 (by kernel_rfl) (by kernel_rfl) rfl rfl rfl (rd_row 0 rfl) (ints_one _) (by simp; omega) (len_app (xs.take (k).toNat) ([x])) (ints_app (xs.take (k).toNat) ([x])) (fun _ => rfl) ?_
   intro v26
   refine hl_v rfl rfl rfl (rv_ev rfl) ?_
   refine hl_less (sx 0 rfl (sx 1 rfl (sx 4 rfl (sx 5 rfl (sx 6 rfl (sx 18 rfl (sx 32 rfl (sub_nil _)))))))) (.refl _) ?_
   refine hl_nil ?_
   refine hq_then ?_
   refine hc_seq ?_
   refine hc_region ?_
   refine hl_v rfl rfl rfl (rv_ev rfl) ?_
   refine hl_v rfl rfl rfl (rv_ev rfl) ?_
   refine hl_v rfl rfl rfl (rv_ev rfl) ?_
   refine hl_v rfl rfl rfl (rv_slL rfl Try.underlying30 (by kernel_rfl) rfl rfl (rd_old hv) (by omega) (by omega)) ?_
   refine hl_append (i := 1) (z := .int .i64 0) (bytes := 8) (n' := (((xs.take (k).toNat) ++ ([x])) ++ (xs.drop (k).toNat)).length) (xs' := ((((xs.take (k).toNat) ++ ([x])) ++ (xs.drop (k).toNat)).map (Value.int .i64))) (L := fun v27 => [rowE 3 1 (.slice (some ⟨g25, 0, none⟩) 1 1) 1 ([x].map (Value.int .i64)), rowE 3 1 v27 ((((xs.take (k).toNat) ++ ([x])) ++ (xs.drop (k).toNat)).length) ((((xs.take (k).toNat) ++ ([x])) ++ (xs.drop (k).toNat)).map (Value.int .i64))]) rfl rfl rfl rfl Try.underlying30 (by kernel_rfl) (by kernel_rfl) rfl rfl rfl (rd_slL (rd_old hv) (by omega)) (ints_one _) (by simp; omega) (len_app ((xs.take (k).toNat) ++ ([x])) (xs.drop (k).toNat)) (ints_app ((xs.take (k).toNat) ++ ([x])) (xs.drop (k).toNat)) (fun _ => rfl) ?_
   intro v27
   refine hl_v rfl rfl rfl (rv_ev rfl) ?_
   refine hl_less (sx 0 rfl (sx 1 rfl (sx 4 rfl (sx 5 rfl (sx 6 rfl (sx 18 rfl (sx 32 rfl (sub_nil _)))))))) (.refl _) ?_
   refine hl_nil ?_
   refine hq_then ?_
   refine hc_ret ?_
   have e := insI_at xs x k.toNat (by omega) hk2 (by omega)
   exact hq_retR (post := [rowE 3 1 v27 ((((xs.take (k).toNat) ++ ([x])) ++ (xs.drop (k).toNat)).length) ((((xs.take (k).toNat) ++ ([x])) ++ (xs.drop (k).toNat)).map (Value.int .i64))]) rfl rfl ((.cons _ (.cons_cons _ .slnil))) (Or.inr (by rw [e]))
def kindI (d : Dev) (t : Int) : Int := if (t % d.W = 0 ∨ t % d.W = d.W - 1) ∨ (t / d.W = 0 ∨ t / d.W = d.H - 1) then 0 else if t % d.W = d.R then 2 else 1
theorem k1_o {d : Dev} {t : Int} (h : t % d.W = 0) : 0 = kindI d t := by simp [kindI, h]
theorem k2_o {d : Dev} {t : Int} (h : t % d.W = d.W - 1) : 0 = kindI d t := by simp [kindI, h]
theorem k3_o {d : Dev} {t : Int} (h : t / d.W = 0) : 0 = kindI d t := by simp [kindI, h]
theorem k4 {d : Dev} {t : Int} (h : (((t % d.W == 0) = true ∨ (t % d.W == d.W - 1) = true) ∨ (t / d.W == 0) = true) ∨ (t / d.W == d.H - 1) = true) : 0 = kindI d t := by
  simp only [beq_iff_eq] at h
  rw [kindI, if_pos (by rcases h with ((h | h) | h) | h <;> simp [h])]
theorem k5 {d : Dev} {t : Int} (h : (((t % d.W == 0) = false ∧ (t % d.W == d.W - 1) = false) ∧ (t / d.W == 0) = false) ∧ (t / d.W == d.H - 1) = false) (h2 : (t % d.W == d.R) = true) : 2 = kindI d t := by
  simp only [beq_eq_false_iff_ne, beq_iff_eq] at h h2
  rw [kindI, if_neg (by simp [h]), if_pos h2]
theorem k6 {d : Dev} {t : Int} (h : (((t % d.W == 0) = false ∧ (t % d.W == d.W - 1) = false) ∧ (t / d.W == 0) = false) ∧ (t / d.W == d.H - 1) = false) (h2 : (t % d.W == d.R) = false) : 1 = kindI d t := by
  simp only [beq_eq_false_iff_ne] at h h2
  rw [kindI, if_neg (by simp [h]), if_neg h2]
set_option maxHeartbeats 1000000 in
theorem implTileKind0_any (d : Dev) (t : Int) (hd : devB d = true) (h0 : 0 ≤ t) (h1 : t ≤ 35) (w : World) :
    Calls Try.prog 78 #[.agg #[.int .i64 d.W, .int .i64 d.H, .int .i64 d.T, .int .i64 d.R], .int .i64 t] w fun e w' => e = .returned (.int .i64 (kindI d t)) ∧ Below w.heap.size w w' := by
  obtain ⟨⟨a1, a2⟩, ⟨b1, b2⟩, -, -⟩ := (devB_iff d).1 hd
  clear hd
  go_enter Try.func78, Try.ntmps78
  go_wp2
  go_quiet (fail)
  go_wp2
  all_goals go_ret
  all_goals refine ⟨rt_int ?_, bel_drewN (bel_alloc (Below.refl _ _) _) _⟩
  all_goals first | exact k1_o (by assumption) | exact k2_o (by assumption) | exact k3_o (by assumption) | exact k4 (by assumption) | exact k5 (by assumption) (by assumption) | exact k6 (by assumption) (by assumption)
def tOk (d : Dev) (t : Int) : Bool := devB d && inR t 0 (d.W * d.H - 1)
theorem tOk_iff (d : Dev) (t : Int) : tOk d t = true ↔ devB d = true ∧ 0 ≤ t ∧ t ≤ d.W * d.H - 1 := by unfold tOk; rw [Bool.and_eq_true, inR_iff]
theorem area_le {d : Dev} (h : devB d = true) : 9 ≤ d.W * d.H ∧ d.W * d.H ≤ 36 := by
  obtain ⟨⟨a1, a2⟩, ⟨b1, b2⟩, -, -⟩ := (devB_iff d).1 h
  have h1 : 3 * 3 ≤ d.W * d.H := Int.mul_le_mul a1 b1 (by omega) (by omega)
  have h2 : d.W * d.H ≤ 6 * 6 := Int.mul_le_mul a2 b2 (by omega) (by omega)
  omega
set_option maxHeartbeats 1000000 in
theorem implTileOk_any (d : Dev) (t : Int) (w : World) :
    Calls Try.prog 74 #[.agg #[.int .i64 d.W, .int .i64 d.H, .int .i64 d.T, .int .i64 d.R], .int .i64 t] w fun e w' => e = .returned (.bool (tOk d t)) ∧ Below w.heap.size w w' := by
  rcases Bool.eq_false_or_eq_true (devB d) with hd | hd
  · have hf := Lib.hid (show tOk d t = inR t 0 (d.W * d.H - 1) by simp [tOk, hd])
    obtain ⟨m1, m2⟩ := area_le hd
    go_enter Try.func74, Try.ntmps74
    go_wp2_with fail
    refine (implDeviceOk_any d _).mono ?_
    rintro e w1 ⟨rfl, hb1⟩
    obtain ⟨hc1, hf1, hz1⟩ := bcell hb1
    have hy1 := bel_lt hb1
    go_wp2_with fail
    refine (inRange_any _ _ _ _).mono ?_
    rintro e w' ⟨rfl, rfl⟩
    go_wp2
    go_ret
    exact ⟨rt_bool hf.out.symm, bel_trans (bel_alloc (Below.refl _ _) _) hb1⟩
  · have hf := Lib.hid (show tOk d t = false by simp [tOk, hd])
    go_enter Try.func74, Try.ntmps74
    go_wp2_with fail
    refine (implDeviceOk_any d _).mono ?_
    rintro e w1 ⟨rfl, hb1⟩
    obtain ⟨hc1, hf1, hz1⟩ := bcell hb1
    have hy1 := bel_lt hb1
    go_wp2
    go_ret
    exact ⟨rt_bool hf.out.symm, bel_trans (bel_alloc (Below.refl _ _) _) hb1⟩
def tileKindI (d : Dev) (t : Int) : Int := if tOk d t = true then kindI d t else -1
theorem kind_cases (d : Dev) (t : Int) : kindI d t = 0 ∨ kindI d t = 1 ∨ kindI d t = 2 := by
  unfold kindI; split
  · simp
  · split <;> simp
def dX (dir s : Int) : Int := if dir = 0 then s else if dir = 2 then -s else 0
def dY (dir s : Int) : Int := if dir = 1 then s else if dir = 0 ∨ dir = 2 then 0 else -s
def stepI (d : Dev) (t dir s : Int) : Int :=
  if inR (t % d.W + dX dir s) 0 (d.W - 1) = true ∧ inR (t / d.W + dY dir s) 0 (d.H - 1) = true then (t / d.W + dY dir s) * d.W + (t % d.W + dX dir s) else -1
theorem step_out1 {d : Dev} {t dir s : Int} (h : inR (t % d.W + dX dir s) 0 (d.W - 1) = false) : -1 = stepI d t dir s := by simp [stepI, h]
theorem step_out2 {d : Dev} {t dir s : Int} (h : inR (t / d.W + dY dir s) 0 (d.H - 1) = false) : -1 = stepI d t dir s := by simp [stepI, h]
theorem step_in {d : Dev} {t dir s : Int} (h : inR (t % d.W + dX dir s) 0 (d.W - 1) = true) (h2 : inR (t / d.W + dY dir s) 0 (d.H - 1) = true) :
    (t / d.W + dY dir s) * d.W + (t % d.W + dX dir s) = stepI d t dir s := by simp [stepI, h, h2]
theorem tile_xy {d : Dev} {t : Int} (hv : devB d = true) (t0 : 0 ≤ t) (t1 : t ≤ d.W * d.H - 1) : 0 ≤ t % d.W ∧ t % d.W ≤ d.W - 1 ∧ 0 ≤ t / d.W ∧ t / d.W ≤ d.H - 1 ∧ t / d.W * d.W + t % d.W = t := by
  obtain ⟨⟨a1, a2⟩, ⟨b1, b2⟩, -, -⟩ := (devB_iff d).1 hv
  have h1 := Int.emod_nonneg t (show d.W ≠ 0 by omega)
  have h2 := Int.emod_lt_of_pos t (show 0 < d.W by omega)
  have h3 : 0 ≤ t / d.W := Int.ediv_nonneg t0 (by omega)
  have h4 : t / d.W < d.H := Int.ediv_lt_of_lt_mul (by omega) (by rw [Int.mul_comm]; omega)
  have h5 := Int.ediv_mul_add_emod t d.W
  exact ⟨h1, by omega, h3, by omega, h5⟩
set_option maxHeartbeats 1000000 in
theorem tileStep_d0 (d : Dev) (t s : Int) (hv : devB d = true) (t0 : 0 ≤ t) (t1 : t ≤ d.W * d.H - 1) (s0 : 0 ≤ s) (s1 : s ≤ 6) (w : World) :
    Calls Try.prog 76 #[.agg #[.int .i64 d.W, .int .i64 d.H, .int .i64 d.T, .int .i64 d.R], .int .i64 t, .int .i64 0, .int .i64 s] w fun e w' => e = .returned (.int .i64 (stepI d t 0 s)) ∧ Below w.heap.size w w' := by
  have ex : dX 0 s = s := by simp [dX]
  have ey : dY 0 s = 0 := by simp [dY]
  have gx : t % d.W + dX 0 s = t % d.W + s := by first | (rw [ex]; done) | (rw [ex]; omega)
  have gy : t / d.W + dY 0 s = t / d.W := by first | (rw [ey]; done) | (rw [ey]; omega)
  have o1 := @step_out1 d t 0 s
  have o2 := @step_out2 d t 0 s
  have o3 := @step_in d t 0 s
  rw [gx] at o1 o3
  rw [gy] at o2 o3
  clear ex ey gx gy
  obtain ⟨x0, x1, y0, y1, -⟩ := tile_xy hv t0 t1
  obtain ⟨m1, m2⟩ := area_le hv
  obtain ⟨⟨a1, a2⟩, ⟨b1, b2⟩, -, -⟩ := (devB_iff d).1 hv
  clear hv
  have z : t ≤ 35 := by omega
  rcases Bool.eq_false_or_eq_true (inR (t % d.W + s) 0 (d.W - 1)) with h1 | h1
  rotate_left
  · have hf := Lib.hid (o1 h1)
    clear o1 o2 o3
    go_enter Try.func76, Try.ntmps76
    go_wp2
    go_quiet (fail)
    go_wp2_with (go_at_call 75; refine (inRange_any _ _ _ _).mono ?_; rintro e w' ⟨rfl, rfl⟩)
    go_ret
    exact ⟨rt_int (by exact hf.out), bel_drewN (bel_alloc (Below.refl _ _) _) _⟩
  rcases Bool.eq_false_or_eq_true (inR (t / d.W) 0 (d.H - 1)) with h2 | h2
  rotate_left
  · have hf := Lib.hid (o2 h2)
    clear o1 o2 o3
    go_enter Try.func76, Try.ntmps76
    go_wp2
    go_quiet (fail)
    go_wp2_with (go_at_call 75; refine (inRange_any _ _ _ _).mono ?_; rintro e w' ⟨rfl, rfl⟩)
    go_ret
    exact ⟨rt_int (by exact hf.out), bel_drewN (bel_alloc (Below.refl _ _) _) _⟩
  · have hf := Lib.hid (o3 h1 h2)
    obtain ⟨i1, i2⟩ := (inR_iff _ _ _).1 h1
    obtain ⟨i3, i4⟩ := (inR_iff _ _ _).1 h2
    have i5 : 0 ≤ (t / d.W) * d.W ∧ (t / d.W) * d.W ≤ 36 := ⟨Int.mul_nonneg i3 (by omega), Int.le_trans (Int.mul_le_mul (show t / d.W ≤ 6 by omega) a2 (by omega) (by omega)) (by omega)⟩
    clear o1 o2 o3
    go_enter Try.func76, Try.ntmps76
    go_wp2
    go_quiet (fail)
    go_wp2_with (go_at_call 75; refine (inRange_any _ _ _ _).mono ?_; rintro e w' ⟨rfl, rfl⟩)
    go_ret
    exact ⟨rt_int (by exact hf.out), bel_drewN (bel_alloc (Below.refl _ _) _) _⟩
set_option maxHeartbeats 1000000 in
theorem tileStep_d1 (d : Dev) (t s : Int) (hv : devB d = true) (t0 : 0 ≤ t) (t1 : t ≤ d.W * d.H - 1) (s0 : 0 ≤ s) (s1 : s ≤ 6) (w : World) :
    Calls Try.prog 76 #[.agg #[.int .i64 d.W, .int .i64 d.H, .int .i64 d.T, .int .i64 d.R], .int .i64 t, .int .i64 1, .int .i64 s] w fun e w' => e = .returned (.int .i64 (stepI d t 1 s)) ∧ Below w.heap.size w w' := by
  have ex : dX 1 s = 0 := by simp [dX]
  have ey : dY 1 s = s := by simp [dY]
  have gx : t % d.W + dX 1 s = t % d.W := by first | (rw [ex]; done) | (rw [ex]; omega)
  have gy : t / d.W + dY 1 s = t / d.W + s := by first | (rw [ey]; done) | (rw [ey]; omega)
  have o1 := @step_out1 d t 1 s
  have o2 := @step_out2 d t 1 s
  have o3 := @step_in d t 1 s
  rw [gx] at o1 o3
  rw [gy] at o2 o3
  clear ex ey gx gy
  obtain ⟨x0, x1, y0, y1, -⟩ := tile_xy hv t0 t1
  obtain ⟨m1, m2⟩ := area_le hv
  obtain ⟨⟨a1, a2⟩, ⟨b1, b2⟩, -, -⟩ := (devB_iff d).1 hv
  clear hv
  have z : t ≤ 35 := by omega
  rcases Bool.eq_false_or_eq_true (inR (t % d.W) 0 (d.W - 1)) with h1 | h1
  rotate_left
  · have hf := Lib.hid (o1 h1)
    clear o1 o2 o3
    go_enter Try.func76, Try.ntmps76
    go_wp2
    go_quiet (fail)
    go_wp2_with (go_at_call 75; refine (inRange_any _ _ _ _).mono ?_; rintro e w' ⟨rfl, rfl⟩)
    go_ret
    exact ⟨rt_int (by exact hf.out), bel_drewN (bel_alloc (Below.refl _ _) _) _⟩
  rcases Bool.eq_false_or_eq_true (inR (t / d.W + s) 0 (d.H - 1)) with h2 | h2
  rotate_left
  · have hf := Lib.hid (o2 h2)
    clear o1 o2 o3
    go_enter Try.func76, Try.ntmps76
    go_wp2
    go_quiet (fail)
    go_wp2_with (go_at_call 75; refine (inRange_any _ _ _ _).mono ?_; rintro e w' ⟨rfl, rfl⟩)
    go_ret
    exact ⟨rt_int (by exact hf.out), bel_drewN (bel_alloc (Below.refl _ _) _) _⟩
  · have hf := Lib.hid (o3 h1 h2)
    obtain ⟨i1, i2⟩ := (inR_iff _ _ _).1 h1
    obtain ⟨i3, i4⟩ := (inR_iff _ _ _).1 h2
    have i5 : 0 ≤ (t / d.W + s) * d.W ∧ (t / d.W + s) * d.W ≤ 36 := ⟨Int.mul_nonneg i3 (by omega), Int.le_trans (Int.mul_le_mul (show t / d.W + s ≤ 6 by omega) a2 (by omega) (by omega)) (by omega)⟩
    clear o1 o2 o3
    go_enter Try.func76, Try.ntmps76
    go_wp2
    go_quiet (fail)
    go_wp2_with (go_at_call 75; refine (inRange_any _ _ _ _).mono ?_; rintro e w' ⟨rfl, rfl⟩)
    go_ret
    exact ⟨rt_int (by exact hf.out), bel_drewN (bel_alloc (Below.refl _ _) _) _⟩
set_option maxHeartbeats 1000000 in
theorem tileStep_d2 (d : Dev) (t s : Int) (hv : devB d = true) (t0 : 0 ≤ t) (t1 : t ≤ d.W * d.H - 1) (s0 : 0 ≤ s) (s1 : s ≤ 6) (w : World) :
    Calls Try.prog 76 #[.agg #[.int .i64 d.W, .int .i64 d.H, .int .i64 d.T, .int .i64 d.R], .int .i64 t, .int .i64 2, .int .i64 s] w fun e w' => e = .returned (.int .i64 (stepI d t 2 s)) ∧ Below w.heap.size w w' := by
  have ex : dX 2 s = -s := by simp [dX]
  have ey : dY 2 s = 0 := by simp [dY]
  have gx : t % d.W + dX 2 s = t % d.W - s := by first | (rw [ex]; done) | (rw [ex]; omega)
  have gy : t / d.W + dY 2 s = t / d.W := by first | (rw [ey]; done) | (rw [ey]; omega)
  have o1 := @step_out1 d t 2 s
  have o2 := @step_out2 d t 2 s
  have o3 := @step_in d t 2 s
  rw [gx] at o1 o3
  rw [gy] at o2 o3
  clear ex ey gx gy
  obtain ⟨x0, x1, y0, y1, -⟩ := tile_xy hv t0 t1
  obtain ⟨m1, m2⟩ := area_le hv
  obtain ⟨⟨a1, a2⟩, ⟨b1, b2⟩, -, -⟩ := (devB_iff d).1 hv
  clear hv
  have z : t ≤ 35 := by omega
  rcases Bool.eq_false_or_eq_true (inR (t % d.W - s) 0 (d.W - 1)) with h1 | h1
  rotate_left
  · have hf := Lib.hid (o1 h1)
    clear o1 o2 o3
    go_enter Try.func76, Try.ntmps76
    go_wp2
    go_quiet (fail)
    go_wp2_with (go_at_call 75; refine (inRange_any _ _ _ _).mono ?_; rintro e w' ⟨rfl, rfl⟩)
    go_ret
    exact ⟨rt_int (by exact hf.out), bel_drewN (bel_alloc (Below.refl _ _) _) _⟩
  rcases Bool.eq_false_or_eq_true (inR (t / d.W) 0 (d.H - 1)) with h2 | h2
  rotate_left
  · have hf := Lib.hid (o2 h2)
    clear o1 o2 o3
    go_enter Try.func76, Try.ntmps76
    go_wp2
    go_quiet (fail)
    go_wp2_with (go_at_call 75; refine (inRange_any _ _ _ _).mono ?_; rintro e w' ⟨rfl, rfl⟩)
    go_ret
    exact ⟨rt_int (by exact hf.out), bel_drewN (bel_alloc (Below.refl _ _) _) _⟩
  · have hf := Lib.hid (o3 h1 h2)
    obtain ⟨i1, i2⟩ := (inR_iff _ _ _).1 h1
    obtain ⟨i3, i4⟩ := (inR_iff _ _ _).1 h2
    have i5 : 0 ≤ (t / d.W) * d.W ∧ (t / d.W) * d.W ≤ 36 := ⟨Int.mul_nonneg i3 (by omega), Int.le_trans (Int.mul_le_mul (show t / d.W ≤ 6 by omega) a2 (by omega) (by omega)) (by omega)⟩
    clear o1 o2 o3
    go_enter Try.func76, Try.ntmps76
    go_wp2
    go_quiet (fail)
    go_wp2_with (go_at_call 75; refine (inRange_any _ _ _ _).mono ?_; rintro e w' ⟨rfl, rfl⟩)
    go_ret
    exact ⟨rt_int (by exact hf.out), bel_drewN (bel_alloc (Below.refl _ _) _) _⟩
set_option maxHeartbeats 1000000 in
theorem tileStep_d3 (d : Dev) (t dir s : Int) (n0 : (dir == 0) = false) (n1 : (dir == 1) = false) (n2 : (dir == 2) = false) (hv : devB d = true) (t0 : 0 ≤ t) (t1 : t ≤ d.W * d.H - 1) (s0 : 0 ≤ s) (s1 : s ≤ 6) (w : World) :
    Calls Try.prog 76 #[.agg #[.int .i64 d.W, .int .i64 d.H, .int .i64 d.T, .int .i64 d.R], .int .i64 t, .int .i64 dir, .int .i64 s] w fun e w' => e = .returned (.int .i64 (stepI d t dir s)) ∧ Below w.heap.size w w' := by
  have m0 : ¬ dir = 0 := by simpa using n0
  have m1' : ¬ dir = 1 := by simpa using n1
  have m2' : ¬ dir = 2 := by simpa using n2
  have ex : dX dir s = 0 := by simp [dX, m0, m2']
  have ey : dY dir s = -s := by simp [dY, m0, m1', m2']
  clear m0 m1' m2'
  have gx : t % d.W + dX dir s = t % d.W := by first | (rw [ex]; done) | (rw [ex]; omega)
  have gy : t / d.W + dY dir s = t / d.W - s := by first | (rw [ey]; done) | (rw [ey]; omega)
  have o1 := @step_out1 d t dir s
  have o2 := @step_out2 d t dir s
  have o3 := @step_in d t dir s
  rw [gx] at o1 o3
  rw [gy] at o2 o3
  clear ex ey gx gy
  obtain ⟨x0, x1, y0, y1, -⟩ := tile_xy hv t0 t1
  obtain ⟨m1, m2⟩ := area_le hv
  obtain ⟨⟨a1, a2⟩, ⟨b1, b2⟩, -, -⟩ := (devB_iff d).1 hv
  clear hv
  have z : t ≤ 35 := by omega
  rcases Bool.eq_false_or_eq_true (inR (t % d.W) 0 (d.W - 1)) with h1 | h1
  rotate_left
  · have hf := Lib.hid (o1 h1)
    clear o1 o2 o3
    go_enter Try.func76, Try.ntmps76
    go_wp2
    go_quiet (fail)
    go_wp2_with (go_at_call 75; refine (inRange_any _ _ _ _).mono ?_; rintro e w' ⟨rfl, rfl⟩)
    go_ret
    exact ⟨rt_int (by exact hf.out), bel_drewN (bel_alloc (Below.refl _ _) _) _⟩
  rcases Bool.eq_false_or_eq_true (inR (t / d.W - s) 0 (d.H - 1)) with h2 | h2
  rotate_left
  · have hf := Lib.hid (o2 h2)
    clear o1 o2 o3
    go_enter Try.func76, Try.ntmps76
    go_wp2
    go_quiet (fail)
    go_wp2_with (go_at_call 75; refine (inRange_any _ _ _ _).mono ?_; rintro e w' ⟨rfl, rfl⟩)
    go_ret
    exact ⟨rt_int (by exact hf.out), bel_drewN (bel_alloc (Below.refl _ _) _) _⟩
  · have hf := Lib.hid (o3 h1 h2)
    obtain ⟨i1, i2⟩ := (inR_iff _ _ _).1 h1
    obtain ⟨i3, i4⟩ := (inR_iff _ _ _).1 h2
    have i5 : 0 ≤ (t / d.W - s) * d.W ∧ (t / d.W - s) * d.W ≤ 36 := ⟨Int.mul_nonneg i3 (by omega), Int.le_trans (Int.mul_le_mul (show t / d.W - s ≤ 6 by omega) a2 (by omega) (by omega)) (by omega)⟩
    clear o1 o2 o3
    go_enter Try.func76, Try.ntmps76
    go_wp2
    go_quiet (fail)
    go_wp2_with (go_at_call 75; refine (inRange_any _ _ _ _).mono ?_; rintro e w' ⟨rfl, rfl⟩)
    go_ret
    exact ⟨rt_int (by exact hf.out), bel_drewN (bel_alloc (Below.refl _ _) _) _⟩
theorem tileStep_any (d : Dev) (t dir s : Int) (hv : devB d = true) (t0 : 0 ≤ t) (t1 : t ≤ d.W * d.H - 1) (r0 : 0 ≤ dir) (r1 : dir ≤ 3) (s0 : 0 ≤ s) (s1 : s ≤ 6) (w : World) :
    Calls Try.prog 76 #[.agg #[.int .i64 d.W, .int .i64 d.H, .int .i64 d.T, .int .i64 d.R], .int .i64 t, .int .i64 dir, .int .i64 s] w fun e w' => e = .returned (.int .i64 (stepI d t dir s)) ∧ Below w.heap.size w w' := by
  by_cases h0 : dir = 0
  · subst h0; exact tileStep_d0 d t s hv t0 t1 s0 s1 w
  · by_cases h1 : dir = 1
    · subst h1; exact tileStep_d1 d t s hv t0 t1 s0 s1 w
    · by_cases h2 : dir = 2
      · subst h2; exact tileStep_d2 d t s hv t0 t1 s0 s1 w
      · exact tileStep_d3 d t dir s (by simpa using h0) (by simpa using h1) (by simpa using h2) hv t0 t1 s0 s1 w
def tileStepI (d : Dev) (t dir s : Int) : Int := if tOk d t = true ∧ inR dir 0 3 = true ∧ inR s 0 6 = true then stepI d t dir s else -1
def absI (n : Int) : Int := if n < 0 then -n else n
def distI (d : Dev) (a b : Int) : Int := absI (a % d.W - b % d.W) + absI (a / d.W - b / d.W)
def perI (d : Dev) : Int := 7 + 4 * d.T
def allI (d : Dev) : Int := d.W * d.H * perI d
def inPinsI (k : Int) : Int := if k = 0 then 1 else if k = 1 then 5 else if k = 2 then 4 else 0
def outPinsI (k : Int) : Int := if k = 0 then 1 else if k = 1 then 2 else if k = 2 then 1 else 0
/-- a device in block B, and whatever lay before it, as it was in w0 -/
abbrev DevS (w0 : World) (B : Nat) (d : Dev) (w' : World) : Prop := w'.cell? ⟨B, 0, none⟩ = some (.int .i64 d.W) ∧ w'.cell? ⟨B, 1, none⟩ = some (.int .i64 d.H) ∧ w'.cell? ⟨B, 2, none⟩ = some (.int .i64 d.T) ∧ w'.cell? ⟨B, 3, none⟩ = some (.int .i64 d.R) ∧ Below (B + 1) w0 w'
theorem devS_drew {w0 : World} {B : Nat} {d : Dev} {X : World} (h : DevS w0 B d X) : DevS w0 B d X.drew := ⟨h.1, h.2.1, h.2.2.1, h.2.2.2.1, h.2.2.2.2.drew⟩
theorem devS_step {w0 : World} {B : Nat} {d : Dev} {X Y : World} (h : DevS w0 B d X) (hb : Below X.heap.size X Y) : DevS w0 B d Y := by
  have hlt : B < X.heap.size := World.block_lt_of_cell? _ _ h.1
  exact ⟨(hb.cell (p := ⟨B, 0, none⟩) hlt).trans h.1, (hb.cell (p := ⟨B, 1, none⟩) hlt).trans h.2.1, (hb.cell (p := ⟨B, 2, none⟩) hlt).trans h.2.2.1, (hb.cell (p := ⟨B, 3, none⟩) hlt).trans h.2.2.2.1, h.2.2.2.2.trans (hb.mono hlt)⟩
theorem devS_start (w : World) (d : Dev) : DevS (w.alloc (.cells #[.int .i64 d.W, .int .i64 d.H, .int .i64 d.T, .int .i64 d.R] 25)) w.heap.size d (w.alloc (.cells #[.int .i64 d.W, .int .i64 d.H, .int .i64 d.T, .int .i64 d.R] 25)) :=
  ⟨World.cell?_alloc_at _ _ _ _ rfl, World.cell?_alloc_at _ _ _ _ rfl, World.cell?_alloc_at _ _ _ _ rfl, World.cell?_alloc_at _ _ _ _ rfl, Below.refl _ _⟩
theorem devS_alloc {w0 : World} {B : Nat} {d : Dev} {X : World} (h : DevS w0 B d X) (o : Obj) : DevS w0 B d (X.alloc o) := devS_step h (bel_alloc (Below.refl _ _) o)
theorem devS_end {w : World} {d : Dev} {o : Obj} {Y : World} (h : DevS (w.alloc o) w.heap.size d Y) : Below w.heap.size w Y := (bel_alloc (Below.refl _ _) _).trans (h.2.2.2.2.mono (by omega))
theorem per_rng {d : Dev} (hv : devB d = true) : 11 ≤ perI d ∧ perI d ≤ 23 := by
  obtain ⟨-, -, ⟨t1, t2⟩, -⟩ := (devB_iff d).1 hv
  unfold perI; omega
theorem all_rng {d : Dev} (hv : devB d = true) : 99 ≤ allI d ∧ allI d ≤ 828 := by
  obtain ⟨h1, h2⟩ := per_rng hv
  obtain ⟨m1, m2⟩ := area_le hv
  have e1 : 9 * 11 ≤ d.W * d.H * perI d := Int.mul_le_mul m1 h1 (by omega) (by omega)
  have e2 : d.W * d.H * perI d ≤ 36 * 23 := Int.mul_le_mul m2 h2 (by omega) (by omega)
  unfold allI; omega
theorem place_rng {d : Dev} {n : Int} (hv : devB d = true) (n0 : 0 ≤ n) (n1 : n ≤ allI d - 1) : 0 ≤ n / perI d ∧ n / perI d ≤ d.W * d.H - 1 ∧ 0 ≤ n % perI d ∧ n % perI d ≤ perI d - 1 ∧ tOk d (n / perI d) = true := by
  obtain ⟨h1, h2⟩ := per_rng hv
  have e1 : 0 ≤ n / perI d := Int.ediv_nonneg n0 (by omega)
  have e2 : n / perI d < d.W * d.H := Int.ediv_lt_of_lt_mul (by omega) (by unfold allI at n1; omega)
  have e3 := Int.emod_nonneg n (show perI d ≠ 0 by omega)
  have e4 := Int.emod_lt_of_pos n (show 0 < perI d by omega)
  exact ⟨e1, by omega, e3, by omega, (tOk_iff _ _).2 ⟨hv, e1, by omega⟩⟩
set_option maxHeartbeats 1000000 in
theorem implPer_any (d : Dev)  (hv : devB d = true) (w : World) :
    Calls Try.prog 86 #[.agg #[.int .i64 d.W, .int .i64 d.H, .int .i64 d.T, .int .i64 d.R]] w fun e w' => e = .returned (.int .i64 (perI d)) ∧ Below w.heap.size w w' := by
  obtain ⟨⟨a1, a2⟩, ⟨b1, b2⟩, ⟨t1, t2⟩, -⟩ := (devB_iff d).1 hv
  go_enter Try.func86, Try.ntmps86
  go_wp2
  go_ret
  exact ⟨rfl, bel_alloc (Below.refl _ _) _⟩
set_option maxHeartbeats 1000000 in
theorem implAll_any (d : Dev)  (hv : devB d = true) (w : World) :
    Calls Try.prog 89 #[.agg #[.int .i64 d.W, .int .i64 d.H, .int .i64 d.T, .int .i64 d.R]] w fun e w' => e = .returned (.int .i64 (allI d)) ∧ Below w.heap.size w w' := by
  obtain ⟨⟨a1, a2⟩, ⟨b1, b2⟩, ⟨t1, t2⟩, -⟩ := (devB_iff d).1 hv
  obtain ⟨h1, h2⟩ := per_rng hv
  obtain ⟨m1, m2⟩ := area_le hv
  obtain ⟨h3, h4⟩ := all_rng hv
  unfold allI at h3 h4
  have e1 : IntKind.i64.wrap (d.W * d.H) = d.W * d.H := IntWalk.i64_in _ (by omega)
  have e2 : IntKind.i64.wrap (d.W * d.H * perI d) = d.W * d.H * perI d := IntWalk.i64_in _ (by omega)
  have hS0 := devS_start w d
  have HS0 := Lib.hid hS0
  go_enter Try.func89, Try.ntmps89
  go_wp2
  go_region_held3 (fun w' => DevS (w.alloc (.cells #[.int .i64 d.W, .int .i64 d.H, .int .i64 d.T, .int .i64 d.R] 25)) w.heap.size d w') (first | assumption | exact devS_drew (by assumption) | exact devS_alloc (by assumption) _ | exact devS_step (by assumption) (by assumption)) (first | (go_at_call 86; refine (implPer_any d hv _).mono ?_; rintro e w1 ⟨rfl, hb1⟩))
  go_wp2
  go_ret
  exact ⟨rfl, devS_end (by assumption)⟩
set_option maxHeartbeats 400000 in
theorem inPins_any (k : Int) (h : k = 0 ∨ k = 1 ∨ k = 2) (w : World) : Calls Try.prog 100 #[.int .i64 k] w fun e w' => e = .returned (.int .i64 (inPinsI k)) ∧ w = w' := by
  rcases h with rfl | rfl | rfl
  all_goals
    go_enter Try.func100, Try.ntmps100
    go_wp2
    go_ret
    exact ⟨rfl, rfl⟩
set_option maxHeartbeats 400000 in
theorem outPins_any (k : Int) (h : k = 0 ∨ k = 1 ∨ k = 2) (w : World) : Calls Try.prog 101 #[.int .i64 k] w fun e w' => e = .returned (.int .i64 (outPinsI k)) ∧ w = w' := by
  rcases h with rfl | rfl | rfl
  all_goals
    go_enter Try.func101, Try.ntmps101
    go_wp2
    go_ret
    exact ⟨rfl, rfl⟩
set_option maxHeartbeats 400000 in
theorem wireLen_any (k : Int) (h0 : 0 ≤ k) (h1 : k ≤ 3) (w : World) : Calls Try.prog 85 #[.int .i64 k] w fun e w' => e = .returned (.int .i64 (1 + k % 2)) ∧ w = w' := by
  go_enter Try.func85, Try.ntmps85
  go_wp2
  go_ret
  exact ⟨rfl, rfl⟩
set_option maxHeartbeats 1000000 in
theorem nodePlace_any (d : Dev) (n : Int) (hv : devB d = true) (n0 : 0 ≤ n) (n1 : n ≤ 100000) (w : World) :
    Calls Try.prog 97 #[.agg #[.int .i64 d.W, .int .i64 d.H, .int .i64 d.T, .int .i64 d.R], .int .i64 n] w fun e w' => e = .returned (.tuple #[.int .i64 (n / perI d), .int .i64 (n % perI d)]) ∧ Below w.heap.size w w' := by
  obtain ⟨⟨a1, a2⟩, ⟨b1, b2⟩, ⟨t1, t2⟩, -⟩ := (devB_iff d).1 hv
  obtain ⟨h1, h2⟩ := per_rng hv
  have q1 : ¬ perI d = 0 := by omega
  have q2 : IntKind.i64.wrap (n.tdiv (perI d)) = n / perI d := IntWalk.i64_quo _ _ (by omega)
  have q3 : n.tmod (perI d) = n % perI d := Int.tmod_eq_emod_of_nonneg n0
  have hS0 := devS_start w d
  have HS0 := Lib.hid hS0
  go_enter Try.func97, Try.ntmps97
  go_wp2
  go_region_held3 (fun w' => DevS (w.alloc (.cells #[.int .i64 d.W, .int .i64 d.H, .int .i64 d.T, .int .i64 d.R] 25)) w.heap.size d w') (first | assumption | exact devS_drew (by assumption) | exact devS_alloc (by assumption) _ | exact devS_step (by assumption) (by assumption)) (first | (go_at_call 86; refine (implPer_any d hv _).mono ?_; rintro e w1 ⟨rfl, hb1⟩))
  all_goals
    go_wp2
    go_ret2
    exact ⟨rfl, devS_end (by assumption)⟩
def nodeB (d : Dev) (t k : Int) : Bool :=
  if k < 5 then decide (k < inPinsI (kindI d t)) else if k < 7 then decide (k - 5 < outPinsI (kindI d t)) else decide (0 ≤ stepI d t ((k - 7) / d.T) (1 + (k - 7) % d.T % 2))
def nodeOkI (d : Dev) (n : Int) : Bool := devB d && inR n 0 (allI d - 1) && nodeB d (n / perI d) (n % perI d)
theorem nodeOk_dev {d : Dev} {n : Int} (h : devB d = false) : nodeOkI d n = false := by simp [nodeOkI, h]
theorem nodeOk_out {d : Dev} {n : Int} (h : inR n 0 (allI d - 1) = false) : nodeOkI d n = false := by simp [nodeOkI, h]
theorem nodeOk_in {d : Dev} {n : Int} (h : devB d = true) (h2 : inR n 0 (allI d - 1) = true) : nodeOkI d n = nodeB d (n / perI d) (n % perI d) := by simp [nodeOkI, h, h2]
theorem nodeB_in {d : Dev} {t k : Int} (h : k < 5) : nodeB d t k = decide (k < inPinsI (kindI d t)) := if_pos h
theorem nodeB_out {d : Dev} {t k : Int} (h : 5 ≤ k) (h2 : k < 7) : nodeB d t k = decide (k - 5 < outPinsI (kindI d t)) := by rw [nodeB, if_neg (by omega), if_pos h2]
theorem nodeB_wire {d : Dev} {t k : Int} (h : 7 ≤ k) : nodeB d t k = decide (0 ≤ stepI d t ((k - 7) / d.T) (1 + (k - 7) % d.T % 2)) := by rw [nodeB, if_neg (by omega), if_neg (by omega)]
theorem wire_rng {d : Dev} {k : Int} (hv : devB d = true) (k0 : 7 ≤ k) (k1_o : k ≤ perI d - 1) : 0 ≤ (k - 7) / d.T ∧ (k - 7) / d.T ≤ 3 ∧ 0 ≤ (k - 7) % d.T ∧ (k - 7) % d.T ≤ d.T - 1 := by
  obtain ⟨-, -, ⟨t1, t2⟩, -⟩ := (devB_iff d).1 hv
  have e1 : 0 ≤ (k - 7) / d.T := Int.ediv_nonneg (by omega) (by omega)
  have e2 : (k - 7) / d.T < 4 := Int.ediv_lt_of_lt_mul (by omega) (by unfold perI at k1_o; omega)
  have e3 := Int.emod_nonneg (k - 7) (show d.T ≠ 0 by omega)
  have e4 := Int.emod_lt_of_pos (k - 7) (show 0 < d.T by omega)
  omega
set_option maxHeartbeats 1000000 in
theorem wireOf_wire (d : Dev) (n : Int) (hv : devB d = true) (n0 : 0 ≤ n) (n1 : n ≤ allI d - 1) (k7 : 7 ≤ n % perI d) (w : World) :
    Calls Try.prog 90 #[.agg #[.int .i64 d.W, .int .i64 d.H, .int .i64 d.T, .int .i64 d.R], .int .i64 n] w fun e w' => e = .returned (.tuple #[.int .i64 (n / perI d), .int .i64 ((n % perI d - 7) / d.T), .int .i64 ((n % perI d - 7) % d.T), .bool true]) ∧ Below w.heap.size w w' := by
  obtain ⟨h1, h2⟩ := per_rng hv
  obtain ⟨m1, m2⟩ := all_rng hv
  obtain ⟨p0, p1, p2, p3, p4⟩ := place_rng hv n0 n1
  obtain ⟨-, -, ⟨t1, t2⟩, -⟩ := (devB_iff d).1 hv
  obtain ⟨g0, g1, g2, g3⟩ := wire_rng hv k7 p3
  have hS0 := devS_start w d
  have HS0 := Lib.hid hS0
  go_enter Try.func90, Try.ntmps90
  go_wp2_with fail
  refine (nodePlace_any d n hv n0 (by omega) _).mono ?_
  rintro e w1 ⟨rfl, hb1⟩
  have hS1 := devS_step HS0.out hb1
  have HS1 := Lib.hid hS1
  clear hS0
  obtain ⟨c0, c1, c2, c3, -⟩ := hS1
  clear hb1
  go_wp2
  go_quiet (fail)
  go_wp2
  refine bodyPost_ret (v := .tuple #[.int .i64 (n / perI d), .int .i64 ((n % perI d - 7) / d.T), .int .i64 ((n % perI d - 7) % d.T), .bool true]) (by simp [results, Try.results90, go_sem]) rfl ⟨rfl, ?_⟩
  exact bel_drewN (devS_end HS1.out) _
set_option maxHeartbeats 4000000 in
theorem implRouteNodeOk_any (d : Dev) (n : Int) (w : World) :
    Calls Try.prog 44 #[.agg #[.int .i64 d.W, .int .i64 d.H, .int .i64 d.T, .int .i64 d.R], .int .i64 n] w fun e w' => e = .returned (.bool (nodeOkI d n)) ∧ Below w.heap.size w w' := by
  rcases Bool.eq_false_or_eq_true (devB d) with hv | hv
  rotate_left
  · have hf := Lib.hid (nodeOk_dev (n := n) hv)
    have hS0 := devS_start w d
    have HS0 := Lib.hid hS0
    go_enter Try.func44, Try.ntmps44
    go_wp2_with fail
    refine (implDeviceOk_any d _).mono ?_
    rintro e w1 ⟨rfl, hb1⟩
    have hS1 := devS_step HS0.out hb1
    have HS1 := Lib.hid hS1
    clear hS0
    obtain ⟨c0, c1, c2, c3, -⟩ := hS1
    clear hb1
    go_wp2
    go_ret
    exact ⟨rt_bool hf.out.symm, devS_end HS1.out⟩
  obtain ⟨m1, m2⟩ := all_rng hv
  rcases Bool.eq_false_or_eq_true (inR n 0 (allI d - 1)) with hn | hn
  rotate_left
  · have hf := Lib.hid (nodeOk_out hn)
    have hS0 := devS_start w d
    have HS0 := Lib.hid hS0
    go_enter Try.func44, Try.ntmps44
    go_wp2_with fail
    refine (implDeviceOk_any d _).mono ?_
    rintro e w1 ⟨rfl, hb1⟩
    have hS1 := devS_step HS0.out hb1
    have HS1 := Lib.hid hS1
    clear hS0
    obtain ⟨c0, c1, c2, c3, -⟩ := hS1
    clear hb1
    go_wp2_with fail
    refine (implAll_any d hv _).mono ?_
    rintro e w2 ⟨rfl, hb2⟩
    have hS2 := devS_step HS1.out hb2
    have HS2 := Lib.hid hS2
    clear c0 c1 c2 c3
    obtain ⟨c0, c1, c2, c3, -⟩ := hS2
    clear hb2
    go_wp2_with fail
    refine (inRange_any _ _ _ _).mono ?_
    rintro e w' ⟨rfl, rfl⟩
    go_wp2
    go_ret
    exact ⟨rt_bool hf.out.symm, devS_end HS2.out⟩
  have hf0 := nodeOk_in hv hn
  obtain ⟨n0, n1⟩ := (inR_iff _ _ _).1 hn
  obtain ⟨h1, h2⟩ := per_rng hv
  obtain ⟨m1, m2⟩ := all_rng hv
  obtain ⟨p0, p1, p2, p3, p4⟩ := place_rng hv n0 n1
  obtain ⟨-, -, ⟨t1, t2⟩, -⟩ := (devB_iff d).1 hv
  by_cases k5 : n % perI d < 5
  · have hf := Lib.hid (hf0.trans (nodeB_in k5))
    clear hf0
    have kc := kind_cases d (n / perI d)
    have hS0 := devS_start w d
    have HS0 := Lib.hid hS0
    go_enter Try.func44, Try.ntmps44
    go_wp2_with fail
    refine (implDeviceOk_any d _).mono ?_
    rintro e w1 ⟨rfl, hb1⟩
    have hS1 := devS_step HS0.out hb1
    have HS1 := Lib.hid hS1
    clear hS0
    obtain ⟨c0, c1, c2, c3, -⟩ := hS1
    clear hb1
    go_wp2_with fail
    refine (implAll_any d hv _).mono ?_
    rintro e w2 ⟨rfl, hb2⟩
    have hS2 := devS_step HS1.out hb2
    have HS2 := Lib.hid hS2
    clear c0 c1 c2 c3
    obtain ⟨c0, c1, c2, c3, -⟩ := hS2
    clear hb2
    go_wp2_with fail
    refine (inRange_any _ _ _ _).mono ?_
    rintro e w' ⟨rfl, rfl⟩
    go_wp2_with fail
    refine (nodePlace_any d n hv n0 (by omega) _).mono ?_
    rintro e w3 ⟨rfl, hb3⟩
    have hS3 := devS_step HS2.out hb3
    have HS3 := Lib.hid hS3
    clear c0 c1 c2 c3
    obtain ⟨c0, c1, c2, c3, -⟩ := hS3
    clear hb3
    go_wp2_with fail
    refine (implTileKind0_any d _ hv p0 (by have := area_le hv; omega) _).mono ?_
    rintro e w4 ⟨rfl, hb4⟩
    have hS4 := devS_step HS3.out hb4
    have HS4 := Lib.hid hS4
    clear c0 c1 c2 c3
    obtain ⟨c0, c1, c2, c3, -⟩ := hS4
    clear hb4
    go_wp2_with fail
    refine (inPins_any _ kc _).mono ?_
    rintro e w' ⟨rfl, rfl⟩
    go_wp2
    go_ret
    exact ⟨rt_bool hf.out.symm, devS_end HS4.out⟩
  by_cases k7 : n % perI d < 7
  · have hf := Lib.hid (hf0.trans (nodeB_out (by omega) k7))
    clear hf0
    have kc := kind_cases d (n / perI d)
    have hS0 := devS_start w d
    have HS0 := Lib.hid hS0
    go_enter Try.func44, Try.ntmps44
    go_wp2_with fail
    refine (implDeviceOk_any d _).mono ?_
    rintro e w1 ⟨rfl, hb1⟩
    have hS1 := devS_step HS0.out hb1
    have HS1 := Lib.hid hS1
    clear hS0
    obtain ⟨c0, c1, c2, c3, -⟩ := hS1
    clear hb1
    go_wp2_with fail
    refine (implAll_any d hv _).mono ?_
    rintro e w2 ⟨rfl, hb2⟩
    have hS2 := devS_step HS1.out hb2
    have HS2 := Lib.hid hS2
    clear c0 c1 c2 c3
    obtain ⟨c0, c1, c2, c3, -⟩ := hS2
    clear hb2
    go_wp2_with fail
    refine (inRange_any _ _ _ _).mono ?_
    rintro e w' ⟨rfl, rfl⟩
    go_wp2_with fail
    refine (nodePlace_any d n hv n0 (by omega) _).mono ?_
    rintro e w3 ⟨rfl, hb3⟩
    have hS3 := devS_step HS2.out hb3
    have HS3 := Lib.hid hS3
    clear c0 c1 c2 c3
    obtain ⟨c0, c1, c2, c3, -⟩ := hS3
    clear hb3
    go_wp2_with fail
    refine (implTileKind0_any d _ hv p0 (by have := area_le hv; omega) _).mono ?_
    rintro e w4 ⟨rfl, hb4⟩
    have hS4 := devS_step HS3.out hb4
    have HS4 := Lib.hid hS4
    clear c0 c1 c2 c3
    obtain ⟨c0, c1, c2, c3, -⟩ := hS4
    clear hb4
    go_wp2_with fail
    refine (outPins_any _ kc _).mono ?_
    rintro e w' ⟨rfl, rfl⟩
    go_wp2
    go_ret
    exact ⟨rt_bool hf.out.symm, devS_end HS4.out⟩
  · have hf := Lib.hid (hf0.trans (nodeB_wire (by omega)))
    clear hf0
    obtain ⟨g0, g1, g2, g3⟩ := wire_rng hv (by omega) p3
    have z : 0 ≤ 1 + (n % perI d - 7) % d.T % 2 ∧ 1 + (n % perI d - 7) % d.T % 2 ≤ 2 := by omega
    have hS0 := devS_start w d
    have HS0 := Lib.hid hS0
    go_enter Try.func44, Try.ntmps44
    go_wp2_with fail
    refine (implDeviceOk_any d _).mono ?_
    rintro e w1 ⟨rfl, hb1⟩
    have hS1 := devS_step HS0.out hb1
    have HS1 := Lib.hid hS1
    clear hS0
    obtain ⟨c0, c1, c2, c3, -⟩ := hS1
    clear hb1
    go_wp2_with fail
    refine (implAll_any d hv _).mono ?_
    rintro e w2 ⟨rfl, hb2⟩
    have hS2 := devS_step HS1.out hb2
    have HS2 := Lib.hid hS2
    clear c0 c1 c2 c3
    obtain ⟨c0, c1, c2, c3, -⟩ := hS2
    clear hb2
    go_wp2_with fail
    refine (inRange_any _ _ _ _).mono ?_
    rintro e w' ⟨rfl, rfl⟩
    go_wp2_with fail
    refine (nodePlace_any d n hv n0 (by omega) _).mono ?_
    rintro e w3 ⟨rfl, hb3⟩
    have hS3 := devS_step HS2.out hb3
    have HS3 := Lib.hid hS3
    clear c0 c1 c2 c3
    obtain ⟨c0, c1, c2, c3, -⟩ := hS3
    clear hb3
    go_wp2_with fail
    refine (wireOf_wire d n hv n0 n1 (by omega) _).mono ?_
    rintro e w4 ⟨rfl, hb4⟩
    have hS4 := devS_step HS3.out hb4
    have HS4 := Lib.hid hS4
    clear c0 c1 c2 c3
    obtain ⟨c0, c1, c2, c3, -⟩ := hS4
    clear hb4
    have hS := HS4.out
    clear c0 c1 c2 c3
    go_wp2
    go_region_held3 (fun w' => DevS (w.alloc (.cells #[.int .i64 d.W, .int .i64 d.H, .int .i64 d.T, .int .i64 d.R] 25)) w.heap.size d w') (first | assumption | exact devS_drew (by assumption) | exact devS_alloc (by assumption) _ | exact devS_step (by assumption) (by assumption)) (first | (go_at_call 85; refine (wireLen_any _ g2 (by omega) _).mono ?_; rintro e w1 ⟨rfl, rfl⟩) | (go_at_call 76; refine (tileStep_any d _ _ _ hv p0 p1 g0 g1 z.1 (by omega) _).mono ?_; rintro e w1 ⟨rfl, hb1⟩))
    all_goals
      go_wp2
      go_ret
      exact ⟨rt_bool hf.out.symm, devS_end (by assumption)⟩
def wireN (d : Dev) (t dir k : Int) : Int := t * perI d + 7 + dir * d.T + k
set_option maxHeartbeats 4000000 in
theorem wireNode_no (d : Dev) (t dir k : Int) (ht : tOk d t = true) (r0 : 0 ≤ dir) (r1 : dir ≤ 3) (k0 : 0 ≤ k) (k1_o : k ≤ d.T - 1) (hs : stepI d t dir (1 + k % 2) < 0) (w : World) :
    Calls Try.prog 31 #[.agg #[.int .i64 d.W, .int .i64 d.H, .int .i64 d.T, .int .i64 d.R], .int .i64 t, .int .i64 dir, .int .i64 k] w fun e w' => e = .returned (.int .i64 (-1)) ∧ Below w.heap.size w w' := by
  obtain ⟨hv, t0, t1⟩ := (tOk_iff d t).1 ht
  obtain ⟨m1, m2⟩ := area_le hv
  obtain ⟨h1, h2⟩ := per_rng hv
  obtain ⟨-, -, ⟨l1, l2⟩, -⟩ := (devB_iff d).1 hv
  have hr1 : inR dir 0 3 = true := inR_true r0 r1
  have hr2 : inR k 0 (d.T - 1) = true := inR_true k0 k1_o
  have e0 : 0 ≤ t * perI d ∧ t * perI d ≤ 35 * 23 := ⟨Int.mul_nonneg t0 (by omega), Int.mul_le_mul (by omega) h2 (by omega) (by omega)⟩
  have e9 : 0 ≤ dir * d.T ∧ dir * d.T ≤ 3 * 4 := ⟨Int.mul_nonneg r0 (by omega), Int.mul_le_mul r1 l2 (by omega) (by omega)⟩
  have e1 : IntKind.i64.wrap (t * perI d) = t * perI d := IntWalk.i64_in _ (by omega)
  have e2 : IntKind.i64.wrap (t * perI d + 7) = t * perI d + 7 := IntWalk.i64_in _ (by omega)
  have e3 : IntKind.i64.wrap (dir * d.T) = dir * d.T := IntWalk.i64_in _ (by omega)
  have e4 : IntKind.i64.wrap (t * perI d + 7 + dir * d.T) = t * perI d + 7 + dir * d.T := IntWalk.i64_in _ (by omega)
  have e5 : IntKind.i64.wrap (t * perI d + 7 + dir * d.T + k) = t * perI d + 7 + dir * d.T + k := IntWalk.i64_in _ (by omega)
  have e6 : IntKind.i64.wrap (d.T - 1) = d.T - 1 := IntWalk.i64_in _ (by omega)
  have z : 0 ≤ 1 + k % 2 ∧ 1 + k % 2 ≤ 2 := by omega
  have hS0 := devS_start w d
  have HS0 := Lib.hid hS0
  go_enter Try.func31, Try.ntmps31
  go_wp2
  go_region_held3 (fun w' => DevS (w.alloc (.cells #[.int .i64 d.W, .int .i64 d.H, .int .i64 d.T, .int .i64 d.R] 25)) w.heap.size d w') (first | assumption | exact devS_drew (by assumption) | exact devS_alloc (by assumption) _ | exact devS_step (by assumption) (by assumption)) (first | (go_at_call 74; refine (implTileOk_any d t _).mono ?_; rintro e w1 ⟨rfl, hb1⟩) | (go_at_call 75; refine (inRange_any _ _ _ _).mono ?_; rintro e w1 ⟨rfl, rfl⟩) | (go_at_call 85; refine (wireLen_any _ k0 (by omega) _).mono ?_; rintro e w1 ⟨rfl, rfl⟩) | (go_at_call 76; refine (tileStep_any d _ _ _ hv t0 t1 r0 r1 z.1 (by omega) _).mono ?_; rintro e w1 ⟨rfl, hb1⟩))
  all_goals go_wp2
  all_goals go_ret
  all_goals exact ⟨rfl, devS_end (by assumption)⟩
set_option maxHeartbeats 4000000 in
theorem wireNode_yes (d : Dev) (t dir k : Int) (ht : tOk d t = true) (r0 : 0 ≤ dir) (r1 : dir ≤ 3) (k0 : 0 ≤ k) (k1_o : k ≤ d.T - 1) (hs : 0 ≤ stepI d t dir (1 + k % 2)) (w : World) :
    Calls Try.prog 31 #[.agg #[.int .i64 d.W, .int .i64 d.H, .int .i64 d.T, .int .i64 d.R], .int .i64 t, .int .i64 dir, .int .i64 k] w fun e w' => e = .returned (.int .i64 (wireN d t dir k)) ∧ Below w.heap.size w w' := by
  obtain ⟨hv, t0, t1⟩ := (tOk_iff d t).1 ht
  obtain ⟨m1, m2⟩ := area_le hv
  obtain ⟨h1, h2⟩ := per_rng hv
  obtain ⟨-, -, ⟨l1, l2⟩, -⟩ := (devB_iff d).1 hv
  have hr1 : inR dir 0 3 = true := inR_true r0 r1
  have hr2 : inR k 0 (d.T - 1) = true := inR_true k0 k1_o
  have e0 : 0 ≤ t * perI d ∧ t * perI d ≤ 35 * 23 := ⟨Int.mul_nonneg t0 (by omega), Int.mul_le_mul (by omega) h2 (by omega) (by omega)⟩
  have e9 : 0 ≤ dir * d.T ∧ dir * d.T ≤ 3 * 4 := ⟨Int.mul_nonneg r0 (by omega), Int.mul_le_mul r1 l2 (by omega) (by omega)⟩
  have e1 : IntKind.i64.wrap (t * perI d) = t * perI d := IntWalk.i64_in _ (by omega)
  have e2 : IntKind.i64.wrap (t * perI d + 7) = t * perI d + 7 := IntWalk.i64_in _ (by omega)
  have e3 : IntKind.i64.wrap (dir * d.T) = dir * d.T := IntWalk.i64_in _ (by omega)
  have e4 : IntKind.i64.wrap (t * perI d + 7 + dir * d.T) = t * perI d + 7 + dir * d.T := IntWalk.i64_in _ (by omega)
  have e5 : IntKind.i64.wrap (t * perI d + 7 + dir * d.T + k) = t * perI d + 7 + dir * d.T + k := IntWalk.i64_in _ (by omega)
  have e6 : IntKind.i64.wrap (d.T - 1) = d.T - 1 := IntWalk.i64_in _ (by omega)
  have z : 0 ≤ 1 + k % 2 ∧ 1 + k % 2 ≤ 2 := by omega
  have hS0 := devS_start w d
  have HS0 := Lib.hid hS0
  go_enter Try.func31, Try.ntmps31
  go_wp2
  go_region_held3 (fun w' => DevS (w.alloc (.cells #[.int .i64 d.W, .int .i64 d.H, .int .i64 d.T, .int .i64 d.R] 25)) w.heap.size d w') (first | assumption | exact devS_drew (by assumption) | exact devS_alloc (by assumption) _ | exact devS_step (by assumption) (by assumption)) (first | (go_at_call 74; refine (implTileOk_any d t _).mono ?_; rintro e w1 ⟨rfl, hb1⟩) | (go_at_call 75; refine (inRange_any _ _ _ _).mono ?_; rintro e w1 ⟨rfl, rfl⟩) | (go_at_call 85; refine (wireLen_any _ k0 (by omega) _).mono ?_; rintro e w1 ⟨rfl, rfl⟩) | (go_at_call 76; refine (tileStep_any d _ _ _ hv t0 t1 r0 r1 z.1 (by omega) _).mono ?_; rintro e w1 ⟨rfl, hb1⟩))
  all_goals go_wp2
  all_goals
    go_region_held3 (fun w' => DevS (w.alloc (.cells #[.int .i64 d.W, .int .i64 d.H, .int .i64 d.T, .int .i64 d.R] 25)) w.heap.size d w') (first | assumption | exact devS_drew (by assumption) | exact devS_alloc (by assumption) _ | exact devS_step (by assumption) (by assumption)) (first | (go_at_call 86; refine (implPer_any d hv _).mono ?_; rintro e w1 ⟨rfl, hb1⟩))
  all_goals go_wp2
  all_goals go_ret
  all_goals exact ⟨rfl, devS_end (by assumption)⟩
theorem xy_of {W x y : Int} (hW : 0 < W) (h0 : 0 ≤ x) (h1 : x < W) : (y * W + x) % W = x ∧ (y * W + x) / W = y := by
  constructor
  · rw [Int.add_comm, Int.add_mul_emod_self_right, Int.emod_eq_of_lt h0 h1]
  · rw [Int.add_comm, Int.add_mul_ediv_right _ _ (by omega), Int.ediv_eq_zero_of_lt h0 h1, Int.zero_add]
theorem dX_back (dir s : Int) (r0 : 0 ≤ dir) (r1 : dir ≤ 3) : dX ((dir + 2) % 4) s = - dX dir s ∧ dY ((dir + 2) % 4) s = - dY dir s ∧ absI (dX dir s) + absI (dY dir s) = absI s := by
  obtain rfl | rfl | rfl | rfl : dir = 0 ∨ dir = 1 ∨ dir = 2 ∨ dir = 3 := by omega
  all_goals simp [dX, dY, absI]
  all_goals (repeat' split) <;> omega
theorem tile_bounds {d : Dev} {x y : Int} (hv : devB d = true) (x0 : 0 ≤ x) (x1 : x ≤ d.W - 1) (y0 : 0 ≤ y) (y1 : y ≤ d.H - 1) : tOk d (y * d.W + x) = true := by
  rw [tOk_iff]
  obtain ⟨⟨a1, a2⟩, ⟨b1, b2⟩, -, -⟩ := (devB_iff d).1 hv
  have h1 : 0 ≤ y * d.W := Int.mul_nonneg y0 (by omega)
  have h2 : y * d.W ≤ (d.H - 1) * d.W := Int.mul_le_mul_of_nonneg_right y1 (by omega)
  have h3 : (d.H - 1) * d.W = d.W * d.H - d.W := by rw [Int.sub_mul, Int.one_mul, Int.mul_comm]
  exact ⟨hv, by omega, by omega⟩
theorem step_back (d : Dev) (t dir s : Int) (ht : tOk d t = true) (r0 : 0 ≤ dir) (r1 : dir ≤ 3) (s0 : 0 ≤ s) (s1 : s ≤ 6) (h : 0 ≤ tileStepI d t dir s) :
    tileStepI d (tileStepI d t dir s) ((dir + 2) % 4) s = t ∧ distI d t (tileStepI d t dir s) = s ∧ tOk d (tileStepI d t dir s) = true := by
  obtain ⟨hv, t0, t1⟩ := (tOk_iff d t).1 ht
  obtain ⟨x0, x1, y0, y1, et⟩ := tile_xy hv t0 t1
  obtain ⟨⟨a1, a2⟩, ⟨b1, b2⟩, -, -⟩ := (devB_iff d).1 hv
  have hr : inR dir 0 3 = true := inR_true r0 r1
  have hs : inR s 0 6 = true := inR_true s0 s1
  have e1 : tileStepI d t dir s = stepI d t dir s := if_pos ⟨ht, hr, hs⟩
  rw [e1] at h ⊢
  by_cases hin : inR (t % d.W + dX dir s) 0 (d.W - 1) = true ∧ inR (t / d.W + dY dir s) 0 (d.H - 1) = true
  · have e2 : stepI d t dir s = (t / d.W + dY dir s) * d.W + (t % d.W + dX dir s) := if_pos hin
    obtain ⟨u0, u1⟩ := (inR_iff _ _ _).1 hin.1
    obtain ⟨v0, v1⟩ := (inR_iff _ _ _).1 hin.2
    rw [e2]
    have hok := tile_bounds hv u0 u1 v0 v1
    obtain ⟨f1, f2⟩ := xy_of (W := d.W) (x := t % d.W + dX dir s) (y := t / d.W + dY dir s) (by omega) u0 (by omega)
    obtain ⟨g1, g2, g3⟩ := dX_back dir s r0 r1
    refine ⟨?_, ?_, hok⟩
    · rw [tileStepI, if_pos ⟨hok, inR_true (by omega) (by omega), hs⟩, stepI, f1, f2, g1, g2]
      rw [if_pos ⟨inR_true (by omega) (by omega), inR_true (by omega) (by omega)⟩]
      rw [show t / d.W + dY dir s + -dY dir s = t / d.W by omega]; omega
    · rw [distI, f1, f2]
      rw [show t % d.W - (t % d.W + dX dir s) = -dX dir s by omega, show t / d.W - (t / d.W + dY dir s) = -dY dir s by omega]
      have n : ∀ x, absI (-x) = absI x := fun x => by unfold absI; split <;> split <;> omega
      rw [n, n, g3]; unfold absI; split <;> omega
  · have e2 : stepI d t dir s = -1 := if_neg hin
    omega
theorem insI_len (xs : List Int) (x : Int) : (insI xs x).length ≤ xs.length + 1 := by
  induction xs with
  | nil => simp [insI]
  | cons y ys ih => simp only [insI]; split <;> (try split) <;> simp <;> omega
theorem insertInt_mut (v : Value) (xs : List Int) (x : Int) (hn : xs.length ≤ 1000000) {w0 : World} {l : List HP} (w : World) (hm : Mem w0 (rowE 3 1 v xs.length (xs.map (Value.int .i64)) :: l) w) :
    Calls Try.prog 132 #[v, .int .i64 x] w fun e w' => ∃ v' p', e = .returned v' ∧ p' = rowE 3 1 v' (insI xs x).length ((insI xs x).map (Value.int .i64)) ∧ Mem w0 (p' :: l) w' :=
  (insertInt_ret v xs x w (rdsW_own (hm.holds (rowE 3 1 v xs.length (xs.map (Value.int .i64))) List.mem_cons_self)) hn).mono fun e w' h => by
    obtain ⟨v', post, rfl, hR, hp⟩ := h
    rcases hR with ⟨rfl, rfl, he⟩ | rfl
    · exact ⟨v', _, rfl, rfl, by rw [he]; exact hm.step hp.bel⟩
    · exact ⟨v', _, rfl, rfl, (hm.app hp).sub (.cons_cons _ (.cons _ (.refl _)))⟩
def wireNodeI (d : Dev) (t dir k : Int) : Int := if 0 ≤ stepI d t dir (1 + k % 2) then wireN d t dir k else -1
theorem wireNode_at (d : Dev) (t dir k : Int) (ht : tOk d t = true) (r0 : 0 ≤ dir) (r1 : dir ≤ 3) (k0 : 0 ≤ k) (k1_o : k ≤ d.T - 1) (w : World) :
    Calls Try.prog 31 #[.agg #[.int .i64 d.W, .int .i64 d.H, .int .i64 d.T, .int .i64 d.R], .int .i64 t, .int .i64 dir, .int .i64 k] w (Ans w (.int .i64 (wireNodeI d t dir k))) := by
  unfold wireNodeI
  split
  · exact wireNode_yes d t dir k ht r0 r1 k0 k1_o (by assumption) w
  · exact wireNode_no d t dir k ht r0 r1 k0 k1_o (by omega) w
theorem step_tOk {d : Dev} {t dir s : Int} (hv : devB d = true) (h : ¬ stepI d t dir s < 0) : tOk d (stepI d t dir s) = true := by
  unfold stepI at *
  split
  · rename_i hh
    exact tile_bounds hv ((inR_iff _ _ _).1 hh.1).1 ((inR_iff _ _ _).1 hh.1).2 ((inR_iff _ _ _).1 hh.2).1 ((inR_iff _ _ _).1 hh.2).2
  · rename_i hh; rw [if_neg hh] at h; omega
def pinS (d : Dev) (t r k : Int) (xs : List Int) (s : Nat) : List Int :=
  if stepI d t ((r + 2) % 4) ((s : Int) + 1) < 0 then xs else if 0 ≤ wireNodeI d (stepI d t ((r + 2) % 4) ((s : Int) + 1)) r k then insI xs (wireNodeI d (stepI d t ((r + 2) % 4) ((s : Int) + 1)) r k) else xs
def pinK (d : Dev) (t r k : Int) (xs : List Int) (j : Nat) : List Int := (List.range j).foldl (pinS d t r k) xs
theorem pinK_succ (d : Dev) (t r k : Int) (xs : List Int) (j : Nat) : pinK d t r k xs (j + 1) = pinS d t r k (pinK d t r k xs j) j := by unfold pinK; rw [List.range_succ, List.foldl_append]; rfl
def pinR (d : Dev) (t p r : Int) (xs : List Int) (j : Nat) : List Int := (List.range j).foldl (fun xs (k : Nat) => if 1 < d.T ∧ ((k : Int) + p) % 2 ≠ 0 then xs else pinK d t r k xs (1 + k % 2)) xs
theorem pinR_succ (d : Dev) (t p r : Int) (xs : List Int) (j : Nat) : pinR d t p r xs (j + 1) = if 1 < d.T ∧ ((j : Int) + p) % 2 ≠ 0 then pinR d t p r xs j else pinK d t r j (pinR d t p r xs j) (1 + j % 2) := by unfold pinR; rw [List.range_succ, List.foldl_append]; rfl
def pinO (d : Dev) (t p : Int) (j : Nat) : List Int := (List.range j).foldl (fun xs (r : Nat) => pinR d t p r xs d.T.toNat) []
theorem pinO_succ (d : Dev) (t p : Int) (j : Nat) : pinO d t p (j + 1) = pinR d t p j (pinO d t p j) d.T.toNat := by unfold pinO; rw [List.range_succ, List.foldl_append]; rfl
theorem pinS_out {d : Dev} {t r k : Int} {xs : List Int} {s : Nat} (h : stepI d t ((r + 2) % 4) ((s : Int) + 1) < 0) : pinS d t r k xs s = xs := if_pos h
theorem pinS_no {d : Dev} {t r k : Int} {xs : List Int} {s : Nat} (h : ¬ 0 ≤ wireNodeI d (stepI d t ((r + 2) % 4) ((s : Int) + 1)) r k) : pinS d t r k xs s = xs := by unfold pinS; simp only [if_neg h, ite_self]
theorem pinS_yes {d : Dev} {t r k : Int} {xs : List Int} {s : Nat} (h : 0 ≤ stepI d t ((r + 2) % 4) ((s : Int) + 1)) (h2 : 0 ≤ wireNodeI d (stepI d t ((r + 2) % 4) ((s : Int) + 1)) r k) : pinS d t r k xs s = insI xs (wireNodeI d (stepI d t ((r + 2) % 4) ((s : Int) + 1)) r k) := by unfold pinS; rw [if_neg (by omega), if_pos h2]
set_option maxHeartbeats 4000000 in
set_option maxRecDepth 100000 in
theorem pinSources_ret (d : Dev) (t p : Int) (w : World) (hv : devB d = true) (t0 : 0 ≤ t) (t1 : t ≤ d.W * d.H - 1) (p0 : 0 ≤ p) (p1 : p ≤ 4) :
  Calls Try.prog 98 #[.agg #[.int .i64 d.W, .int .i64 d.H, .int .i64 d.T, .int .i64 d.R], .int .i64 t, .int .i64 p] w (Ret w fun v' post => post = [rowE 3 1 v' (pinO d t p 4).length ((pinO d t p 4).map (Value.int .i64))]) := by
 obtain ⟨-, -, ⟨l1, l2⟩, -⟩ := (devB_iff d).1 hv
 refine calls_hc (N := 59) (args := [.agg #[.int .i64 d.W, .int .i64 d.H, .int .i64 d.T, .int .i64 d.R], .int .i64 t, .int .i64 p]) Try.func98 rfl rfl ?_
 refine hc_less _ (sx 0 rfl (sx 1 rfl (sx 2 rfl (sub_nil _)))) (.refl _) ?_
 refine hc_seq ?_
 refine hc_region ?_
 refine hl_box rfl rfl rfl (rq_box rfl rfl) ?_
 intro b1
 refine hl_v rfl rfl rfl (rv_ev rfl) ?_
 refine hl_less (sx 0 rfl (sx 1 rfl (sx 2 rfl (sx 3 rfl (sx 6 rfl (sub_nil _)))))) (.refl _) ?_
 refine hl_nil ?_
 refine hq_then ?_
 refine hc_seq ?_
 refine hc_region ?_
 refine hl_nilRow 3 1 ?_
 refine hl_v rfl rfl rfl (rv_ev rfl) ?_
 refine hl_less (sx 0 rfl (sx 1 rfl (sx 2 rfl (sx 3 rfl (sx 6 rfl (sx 7 rfl (sub_nil _))))))) (.refl _) ?_
 refine hl_nil ?_
 refine hq_then ?_
 refine hc_seq ?_
 refine hc_seq ?_
 refine hc_region ?_
 refine hl_v rfl rfl rfl (rv_ev rfl) ?_
 refine hl_less (sx 0 rfl (sx 1 rfl (sx 2 rfl (sx 3 rfl (sx 6 rfl (sx 7 rfl (sx 8 rfl (sub_nil _)))))))) (.refl _) ?_
 refine hl_nil ?_
 refine hq_then ?_
 refine hc_block ?_
 refine hc_loop3 (α := Nat) (β := Value) (γ := List Int) (fun r v xs => [rowE 3 1 v xs.length (xs.map (Value.int .i64)), boxE b1 #[.int .i64 d.W, .int .i64 d.H, .int .i64 d.T, .int .i64 d.R] 25]) (fun r v xs => [(0, .agg #[.int .i64 d.W, .int .i64 d.H, .int .i64 d.T, .int .i64 d.R]), (1, .int .i64 t), (2, .int .i64 p), (3, .pointer (some ⟨b1, 0, none⟩)), (6, .slice none 0 0), (7, v), (8, .int .i64 (r : Int))]) (fun r v xs => r ≤ 4 ∧ xs = pinO d t p r ∧ xs.length ≤ 8 * r) (fun r v xs => 4 - r) 0 _ [] ⟨by omega, rfl, by simp⟩ (sx 0 rfl (sx 1 rfl (sx 2 rfl (sx 3 rfl (sx 6 rfl (sx 7 rfl (sx 8 rfl (sub_nil _)))))))) ((.cons_cons _ (.cons_cons _ .slnil))) ?_
 intro r v xs hi3
 obtain ⟨hr, hx, hxl⟩ := hi3
 refine hc_seq ?_
 refine hc_seq ?_
 refine hc_region ?_
 refine hl_v rfl rfl rfl (rv_ev rfl) ?_
 refine hl_lss rfl rfl rfl rfl rfl rfl (fun h4 => ?_) (fun h4 => ?_)
 ·
  refine hl_less (sx 0 rfl (sx 1 rfl (sx 2 rfl (sx 3 rfl (sx 6 rfl (sx 7 rfl (sx 8 rfl (sx 14 rfl (sub_nil _))))))))) (.refl _) ?_
  refine hl_nil ?_
  refine hq_then ?_
  refine hc_true rfl ?_
  refine hc_skip ?_
  refine hq_then ?_
  refine hc_seq ?_
  refine hc_block ?_
  refine hc_seq ?_
  refine hc_region ?_
  refine hl_v rfl rfl rfl (rv_ev rfl) ?_
  refine hl_less (sx 0 rfl (sx 1 rfl (sx 2 rfl (sx 3 rfl (sx 6 rfl (sx 7 rfl (sx 8 rfl (sx 9 rfl (sx 14 rfl (sub_nil _)))))))))) (.refl _) ?_
  refine hl_nil ?_
  refine hq_then ?_
  refine hc_block ?_
  refine hc_loop3 (α := Nat) (β := Value) (γ := List Int) (fun k u ys => [rowE 3 1 u ys.length (ys.map (Value.int .i64)), boxE b1 #[.int .i64 d.W, .int .i64 d.H, .int .i64 d.T, .int .i64 d.R] 25]) (fun k u ys => [(0, .agg #[.int .i64 d.W, .int .i64 d.H, .int .i64 d.T, .int .i64 d.R]), (1, .int .i64 t), (2, .int .i64 p), (3, .pointer (some ⟨b1, 0, none⟩)), (6, .slice none 0 0), (7, u), (8, .int .i64 (r : Int)), (9, .int .i64 (k : Int)), (14, .bool true)]) (fun k u ys => (k : Int) ≤ d.T ∧ ys = pinR d t p r xs k ∧ ys.length ≤ xs.length + 2 * k) (fun k u ys => 5 - k) 0 _ xs ⟨by omega, rfl, by simp⟩ (sx 0 rfl (sx 1 rfl (sx 2 rfl (sx 3 rfl (sx 6 rfl (sx 7 rfl (sx 8 rfl (sx 9 rfl (sx 14 rfl (sub_nil _)))))))))) ((.cons_cons _ (.cons_cons _ .slnil))) ?_
  intro k u ys hi5
  obtain ⟨hk, hy, hyl⟩ := hi5
  refine hc_seq ?_
  refine hc_seq ?_
  refine hc_region ?_
  refine hl_v rfl rfl rfl (rv_ev rfl) ?_
  refine hl_v rfl rfl rfl (rv_field (k0 := 2) rfl (by kernel_rfl) rfl) ?_
  refine hl_v rfl rfl rfl (rv_load rfl (by kernel_rfl) rfl (box_cell 1 rfl rfl)) ?_
  refine hl_lss rfl rfl rfl rfl rfl rfl (fun h6 => ?_) (fun h6 => ?_)
  ·
   refine hl_less (sx 0 rfl (sx 1 rfl (sx 2 rfl (sx 3 rfl (sx 6 rfl (sx 7 rfl (sx 8 rfl (sx 9 rfl (sx 14 rfl (sx 20 rfl (sub_nil _))))))))))) (.refl _) ?_
   refine hl_nil ?_
   refine hq_then ?_
   refine hc_true rfl ?_
   refine hc_skip ?_
   refine hq_then ?_
   refine hc_seq ?_
   refine hc_block ?_
   refine hc_seq ?_
   refine hc_seq ?_
   refine hc_region ?_
   refine hl_v rfl rfl rfl (rv_field (k0 := 2) rfl (by kernel_rfl) rfl) ?_
   refine hl_v rfl rfl rfl (rv_load rfl (by kernel_rfl) rfl (box_cell 1 rfl rfl)) ?_
   refine hl_gtr rfl rfl rfl rfl rfl rfl (fun h7 => ?_) (fun h7 => ?_)
   ·
    refine hl_v rfl rfl rfl (rv_ev rfl) ?_
    refine hl_v rfl rfl rfl (rv_ev rfl) ?_
    refine hl_v rfl rfl rfl (rv_ev rfl) ?_
    refine hl_v rfl rfl rfl (rv_add rfl rfl rfl (by constructor <;> omega)) ?_
    refine hl_v rfl rfl rfl (rv_rem rfl rfl rfl (by constructor <;> omega)) ?_
    refine hl_neq rfl rfl rfl rfl rfl rfl (fun h8 => ?_) (fun h8 => ?_)
    ·
     refine hl_v rfl rfl rfl (rv_ev rfl) ?_
     refine hl_less (sx 0 rfl (sx 1 rfl (sx 2 rfl (sx 3 rfl (sx 6 rfl (sx 7 rfl (sx 8 rfl (sx 9 rfl (sx 14 rfl (sx 20 rfl (sx 32 rfl (sub_nil _)))))))))))) (.refl _) ?_
     refine hl_nil ?_
     refine hq_then ?_
     refine hc_true rfl ?_
     refine hc_exit ?_
     refine hq_then_exit ?_
     refine hq_block_exit ?_
     refine hq_then ?_
     refine hc_region ?_
     refine hl_v rfl rfl rfl (rv_ev rfl) ?_
     refine hl_v rfl rfl rfl (rv_add rfl rfl rfl (by constructor <;> omega)) ?_
     refine hl_v rfl rfl rfl (rv_ev rfl) ?_
     refine hl_less (sx 0 rfl (sx 1 rfl (sx 2 rfl (sx 3 rfl (sx 6 rfl (sx 7 rfl (sx 8 rfl (sx 9 rfl (sx 14 rfl (sx 20 rfl (sx 32 rfl (sub_nil _)))))))))))) (.refl _) ?_
     refine hl_nil ?_
     exact hq_round3 (k + 1) _ _ ⟨by omega, by rw [pinR_succ, if_pos ⟨by omega, by omega⟩]; exact hy, by omega⟩ (by omega) (sx 0 rfl (sx 1 rfl (sx 2 rfl (sx 3 rfl (sx 6 rfl (sx 7 rfl (sx 8 rfl (sx 9 rfl (sx 14 rfl (sub_nil _)))))))))) ((.cons_cons _ (.cons_cons _ .slnil)))
    ·
     refine hl_v rfl rfl rfl (rv_ev rfl) ?_
     refine hl_less (sx 0 rfl (sx 1 rfl (sx 2 rfl (sx 3 rfl (sx 6 rfl (sx 7 rfl (sx 8 rfl (sx 9 rfl (sx 14 rfl (sx 20 rfl (sx 32 rfl (sub_nil _)))))))))))) (.refl _) ?_
     refine hl_nil ?_
     refine hq_then ?_
     refine hc_false rfl ?_
     refine hc_skip ?_
     refine hq_then ?_
     refine hc_seq ?_
     refine hc_region ?_
     refine hl_v rfl rfl rfl (rv_ev rfl) ?_
     refine hl_less (sx 0 rfl (sx 1 rfl (sx 2 rfl (sx 3 rfl (sx 6 rfl (sx 7 rfl (sx 8 rfl (sx 9 rfl (sx 10 rfl (sx 14 rfl (sx 20 rfl (sx 32 rfl (sub_nil _))))))))))))) (.refl _) ?_
     refine hl_nil ?_
     refine hq_then ?_
     refine hc_block ?_
     refine hc_loop3 (α := Nat) (β := Value) (γ := List Int) (fun j q zs => [rowE 3 1 q zs.length (zs.map (Value.int .i64)), boxE b1 #[.int .i64 d.W, .int .i64 d.H, .int .i64 d.T, .int .i64 d.R] 25]) (fun j q zs => [(0, .agg #[.int .i64 d.W, .int .i64 d.H, .int .i64 d.T, .int .i64 d.R]), (1, .int .i64 t), (2, .int .i64 p), (3, .pointer (some ⟨b1, 0, none⟩)), (6, .slice none 0 0), (7, q), (8, .int .i64 (r : Int)), (9, .int .i64 (k : Int)), (10, .int .i64 ((j : Int) + 1)), (14, .bool true), (20, .bool true), (32, .bool false)]) (fun j q zs => j ≤ 1 + k % 2 ∧ zs = pinK d t r k ys j ∧ zs.length ≤ ys.length + j) (fun j q zs => 3 - j) 0 _ ys ⟨by omega, rfl, by simp⟩ (sx 0 rfl (sx 1 rfl (sx 2 rfl (sx 3 rfl (sx 6 rfl (sx 7 rfl (sx 8 rfl (sx 9 rfl (sx 10 rfl (sx 14 rfl (sx 20 rfl (sx 32 rfl (sub_nil _))))))))))))) ((.cons_cons _ (.cons_cons _ .slnil))) ?_
     intro j q zs hi9
     obtain ⟨hj, hz, hzl⟩ := hi9
     refine hc_seq ?_
     refine hc_seq ?_
     refine hc_region ?_
     refine hl_v rfl rfl rfl (rv_ev rfl) ?_
     refine hl_v rfl rfl rfl (rv_ev rfl) ?_
     refine hl_callV rfl rfl rfl (rq_call (by kernel_rfl) rfl (fun w hm => ret_ans (ans_of (wireLen_any _ (by omega) (by omega) w)))) ?_
     refine hl_leq rfl rfl rfl rfl rfl rfl (fun h10 => ?_) (fun h10 => ?_)
     ·
      refine hl_less (sx 0 rfl (sx 1 rfl (sx 2 rfl (sx 3 rfl (sx 6 rfl (sx 7 rfl (sx 8 rfl (sx 9 rfl (sx 10 rfl (sx 14 rfl (sx 20 rfl (sx 32 rfl (sx 36 rfl (sub_nil _)))))))))))))) (.refl _) ?_
      refine hl_nil ?_
      refine hq_then ?_
      refine hc_true rfl ?_
      refine hc_skip ?_
      refine hq_then ?_
      refine hc_seq ?_
      refine hc_block ?_
      refine hc_seq ?_
      refine hc_region ?_
      refine hl_v rfl rfl rfl (rv_loadN (cs := [.int .i64 d.W, .int .i64 d.H, .int .i64 d.T, .int .i64 d.R]) rfl (by kernel_rfl) (by kernel_rfl) rfl rfl (box_part 1 rfl 0 rfl)) ?_
      refine hl_v rfl rfl rfl (rv_ev rfl) ?_
      refine hl_v rfl rfl rfl (rv_ev rfl) ?_
      refine hl_v rfl rfl rfl (rv_add rfl rfl rfl (by constructor <;> omega)) ?_
      refine hl_v rfl rfl rfl (rv_rem rfl rfl rfl (by constructor <;> omega)) ?_
      refine hl_v rfl rfl rfl (rv_ev rfl) ?_
      refine hl_callV rfl rfl rfl (rq_call (by kernel_rfl) rfl (fun w hm => ret_ans (tileStep_any d _ _ _ hv t0 t1 (by omega) (by omega) (by omega) (by omega) w))) ?_
      refine hl_v rfl rfl rfl (rv_ev rfl) ?_
      refine hl_less (sx 0 rfl (sx 1 rfl (sx 2 rfl (sx 3 rfl (sx 6 rfl (sx 7 rfl (sx 8 rfl (sx 9 rfl (sx 10 rfl (sx 11 rfl (sx 14 rfl (sx 20 rfl (sx 32 rfl (sx 36 rfl (sub_nil _))))))))))))))) (.refl _) ?_
      refine hl_nil ?_
      refine hq_then ?_
      refine hc_seq ?_
      refine hc_seq ?_
      refine hc_region ?_
      refine hl_v rfl rfl rfl (rv_ev rfl) ?_
      refine hl_lss rfl rfl rfl rfl rfl rfl (fun h11 => ?_) (fun h11 => ?_)
      ·
       refine hl_less (sx 0 rfl (sx 1 rfl (sx 2 rfl (sx 3 rfl (sx 6 rfl (sx 7 rfl (sx 8 rfl (sx 9 rfl (sx 10 rfl (sx 11 rfl (sx 14 rfl (sx 20 rfl (sx 32 rfl (sx 36 rfl (sx 47 rfl (sub_nil _)))))))))))))))) (.refl _) ?_
       refine hl_nil ?_
       refine hq_then ?_
       refine hc_true rfl ?_
       refine hc_exit ?_
       refine hq_then_exit ?_
       refine hq_block_exit ?_
       refine hq_then ?_
       refine hc_region ?_
       refine hl_v rfl rfl rfl (rv_ev rfl) ?_
       refine hl_v rfl rfl rfl (rv_add rfl rfl rfl (by constructor <;> omega)) ?_
       refine hl_v rfl rfl rfl (rv_ev rfl) ?_
       refine hl_less (sx 0 rfl (sx 1 rfl (sx 2 rfl (sx 3 rfl (sx 6 rfl (sx 7 rfl (sx 8 rfl (sx 9 rfl (sx 10 rfl (sx 11 rfl (sx 14 rfl (sx 20 rfl (sx 32 rfl (sx 36 rfl (sx 47 rfl (sub_nil _)))))))))))))))) (.refl _) ?_
       refine hl_nil ?_
       have hil := insI_len zs (wireNodeI d (stepI d t (((r : Int) + 2) % 4) ((j : Int) + 1)) r k)
       exact hq_round3 (j + 1) _ _ ⟨by omega, by rw [pinK_succ, ← hz]; first | exact (pinS_out (by omega)).symm | exact (pinS_no (by omega)).symm | exact (pinS_yes (by omega) (by omega)).symm, by omega⟩ (by omega) (sx 0 rfl (sx 1 rfl (sx 2 rfl (sx 3 rfl (sx 6 rfl (sx 7 rfl (sx 8 rfl (sx 9 rfl (sx 10 rfl (sx 14 rfl (sx 20 rfl (sx 32 rfl (sub_nil _))))))))))))) ((.cons_cons _ (.cons_cons _ .slnil)))
      ·
       refine hl_less (sx 0 rfl (sx 1 rfl (sx 2 rfl (sx 3 rfl (sx 6 rfl (sx 7 rfl (sx 8 rfl (sx 9 rfl (sx 10 rfl (sx 11 rfl (sx 14 rfl (sx 20 rfl (sx 32 rfl (sx 36 rfl (sx 47 rfl (sub_nil _)))))))))))))))) (.refl _) ?_
       refine hl_nil ?_
       refine hq_then ?_
       refine hc_false rfl ?_
       refine hc_skip ?_
       refine hq_then ?_
       refine hc_seq ?_
       refine hc_region ?_
       refine hl_v rfl rfl rfl (rv_loadN (cs := [.int .i64 d.W, .int .i64 d.H, .int .i64 d.T, .int .i64 d.R]) rfl (by kernel_rfl) (by kernel_rfl) rfl rfl (box_part 1 rfl 0 rfl)) ?_
       refine hl_v rfl rfl rfl (rv_ev rfl) ?_
       refine hl_v rfl rfl rfl (rv_ev rfl) ?_
       refine hl_v rfl rfl rfl (rv_ev rfl) ?_
       refine hl_callV rfl rfl rfl (rq_call (by kernel_rfl) rfl (fun w hm => ret_ans (wireNode_at d _ _ _ (step_tOk hv (by omega)) (by omega) (by omega) (by omega) (by omega) w))) ?_
       refine hl_v rfl rfl rfl (rv_ev rfl) ?_
       refine hl_less (sx 0 rfl (sx 1 rfl (sx 2 rfl (sx 3 rfl (sx 6 rfl (sx 7 rfl (sx 8 rfl (sx 9 rfl (sx 10 rfl (sx 11 rfl (sx 12 rfl (sx 14 rfl (sx 20 rfl (sx 32 rfl (sx 36 rfl (sx 47 rfl (sub_nil _))))))))))))))))) (.refl _) ?_
       refine hl_nil ?_
       refine hq_then ?_
       refine hc_seq ?_
       refine hc_region ?_
       refine hl_v rfl rfl rfl (rv_ev rfl) ?_
       refine hl_geq rfl rfl rfl rfl rfl rfl (fun h12 => ?_) (fun h12 => ?_)
       ·
        refine hl_less (sx 0 rfl (sx 1 rfl (sx 2 rfl (sx 3 rfl (sx 6 rfl (sx 7 rfl (sx 8 rfl (sx 9 rfl (sx 10 rfl (sx 11 rfl (sx 12 rfl (sx 14 rfl (sx 20 rfl (sx 32 rfl (sx 36 rfl (sx 47 rfl (sx 54 rfl (sub_nil _)))))))))))))))))) (.refl _) ?_
        refine hl_nil ?_
        refine hq_then ?_
        refine hc_true rfl ?_
        refine hc_region ?_
        refine hl_v rfl rfl rfl (rv_ev rfl) ?_
        refine hl_v rfl rfl rfl (rv_ev rfl) ?_
        refine hl_callM (R := (fun v' p' => p' = rowE 3 1 v' (insI zs (wireNodeI d (stepI d t (((r : Int) + 2) % 4) ((j : Int) + 1)) (r : Int) (k : Int))).length ((insI zs (wireNodeI d (stepI d t (((r : Int) + 2) % 4) ((j : Int) + 1)) (r : Int) (k : Int))).map (Value.int .i64)))) 0 rfl rfl (by kernel_rfl) rfl rfl (fun l' w hm => insertInt_mut _ zs _ (by omega) w hm) ?_
        intro v13 p14 hR15
        subst hR15
        refine hl_eqL (l' := [rowE 3 1 v13 ((insI zs (wireNodeI d (stepI d t (((r : Int) + 2) % 4) ((j : Int) + 1)) (r : Int) (k : Int))).length) ((insI zs (wireNodeI d (stepI d t (((r : Int) + 2) % 4) ((j : Int) + 1)) (r : Int) (k : Int))).map (Value.int .i64)), boxE b1 #[.int .i64 d.W, .int .i64 d.H, .int .i64 d.T, .int .i64 d.R] 25]) rfl ?_
        refine hl_v rfl rfl rfl (rv_ev rfl) ?_
        refine hl_less (sx 0 rfl (sx 1 rfl (sx 2 rfl (sx 3 rfl (sx 6 rfl (sx 7 rfl (sx 8 rfl (sx 9 rfl (sx 10 rfl (sx 11 rfl (sx 12 rfl (sx 14 rfl (sx 20 rfl (sx 32 rfl (sx 36 rfl (sx 47 rfl (sx 54 rfl (sub_nil _)))))))))))))))))) (.refl _) ?_
        refine hl_nil ?_
        refine hq_block_normal ?_
        refine hq_then ?_
        refine hc_region ?_
        refine hl_v rfl rfl rfl (rv_ev rfl) ?_
        refine hl_v rfl rfl rfl (rv_add rfl rfl rfl (by constructor <;> omega)) ?_
        refine hl_v rfl rfl rfl (rv_ev rfl) ?_
        refine hl_less (sx 0 rfl (sx 1 rfl (sx 2 rfl (sx 3 rfl (sx 6 rfl (sx 7 rfl (sx 8 rfl (sx 9 rfl (sx 10 rfl (sx 11 rfl (sx 12 rfl (sx 14 rfl (sx 20 rfl (sx 32 rfl (sx 36 rfl (sx 47 rfl (sx 54 rfl (sub_nil _)))))))))))))))))) (.refl _) ?_
        refine hl_nil ?_
        have hil := insI_len zs (wireNodeI d (stepI d t (((r : Int) + 2) % 4) ((j : Int) + 1)) r k)
        exact hq_round3 (j + 1) _ _ ⟨by omega, by rw [pinK_succ, ← hz]; first | exact (pinS_out (by omega)).symm | exact (pinS_no (by omega)).symm | exact (pinS_yes (by omega) (by omega)).symm, by omega⟩ (by omega) (sx 0 rfl (sx 1 rfl (sx 2 rfl (sx 3 rfl (sx 6 rfl (sx 7 rfl (sx 8 rfl (sx 9 rfl (sx 10 rfl (sx 14 rfl (sx 20 rfl (sx 32 rfl (sub_nil _))))))))))))) ((.cons_cons _ (.cons_cons _ .slnil)))
       ·
        refine hl_less (sx 0 rfl (sx 1 rfl (sx 2 rfl (sx 3 rfl (sx 6 rfl (sx 7 rfl (sx 8 rfl (sx 9 rfl (sx 10 rfl (sx 11 rfl (sx 12 rfl (sx 14 rfl (sx 20 rfl (sx 32 rfl (sx 36 rfl (sx 47 rfl (sx 54 rfl (sub_nil _)))))))))))))))))) (.refl _) ?_
        refine hl_nil ?_
        refine hq_then ?_
        refine hc_false rfl ?_
        refine hc_skip ?_
        refine hq_block_normal ?_
        refine hq_then ?_
        refine hc_region ?_
        refine hl_v rfl rfl rfl (rv_ev rfl) ?_
        refine hl_v rfl rfl rfl (rv_add rfl rfl rfl (by constructor <;> omega)) ?_
        refine hl_v rfl rfl rfl (rv_ev rfl) ?_
        refine hl_less (sx 0 rfl (sx 1 rfl (sx 2 rfl (sx 3 rfl (sx 6 rfl (sx 7 rfl (sx 8 rfl (sx 9 rfl (sx 10 rfl (sx 11 rfl (sx 12 rfl (sx 14 rfl (sx 20 rfl (sx 32 rfl (sx 36 rfl (sx 47 rfl (sx 54 rfl (sub_nil _)))))))))))))))))) (.refl _) ?_
        refine hl_nil ?_
        have hil := insI_len zs (wireNodeI d (stepI d t (((r : Int) + 2) % 4) ((j : Int) + 1)) r k)
        exact hq_round3 (j + 1) _ _ ⟨by omega, by rw [pinK_succ, ← hz]; first | exact (pinS_out (by omega)).symm | exact (pinS_no (by omega)).symm | exact (pinS_yes (by omega) (by omega)).symm, by omega⟩ (by omega) (sx 0 rfl (sx 1 rfl (sx 2 rfl (sx 3 rfl (sx 6 rfl (sx 7 rfl (sx 8 rfl (sx 9 rfl (sx 10 rfl (sx 14 rfl (sx 20 rfl (sx 32 rfl (sub_nil _))))))))))))) ((.cons_cons _ (.cons_cons _ .slnil)))
     ·
      refine hl_less (sx 0 rfl (sx 1 rfl (sx 2 rfl (sx 3 rfl (sx 6 rfl (sx 7 rfl (sx 8 rfl (sx 9 rfl (sx 10 rfl (sx 14 rfl (sx 20 rfl (sx 32 rfl (sx 36 rfl (sub_nil _)))))))))))))) (.refl _) ?_
      refine hl_nil ?_
      refine hq_then ?_
      refine hc_false rfl ?_
      refine hc_exit ?_
      refine hq_then_exit ?_
      refine hq_then_exit ?_
      refine hq_block_exit ?_
      refine hq_block_normal ?_
      refine hq_then ?_
      refine hc_region ?_
      refine hl_v rfl rfl rfl (rv_ev rfl) ?_
      refine hl_v rfl rfl rfl (rv_add rfl rfl rfl (by constructor <;> omega)) ?_
      refine hl_v rfl rfl rfl (rv_ev rfl) ?_
      refine hl_less (sx 0 rfl (sx 1 rfl (sx 2 rfl (sx 3 rfl (sx 6 rfl (sx 7 rfl (sx 8 rfl (sx 9 rfl (sx 10 rfl (sx 14 rfl (sx 20 rfl (sx 32 rfl (sx 36 rfl (sub_nil _)))))))))))))) (.refl _) ?_
      refine hl_nil ?_
      exact hq_round3 (k + 1) _ _ ⟨by omega, by rw [pinR_succ, if_neg (by omega), ← hy, hz]; congr 1; omega, by omega⟩ (by omega) (sx 0 rfl (sx 1 rfl (sx 2 rfl (sx 3 rfl (sx 6 rfl (sx 7 rfl (sx 8 rfl (sx 9 rfl (sx 14 rfl (sub_nil _)))))))))) ((.cons_cons _ (.cons_cons _ .slnil)))
   ·
    refine hl_v rfl rfl rfl (rv_ev rfl) ?_
    refine hl_skip rfl rfl rfl ?_
    refine hl_skip rfl rfl rfl ?_
    refine hl_skip rfl rfl rfl ?_
    refine hl_skip rfl rfl rfl ?_
    refine hl_skip rfl rfl rfl ?_
    refine hl_v rfl rfl rfl (rv_ev rfl) ?_
    refine hl_less (sx 0 rfl (sx 1 rfl (sx 2 rfl (sx 3 rfl (sx 6 rfl (sx 7 rfl (sx 8 rfl (sx 9 rfl (sx 14 rfl (sx 20 rfl (sx 32 rfl (sub_nil _)))))))))))) (.refl _) ?_
    refine hl_nil ?_
    refine hq_then ?_
    refine hc_false rfl ?_
    refine hc_skip ?_
    refine hq_then ?_
    refine hc_seq ?_
    refine hc_region ?_
    refine hl_v rfl rfl rfl (rv_ev rfl) ?_
    refine hl_less (sx 0 rfl (sx 1 rfl (sx 2 rfl (sx 3 rfl (sx 6 rfl (sx 7 rfl (sx 8 rfl (sx 9 rfl (sx 10 rfl (sx 14 rfl (sx 20 rfl (sx 32 rfl (sub_nil _))))))))))))) (.refl _) ?_
    refine hl_nil ?_
    refine hq_then ?_
    refine hc_block ?_
    refine hc_loop3 (α := Nat) (β := Value) (γ := List Int) (fun j q zs => [rowE 3 1 q zs.length (zs.map (Value.int .i64)), boxE b1 #[.int .i64 d.W, .int .i64 d.H, .int .i64 d.T, .int .i64 d.R] 25]) (fun j q zs => [(0, .agg #[.int .i64 d.W, .int .i64 d.H, .int .i64 d.T, .int .i64 d.R]), (1, .int .i64 t), (2, .int .i64 p), (3, .pointer (some ⟨b1, 0, none⟩)), (6, .slice none 0 0), (7, q), (8, .int .i64 (r : Int)), (9, .int .i64 (k : Int)), (10, .int .i64 ((j : Int) + 1)), (14, .bool true), (20, .bool true), (32, .bool false)]) (fun j q zs => j ≤ 1 + k % 2 ∧ zs = pinK d t r k ys j ∧ zs.length ≤ ys.length + j) (fun j q zs => 3 - j) 0 _ ys ⟨by omega, rfl, by simp⟩ (sx 0 rfl (sx 1 rfl (sx 2 rfl (sx 3 rfl (sx 6 rfl (sx 7 rfl (sx 8 rfl (sx 9 rfl (sx 10 rfl (sx 14 rfl (sx 20 rfl (sx 32 rfl (sub_nil _))))))))))))) ((.cons_cons _ (.cons_cons _ .slnil))) ?_
    intro j q zs hi16
    obtain ⟨hj, hz, hzl⟩ := hi16
    refine hc_seq ?_
    refine hc_seq ?_
    refine hc_region ?_
    refine hl_v rfl rfl rfl (rv_ev rfl) ?_
    refine hl_v rfl rfl rfl (rv_ev rfl) ?_
    refine hl_callV rfl rfl rfl (rq_call (by kernel_rfl) rfl (fun w hm => ret_ans (ans_of (wireLen_any _ (by omega) (by omega) w)))) ?_
    refine hl_leq rfl rfl rfl rfl rfl rfl (fun h17 => ?_) (fun h17 => ?_)
    ·
     refine hl_less (sx 0 rfl (sx 1 rfl (sx 2 rfl (sx 3 rfl (sx 6 rfl (sx 7 rfl (sx 8 rfl (sx 9 rfl (sx 10 rfl (sx 14 rfl (sx 20 rfl (sx 32 rfl (sx 36 rfl (sub_nil _)))))))))))))) (.refl _) ?_
     refine hl_nil ?_
     refine hq_then ?_
     refine hc_true rfl ?_
     refine hc_skip ?_
     refine hq_then ?_
     refine hc_seq ?_
     refine hc_block ?_
     refine hc_seq ?_
     refine hc_region ?_
     refine hl_v rfl rfl rfl (rv_loadN (cs := [.int .i64 d.W, .int .i64 d.H, .int .i64 d.T, .int .i64 d.R]) rfl (by kernel_rfl) (by kernel_rfl) rfl rfl (box_part 1 rfl 0 rfl)) ?_
     refine hl_v rfl rfl rfl (rv_ev rfl) ?_
     refine hl_v rfl rfl rfl (rv_ev rfl) ?_
     refine hl_v rfl rfl rfl (rv_add rfl rfl rfl (by constructor <;> omega)) ?_
     refine hl_v rfl rfl rfl (rv_rem rfl rfl rfl (by constructor <;> omega)) ?_
     refine hl_v rfl rfl rfl (rv_ev rfl) ?_
     refine hl_callV rfl rfl rfl (rq_call (by kernel_rfl) rfl (fun w hm => ret_ans (tileStep_any d _ _ _ hv t0 t1 (by omega) (by omega) (by omega) (by omega) w))) ?_
     refine hl_v rfl rfl rfl (rv_ev rfl) ?_
     refine hl_less (sx 0 rfl (sx 1 rfl (sx 2 rfl (sx 3 rfl (sx 6 rfl (sx 7 rfl (sx 8 rfl (sx 9 rfl (sx 10 rfl (sx 11 rfl (sx 14 rfl (sx 20 rfl (sx 32 rfl (sx 36 rfl (sub_nil _))))))))))))))) (.refl _) ?_
     refine hl_nil ?_
     refine hq_then ?_
     refine hc_seq ?_
     refine hc_seq ?_
     refine hc_region ?_
     refine hl_v rfl rfl rfl (rv_ev rfl) ?_
     refine hl_lss rfl rfl rfl rfl rfl rfl (fun h18 => ?_) (fun h18 => ?_)
     ·
      refine hl_less (sx 0 rfl (sx 1 rfl (sx 2 rfl (sx 3 rfl (sx 6 rfl (sx 7 rfl (sx 8 rfl (sx 9 rfl (sx 10 rfl (sx 11 rfl (sx 14 rfl (sx 20 rfl (sx 32 rfl (sx 36 rfl (sx 47 rfl (sub_nil _)))))))))))))))) (.refl _) ?_
      refine hl_nil ?_
      refine hq_then ?_
      refine hc_true rfl ?_
      refine hc_exit ?_
      refine hq_then_exit ?_
      refine hq_block_exit ?_
      refine hq_then ?_
      refine hc_region ?_
      refine hl_v rfl rfl rfl (rv_ev rfl) ?_
      refine hl_v rfl rfl rfl (rv_add rfl rfl rfl (by constructor <;> omega)) ?_
      refine hl_v rfl rfl rfl (rv_ev rfl) ?_
      refine hl_less (sx 0 rfl (sx 1 rfl (sx 2 rfl (sx 3 rfl (sx 6 rfl (sx 7 rfl (sx 8 rfl (sx 9 rfl (sx 10 rfl (sx 11 rfl (sx 14 rfl (sx 20 rfl (sx 32 rfl (sx 36 rfl (sx 47 rfl (sub_nil _)))))))))))))))) (.refl _) ?_
      refine hl_nil ?_
      have hil := insI_len zs (wireNodeI d (stepI d t (((r : Int) + 2) % 4) ((j : Int) + 1)) r k)
      exact hq_round3 (j + 1) _ _ ⟨by omega, by rw [pinK_succ, ← hz]; first | exact (pinS_out (by omega)).symm | exact (pinS_no (by omega)).symm | exact (pinS_yes (by omega) (by omega)).symm, by omega⟩ (by omega) (sx 0 rfl (sx 1 rfl (sx 2 rfl (sx 3 rfl (sx 6 rfl (sx 7 rfl (sx 8 rfl (sx 9 rfl (sx 10 rfl (sx 14 rfl (sx 20 rfl (sx 32 rfl (sub_nil _))))))))))))) ((.cons_cons _ (.cons_cons _ .slnil)))
     ·
      refine hl_less (sx 0 rfl (sx 1 rfl (sx 2 rfl (sx 3 rfl (sx 6 rfl (sx 7 rfl (sx 8 rfl (sx 9 rfl (sx 10 rfl (sx 11 rfl (sx 14 rfl (sx 20 rfl (sx 32 rfl (sx 36 rfl (sx 47 rfl (sub_nil _)))))))))))))))) (.refl _) ?_
      refine hl_nil ?_
      refine hq_then ?_
      refine hc_false rfl ?_
      refine hc_skip ?_
      refine hq_then ?_
      refine hc_seq ?_
      refine hc_region ?_
      refine hl_v rfl rfl rfl (rv_loadN (cs := [.int .i64 d.W, .int .i64 d.H, .int .i64 d.T, .int .i64 d.R]) rfl (by kernel_rfl) (by kernel_rfl) rfl rfl (box_part 1 rfl 0 rfl)) ?_
      refine hl_v rfl rfl rfl (rv_ev rfl) ?_
      refine hl_v rfl rfl rfl (rv_ev rfl) ?_
      refine hl_v rfl rfl rfl (rv_ev rfl) ?_
      refine hl_callV rfl rfl rfl (rq_call (by kernel_rfl) rfl (fun w hm => ret_ans (wireNode_at d _ _ _ (step_tOk hv (by omega)) (by omega) (by omega) (by omega) (by omega) w))) ?_
      refine hl_v rfl rfl rfl (rv_ev rfl) ?_
      refine hl_less (sx 0 rfl (sx 1 rfl (sx 2 rfl (sx 3 rfl (sx 6 rfl (sx 7 rfl (sx 8 rfl (sx 9 rfl (sx 10 rfl (sx 11 rfl (sx 12 rfl (sx 14 rfl (sx 20 rfl (sx 32 rfl (sx 36 rfl (sx 47 rfl (sub_nil _))))))))))))))))) (.refl _) ?_
      refine hl_nil ?_
      refine hq_then ?_
      refine hc_seq ?_
      refine hc_region ?_
      refine hl_v rfl rfl rfl (rv_ev rfl) ?_
      refine hl_geq rfl rfl rfl rfl rfl rfl (fun h19 => ?_) (fun h19 => ?_)
      ·
       refine hl_less (sx 0 rfl (sx 1 rfl (sx 2 rfl (sx 3 rfl (sx 6 rfl (sx 7 rfl (sx 8 rfl (sx 9 rfl (sx 10 rfl (sx 11 rfl (sx 12 rfl (sx 14 rfl (sx 20 rfl (sx 32 rfl (sx 36 rfl (sx 47 rfl (sx 54 rfl (sub_nil _)))))))))))))))))) (.refl _) ?_
       refine hl_nil ?_
       refine hq_then ?_
       refine hc_true rfl ?_
       refine hc_region ?_
       refine hl_v rfl rfl rfl (rv_ev rfl) ?_
       refine hl_v rfl rfl rfl (rv_ev rfl) ?_
       refine hl_callM (R := (fun v' p' => p' = rowE 3 1 v' (insI zs (wireNodeI d (stepI d t (((r : Int) + 2) % 4) ((j : Int) + 1)) (r : Int) (k : Int))).length ((insI zs (wireNodeI d (stepI d t (((r : Int) + 2) % 4) ((j : Int) + 1)) (r : Int) (k : Int))).map (Value.int .i64)))) 0 rfl rfl (by kernel_rfl) rfl rfl (fun l' w hm => insertInt_mut _ zs _ (by omega) w hm) ?_
       intro v20 p21 hR22
       subst hR22
       refine hl_eqL (l' := [rowE 3 1 v20 ((insI zs (wireNodeI d (stepI d t (((r : Int) + 2) % 4) ((j : Int) + 1)) (r : Int) (k : Int))).length) ((insI zs (wireNodeI d (stepI d t (((r : Int) + 2) % 4) ((j : Int) + 1)) (r : Int) (k : Int))).map (Value.int .i64)), boxE b1 #[.int .i64 d.W, .int .i64 d.H, .int .i64 d.T, .int .i64 d.R] 25]) rfl ?_
       refine hl_v rfl rfl rfl (rv_ev rfl) ?_
       refine hl_less (sx 0 rfl (sx 1 rfl (sx 2 rfl (sx 3 rfl (sx 6 rfl (sx 7 rfl (sx 8 rfl (sx 9 rfl (sx 10 rfl (sx 11 rfl (sx 12 rfl (sx 14 rfl (sx 20 rfl (sx 32 rfl (sx 36 rfl (sx 47 rfl (sx 54 rfl (sub_nil _)))))))))))))))))) (.refl _) ?_
       refine hl_nil ?_
       refine hq_block_normal ?_
       refine hq_then ?_
       refine hc_region ?_
       refine hl_v rfl rfl rfl (rv_ev rfl) ?_
       refine hl_v rfl rfl rfl (rv_add rfl rfl rfl (by constructor <;> omega)) ?_
       refine hl_v rfl rfl rfl (rv_ev rfl) ?_
       refine hl_less (sx 0 rfl (sx 1 rfl (sx 2 rfl (sx 3 rfl (sx 6 rfl (sx 7 rfl (sx 8 rfl (sx 9 rfl (sx 10 rfl (sx 11 rfl (sx 12 rfl (sx 14 rfl (sx 20 rfl (sx 32 rfl (sx 36 rfl (sx 47 rfl (sx 54 rfl (sub_nil _)))))))))))))))))) (.refl _) ?_
       refine hl_nil ?_
       have hil := insI_len zs (wireNodeI d (stepI d t (((r : Int) + 2) % 4) ((j : Int) + 1)) r k)
       exact hq_round3 (j + 1) _ _ ⟨by omega, by rw [pinK_succ, ← hz]; first | exact (pinS_out (by omega)).symm | exact (pinS_no (by omega)).symm | exact (pinS_yes (by omega) (by omega)).symm, by omega⟩ (by omega) (sx 0 rfl (sx 1 rfl (sx 2 rfl (sx 3 rfl (sx 6 rfl (sx 7 rfl (sx 8 rfl (sx 9 rfl (sx 10 rfl (sx 14 rfl (sx 20 rfl (sx 32 rfl (sub_nil _))))))))))))) ((.cons_cons _ (.cons_cons _ .slnil)))
      ·
       refine hl_less (sx 0 rfl (sx 1 rfl (sx 2 rfl (sx 3 rfl (sx 6 rfl (sx 7 rfl (sx 8 rfl (sx 9 rfl (sx 10 rfl (sx 11 rfl (sx 12 rfl (sx 14 rfl (sx 20 rfl (sx 32 rfl (sx 36 rfl (sx 47 rfl (sx 54 rfl (sub_nil _)))))))))))))))))) (.refl _) ?_
       refine hl_nil ?_
       refine hq_then ?_
       refine hc_false rfl ?_
       refine hc_skip ?_
       refine hq_block_normal ?_
       refine hq_then ?_
       refine hc_region ?_
       refine hl_v rfl rfl rfl (rv_ev rfl) ?_
       refine hl_v rfl rfl rfl (rv_add rfl rfl rfl (by constructor <;> omega)) ?_
       refine hl_v rfl rfl rfl (rv_ev rfl) ?_
       refine hl_less (sx 0 rfl (sx 1 rfl (sx 2 rfl (sx 3 rfl (sx 6 rfl (sx 7 rfl (sx 8 rfl (sx 9 rfl (sx 10 rfl (sx 11 rfl (sx 12 rfl (sx 14 rfl (sx 20 rfl (sx 32 rfl (sx 36 rfl (sx 47 rfl (sx 54 rfl (sub_nil _)))))))))))))))))) (.refl _) ?_
       refine hl_nil ?_
       have hil := insI_len zs (wireNodeI d (stepI d t (((r : Int) + 2) % 4) ((j : Int) + 1)) r k)
       exact hq_round3 (j + 1) _ _ ⟨by omega, by rw [pinK_succ, ← hz]; first | exact (pinS_out (by omega)).symm | exact (pinS_no (by omega)).symm | exact (pinS_yes (by omega) (by omega)).symm, by omega⟩ (by omega) (sx 0 rfl (sx 1 rfl (sx 2 rfl (sx 3 rfl (sx 6 rfl (sx 7 rfl (sx 8 rfl (sx 9 rfl (sx 10 rfl (sx 14 rfl (sx 20 rfl (sx 32 rfl (sub_nil _))))))))))))) ((.cons_cons _ (.cons_cons _ .slnil)))
    ·
     refine hl_less (sx 0 rfl (sx 1 rfl (sx 2 rfl (sx 3 rfl (sx 6 rfl (sx 7 rfl (sx 8 rfl (sx 9 rfl (sx 10 rfl (sx 14 rfl (sx 20 rfl (sx 32 rfl (sx 36 rfl (sub_nil _)))))))))))))) (.refl _) ?_
     refine hl_nil ?_
     refine hq_then ?_
     refine hc_false rfl ?_
     refine hc_exit ?_
     refine hq_then_exit ?_
     refine hq_then_exit ?_
     refine hq_block_exit ?_
     refine hq_block_normal ?_
     refine hq_then ?_
     refine hc_region ?_
     refine hl_v rfl rfl rfl (rv_ev rfl) ?_
     refine hl_v rfl rfl rfl (rv_add rfl rfl rfl (by constructor <;> omega)) ?_
     refine hl_v rfl rfl rfl (rv_ev rfl) ?_
     refine hl_less (sx 0 rfl (sx 1 rfl (sx 2 rfl (sx 3 rfl (sx 6 rfl (sx 7 rfl (sx 8 rfl (sx 9 rfl (sx 10 rfl (sx 14 rfl (sx 20 rfl (sx 32 rfl (sx 36 rfl (sub_nil _)))))))))))))) (.refl _) ?_
     refine hl_nil ?_
     exact hq_round3 (k + 1) _ _ ⟨by omega, by rw [pinR_succ, if_neg (by omega), ← hy, hz]; congr 1; omega, by omega⟩ (by omega) (sx 0 rfl (sx 1 rfl (sx 2 rfl (sx 3 rfl (sx 6 rfl (sx 7 rfl (sx 8 rfl (sx 9 rfl (sx 14 rfl (sub_nil _)))))))))) ((.cons_cons _ (.cons_cons _ .slnil)))
  ·
   refine hl_less (sx 0 rfl (sx 1 rfl (sx 2 rfl (sx 3 rfl (sx 6 rfl (sx 7 rfl (sx 8 rfl (sx 9 rfl (sx 14 rfl (sx 20 rfl (sub_nil _))))))))))) (.refl _) ?_
   refine hl_nil ?_
   refine hq_then ?_
   refine hc_false rfl ?_
   refine hc_exit ?_
   refine hq_then_exit ?_
   refine hq_then_exit ?_
   refine hq_block_exit ?_
   refine hq_block_normal ?_
   refine hq_then ?_
   refine hc_region ?_
   refine hl_v rfl rfl rfl (rv_ev rfl) ?_
   refine hl_v rfl rfl rfl (rv_add rfl rfl rfl (by constructor <;> omega)) ?_
   refine hl_v rfl rfl rfl (rv_ev rfl) ?_
   refine hl_less (sx 0 rfl (sx 1 rfl (sx 2 rfl (sx 3 rfl (sx 6 rfl (sx 7 rfl (sx 8 rfl (sx 9 rfl (sx 14 rfl (sx 20 rfl (sub_nil _))))))))))) (.refl _) ?_
   refine hl_nil ?_
   exact hq_round3 (r + 1) _ _ ⟨by omega, by rw [pinO_succ, ← hx, hy]; congr 1; omega, by omega⟩ (by omega) (sx 0 rfl (sx 1 rfl (sx 2 rfl (sx 3 rfl (sx 6 rfl (sx 7 rfl (sx 8 rfl (sub_nil _)))))))) ((.cons_cons _ (.cons_cons _ .slnil)))
 ·
  refine hl_less (sx 0 rfl (sx 1 rfl (sx 2 rfl (sx 3 rfl (sx 6 rfl (sx 7 rfl (sx 8 rfl (sx 14 rfl (sub_nil _))))))))) (.refl _) ?_
  refine hl_nil ?_
  refine hq_then ?_
  refine hc_false rfl ?_
  refine hc_exit ?_
  refine hq_then_exit ?_
  refine hq_then_exit ?_
  refine hq_block_exit ?_
  refine hq_then ?_
  refine hc_seq ?_
  refine hc_region ?_
  refine hl_v rfl rfl rfl (rv_ev rfl) ?_
  refine hl_v rfl rfl rfl (rv_ev rfl) ?_
  refine hl_less (sx 0 rfl (sx 1 rfl (sx 2 rfl (sx 3 rfl (sx 6 rfl (sx 7 rfl (sx 8 rfl (sx 14 rfl (sub_nil _))))))))) (.refl _) ?_
  refine hl_nil ?_
  refine hq_then ?_
  refine hc_ret ?_
  exact hq_retR (post := [rowE 3 1 v xs.length (xs.map (Value.int .i64))]) rfl rfl ((.cons_cons _ (.cons _ .slnil))) (by rw [hx, show r = 4 by omega])
open Go.RowKit
theorem inR_not {a b c : Int} (h : inR a b c = false) : a < b ∨ c < a := by
  rcases Int.lt_or_le a b with h1 | h1
  · exact .inl h1
  · rcases Int.lt_or_le c a with h2 | h2
    · exact .inr h2
    · rw [inR_true h1 h2] at h; cases h
def outPinI (d : Dev) (t p : Int) : Int := if tOk d t = true ∧ 0 ≤ p ∧ p ≤ outPinsI (kindI d t) - 1 then t * perI d + 5 + p else -1
theorem outPins_rng (d : Dev) (t : Int) : 1 ≤ outPinsI (kindI d t) ∧ outPinsI (kindI d t) ≤ 2 := by
  rcases kind_cases d t with h | h | h <;> rw [h] <;> simp [outPinsI]
theorem per_mul {d : Dev} {t : Int} (hv : devB d = true) (t0 : 0 ≤ t) (t1 : t ≤ d.W * d.H - 1) : 0 ≤ t * perI d ∧ t * perI d ≤ 805 := by
  obtain ⟨h1, h2⟩ := per_rng hv
  obtain ⟨m1, m2⟩ := area_le hv
  exact ⟨Int.mul_nonneg t0 (by omega), Int.le_trans (Int.mul_le_mul (show t ≤ 35 by omega) h2 (by omega) (by omega)) (by omega)⟩
theorem tile_35 {d : Dev} {t : Int} (hv : devB d = true) (t1 : t ≤ d.W * d.H - 1) : t ≤ 35 := by
  obtain ⟨m1, m2⟩ := area_le hv; omega
set_option maxHeartbeats 4000000 in
set_option maxRecDepth 100000 in
theorem outPin_ans (d : Dev) (t p : Int) (w : World) (p0 : -1000 ≤ p) (p1 : p ≤ 1000) :
  Calls Try.prog 46 #[.agg #[.int .i64 d.W, .int .i64 d.H, .int .i64 d.T, .int .i64 d.R], .int .i64 t, .int .i64 p] w (Ans w (.int .i64 (outPinI d t p))) := by
 refine calls_hc (N := 28) (args := [.agg #[.int .i64 d.W, .int .i64 d.H, .int .i64 d.T, .int .i64 d.R], .int .i64 t, .int .i64 p]) Try.func46 rfl rfl ?_
 refine hc_less _ (sx 0 rfl (sx 1 rfl (sx 2 rfl (sub_nil _)))) (.refl _) ?_
 refine hc_seq ?_
 refine hc_region ?_
 refine hl_box rfl rfl rfl (rq_box rfl rfl) ?_
 intro b1
 refine hl_v rfl rfl rfl (rv_ev rfl) ?_
 refine hl_less (sx 0 rfl (sx 1 rfl (sx 2 rfl (sx 3 rfl (sx 6 rfl (sub_nil _)))))) (.refl _) ?_
 refine hl_nil ?_
 refine hq_then ?_
 refine hc_seq ?_
 refine hc_seq ?_
 refine hc_region ?_
 refine hl_v rfl rfl rfl (rv_loadN (cs := [.int .i64 d.W, .int .i64 d.H, .int .i64 d.T, .int .i64 d.R]) rfl (by kernel_rfl) (by kernel_rfl) rfl rfl (box_part 0 rfl 0 rfl)) ?_
 refine hl_v rfl rfl rfl (rv_ev rfl) ?_
 refine hl_callV rfl rfl rfl (rq_call (by kernel_rfl) rfl (fun w hm => ret_ans (implTileOk_any d _ w))) ?_
 refine hl_bool (fun h2 => ?_) (fun h2 => ?_)
 ·
  obtain ⟨hv, h2a, h2b⟩ := (tOk_iff _ _).1 h2
  have hor := outPins_rng d t
  have hpm := per_mul hv h2a h2b
  have h35 := tile_35 hv h2b
  refine hl_v rfl rfl rfl (rv_ev rfl) ?_
  refine hl_v rfl rfl rfl (rv_ev rfl) ?_
  refine hl_v rfl rfl rfl (rv_ev rfl) ?_
  refine hl_v rfl rfl rfl (rv_loadN (cs := [.int .i64 d.W, .int .i64 d.H, .int .i64 d.T, .int .i64 d.R]) rfl (by kernel_rfl) (by kernel_rfl) rfl rfl (box_part 0 rfl 0 rfl)) ?_
  refine hl_v rfl rfl rfl (rv_ev rfl) ?_
  refine hl_callV rfl rfl rfl (rq_call (by kernel_rfl) rfl (fun w hm => ret_ans (implTileKind0_any d _ hv (by omega) (by omega) w))) ?_
  refine hl_callV rfl rfl rfl (rq_call (by kernel_rfl) rfl (fun w hm => ret_ans (ans_of (outPins_any _ (kind_cases d _) w)))) ?_
  refine hl_v rfl rfl rfl (rv_sub rfl rfl rfl (by constructor <;> omega)) ?_
  refine hl_callV rfl rfl rfl (rq_call (by kernel_rfl) rfl (fun w hm => ret_ans (ans_of (inRange_any _ _ _ w)))) ?_
  refine hl_bool (fun h3 => ?_) (fun h3 => ?_)
  ·
   obtain ⟨h3a, h3b⟩ := (inR_iff _ _ _).1 h3
   refine hl_v rfl rfl rfl (rv_ev rfl) ?_
   refine hl_v rfl rfl rfl (rv_ev rfl) ?_
   refine hl_less (sx 0 rfl (sx 1 rfl (sx 2 rfl (sx 3 rfl (sx 6 rfl (sx 20 rfl (sub_nil _))))))) (.refl _) ?_
   refine hl_nil ?_
   refine hq_then ?_
   refine hc_false rfl ?_
   refine hc_skip ?_
   refine hq_then ?_
   refine hc_seq ?_
   refine hc_region ?_
   refine hl_v rfl rfl rfl (rv_ev rfl) ?_
   refine hl_v rfl rfl rfl (rv_loadN (cs := [.int .i64 d.W, .int .i64 d.H, .int .i64 d.T, .int .i64 d.R]) rfl (by kernel_rfl) (by kernel_rfl) rfl rfl (box_part 0 rfl 0 rfl)) ?_
   refine hl_callV rfl rfl rfl (rq_call (by kernel_rfl) rfl (fun w hm => ret_ans (implPer_any d hv w))) ?_
   refine hl_v rfl rfl rfl (rv_mul rfl rfl rfl (by constructor <;> omega)) ?_
   refine hl_v rfl rfl rfl (rv_add rfl rfl rfl (by constructor <;> omega)) ?_
   refine hl_v rfl rfl rfl (rv_ev rfl) ?_
   refine hl_v rfl rfl rfl (rv_add rfl rfl rfl (by constructor <;> omega)) ?_
   refine hl_v rfl rfl rfl (rv_ev rfl) ?_
   refine hl_less (sx 0 rfl (sx 1 rfl (sx 2 rfl (sx 3 rfl (sx 6 rfl (sx 20 rfl (sub_nil _))))))) (.refl _) ?_
   refine hl_nil ?_
   refine hq_then ?_
   refine hc_ret ?_
   exact hq_ans rfl rfl (by unfold outPinI; rw [if_pos ⟨by assumption, by omega, by omega⟩])
  ·
   have h3a := inR_not h3
   refine hl_v rfl rfl rfl (rv_ev rfl) ?_
   refine hl_v rfl rfl rfl (rv_ev rfl) ?_
   refine hl_less (sx 0 rfl (sx 1 rfl (sx 2 rfl (sx 3 rfl (sx 6 rfl (sx 20 rfl (sub_nil _))))))) (.refl _) ?_
   refine hl_nil ?_
   refine hq_then ?_
   refine hc_true rfl ?_
   refine hc_seq ?_
   refine hc_region ?_
   refine hl_v rfl rfl rfl (rv_ev rfl) ?_
   refine hl_less (sx 0 rfl (sx 1 rfl (sx 2 rfl (sx 3 rfl (sx 6 rfl (sx 20 rfl (sub_nil _))))))) (.refl _) ?_
   refine hl_nil ?_
   refine hq_then ?_
   refine hc_ret ?_
   refine hq_then_ret ?_
   exact hq_ans rfl rfl (by unfold outPinI; rw [if_neg (by rintro ⟨q1, q2, q3⟩; first | omega | simp_all)])
 ·
  refine hl_v rfl rfl rfl (rv_ev rfl) ?_
  refine hl_v rfl rfl rfl (rv_ev rfl) ?_
  refine hl_skip rfl rfl rfl ?_
  refine hl_skip rfl rfl rfl ?_
  refine hl_skip rfl rfl rfl ?_
  refine hl_skip rfl rfl rfl ?_
  refine hl_skip rfl rfl rfl ?_
  refine hl_skip rfl rfl rfl ?_
  refine hl_skip rfl rfl rfl ?_
  refine hl_skip rfl rfl rfl ?_
  refine hl_v rfl rfl rfl (rv_ev rfl) ?_
  refine hl_less (sx 0 rfl (sx 1 rfl (sx 2 rfl (sx 3 rfl (sx 6 rfl (sx 20 rfl (sub_nil _))))))) (.refl _) ?_
  refine hl_nil ?_
  refine hq_then ?_
  refine hc_true rfl ?_
  refine hc_seq ?_
  refine hc_region ?_
  refine hl_v rfl rfl rfl (rv_ev rfl) ?_
  refine hl_less (sx 0 rfl (sx 1 rfl (sx 2 rfl (sx 3 rfl (sx 6 rfl (sx 20 rfl (sub_nil _))))))) (.refl _) ?_
  refine hl_nil ?_
  refine hq_then ?_
  refine hc_ret ?_
  refine hq_then_ret ?_
  exact hq_ans rfl rfl (by unfold outPinI; rw [if_neg (by rintro ⟨q1, q2, q3⟩; first | omega | simp_all)])
def outS (d : Dev) (t : Int) (xs : List Int) (p : Nat) : List Int := if 0 ≤ outPinI d t p then insI xs (outPinI d t p) else xs
def outO (d : Dev) (t : Int) (j : Nat) : List Int := (List.range j).foldl (outS d t) []
theorem outO_succ (d : Dev) (t : Int) (j : Nat) : outO d t (j + 1) = outS d t (outO d t j) j := by unfold outO; rw [List.range_succ, List.foldl_append]; rfl
def wireW (d : Dev) (t r : Int) (xs : List Int) (k : Int) : List Int := if 0 ≤ stepI d t ((r + 2) % 4) (1 + k % 2) then insI xs (wireNodeI d (stepI d t ((r + 2) % 4) (1 + k % 2)) r k) else xs
def wireK (d : Dev) (t r : Int) (ks : List Int) (xs : List Int) (j : Nat) : List Int := (ks.take j).foldl (wireW d t r) xs
theorem wireK_succ (d : Dev) (t r : Int) (ks xs : List Int) (j : Nat) (h : j < ks.length) : wireK d t r ks xs (j + 1) = wireW d t r (wireK d t r ks xs j) (ks.getD j 0) := by
  unfold wireK; rw [List.take_succ_eq_append_getElem h, List.foldl_append, List.getD_eq_getElem?_getD, List.getElem?_eq_getElem h]; rfl
def wireR (d : Dev) (t dir track : Int) (xs : List Int) (r : Nat) : List Int := if (r : Int) = (dir + 2) % 4 then xs else wireK d t r [track, (track + 1) % d.T] xs 2
def wireO (d : Dev) (t dir track : Int) (j : Nat) : List Int := (List.range j).foldl (wireR d t dir track) (outO d t 2)
theorem wireO_succ (d : Dev) (t dir track : Int) (j : Nat) : wireO d t dir track (j + 1) = wireR d t dir track (wireO d t dir track j) j := by unfold wireO; rw [List.range_succ, List.foldl_append]; rfl
theorem two_rng {a b T : Int} (h1 : 0 ≤ a ∧ a ≤ T - 1) (h2 : 0 ≤ b ∧ b ≤ T - 1) (j : Nat) (hj : j < 2) : 0 ≤ [a, b].getD j 0 ∧ [a, b].getD j 0 ≤ T - 1 := by
  rcases j with _ | _ | j
  · exact h1
  · exact h2
  · omega
theorem mod_rng {a T : Int} (hT : 1 ≤ T) : 0 ≤ a % T ∧ a % T ≤ T - 1 := ⟨Int.emod_nonneg _ (by omega), by have := Int.emod_lt_of_pos a (show 0 < T by omega); omega⟩
set_option maxHeartbeats 4000000 in
set_option maxRecDepth 100000 in
theorem wireSources_ret (d : Dev) (t dir track : Int) (w : World) (hv : devB d = true) (t0 : 0 ≤ t) (t1 : t ≤ d.W * d.H - 1) (r0 : 0 ≤ dir) (r1 : dir ≤ 3) (k0 : 0 ≤ track) (k1_o : track ≤ d.T - 1) :
  Calls Try.prog 99 #[.agg #[.int .i64 d.W, .int .i64 d.H, .int .i64 d.T, .int .i64 d.R], .int .i64 t, .int .i64 dir, .int .i64 track] w (Ret w (fun v' post => post = [rowE 3 1 v' (wireO d t dir track 4).length ((wireO d t dir track 4).map (Value.int .i64))])) := by
 obtain ⟨-, -, ⟨l1, l2⟩, -⟩ := (devB_iff d).1 hv
 have hmr := mod_rng (a := track + 1) l1
 refine calls_hc (N := 69) (args := [.agg #[.int .i64 d.W, .int .i64 d.H, .int .i64 d.T, .int .i64 d.R], .int .i64 t, .int .i64 dir, .int .i64 track]) Try.func99 rfl rfl ?_
 refine hc_less _ (sx 0 rfl (sx 1 rfl (sx 2 rfl (sx 3 rfl (sub_nil _))))) (.refl _) ?_
 refine hc_seq ?_
 refine hc_region ?_
 refine hl_box rfl rfl rfl (rq_box rfl rfl) ?_
 intro b1
 refine hl_v rfl rfl rfl (rv_ev rfl) ?_
 refine hl_less (sx 0 rfl (sx 1 rfl (sx 2 rfl (sx 3 rfl (sx 4 rfl (sx 8 rfl (sub_nil _))))))) (.refl _) ?_
 refine hl_nil ?_
 refine hq_then ?_
 refine hc_seq ?_
 refine hc_region ?_
 refine hl_nilRow 3 1 ?_
 refine hl_v rfl rfl rfl (rv_ev rfl) ?_
 refine hl_less (sx 0 rfl (sx 1 rfl (sx 2 rfl (sx 3 rfl (sx 4 rfl (sx 8 rfl (sx 9 rfl (sub_nil _)))))))) (.refl _) ?_
 refine hl_nil ?_
 refine hq_then ?_
 refine hc_seq ?_
 refine hc_seq ?_
 refine hc_region ?_
 refine hl_v rfl rfl rfl (rv_ev rfl) ?_
 refine hl_less (sx 0 rfl (sx 1 rfl (sx 2 rfl (sx 3 rfl (sx 4 rfl (sx 8 rfl (sx 9 rfl (sx 10 rfl (sub_nil _))))))))) (.refl _) ?_
 refine hl_nil ?_
 refine hq_then ?_
 refine hc_block ?_
 refine hc_loop3 (α := Nat) (β := Value) (γ := List Int) (fun p v xs => [rowE 3 1 v xs.length (xs.map (Value.int .i64)), boxE b1 #[.int .i64 d.W, .int .i64 d.H, .int .i64 d.T, .int .i64 d.R] 25]) (fun p v xs => [(0, .agg #[.int .i64 d.W, .int .i64 d.H, .int .i64 d.T, .int .i64 d.R]), (1, .int .i64 t), (2, .int .i64 dir), (3, .int .i64 track), (4, .pointer (some ⟨b1, 0, none⟩)), (8, .slice none 0 0), (9, v), (10, .int .i64 (p : Int))]) (fun p v xs => p ≤ 2 ∧ xs = outO d t p ∧ xs.length ≤ p) (fun p v xs => 3 - p) 0 _ [] ⟨by omega, rfl, by simp⟩ (sx 0 rfl (sx 1 rfl (sx 2 rfl (sx 3 rfl (sx 4 rfl (sx 8 rfl (sx 9 rfl (sx 10 rfl (sub_nil _))))))))) ((.cons_cons _ (.cons_cons _ .slnil))) ?_
 intro p v xs hi3
 obtain ⟨hp, hx, hxl⟩ := hi3
 refine hc_seq ?_
 refine hc_seq ?_
 refine hc_region ?_
 refine hl_v rfl rfl rfl (rv_ev rfl) ?_
 refine hl_lss rfl rfl rfl rfl rfl rfl (fun h4 => ?_) (fun h4 => ?_)
 ·
  refine hl_less (sx 0 rfl (sx 1 rfl (sx 2 rfl (sx 3 rfl (sx 4 rfl (sx 8 rfl (sx 9 rfl (sx 10 rfl (sx 17 rfl (sub_nil _)))))))))) (.refl _) ?_
  refine hl_nil ?_
  refine hq_then ?_
  refine hc_true rfl ?_
  refine hc_skip ?_
  refine hq_then ?_
  refine hc_seq ?_
  refine hc_block ?_
  refine hc_seq ?_
  refine hc_region ?_
  refine hl_v rfl rfl rfl (rv_loadN (cs := [.int .i64 d.W, .int .i64 d.H, .int .i64 d.T, .int .i64 d.R]) rfl (by kernel_rfl) (by kernel_rfl) rfl rfl (box_part 1 rfl 0 rfl)) ?_
  refine hl_v rfl rfl rfl (rv_ev rfl) ?_
  refine hl_v rfl rfl rfl (rv_ev rfl) ?_
  refine hl_callV rfl rfl rfl (rq_call (by kernel_rfl) rfl (fun w hm => ret_ans (outPin_ans d _ _ w (by omega) (by omega)))) ?_
  refine hl_v rfl rfl rfl (rv_ev rfl) ?_
  refine hl_less (sx 0 rfl (sx 1 rfl (sx 2 rfl (sx 3 rfl (sx 4 rfl (sx 8 rfl (sx 9 rfl (sx 10 rfl (sx 11 rfl (sx 17 rfl (sub_nil _))))))))))) (.refl _) ?_
  refine hl_nil ?_
  refine hq_then ?_
  refine hc_seq ?_
  refine hc_region ?_
  refine hl_v rfl rfl rfl (rv_ev rfl) ?_
  refine hl_geq rfl rfl rfl rfl rfl rfl (fun h5 => ?_) (fun h5 => ?_)
  ·
   refine hl_less (sx 0 rfl (sx 1 rfl (sx 2 rfl (sx 3 rfl (sx 4 rfl (sx 8 rfl (sx 9 rfl (sx 10 rfl (sx 11 rfl (sx 17 rfl (sx 25 rfl (sub_nil _)))))))))))) (.refl _) ?_
   refine hl_nil ?_
   refine hq_then ?_
   refine hc_true rfl ?_
   refine hc_region ?_
   refine hl_v rfl rfl rfl (rv_ev rfl) ?_
   refine hl_v rfl rfl rfl (rv_ev rfl) ?_
   refine hl_callM (R := (fun v' p' => p' = rowE 3 1 v' (insI xs (outPinI d t (p : Int))).length ((insI xs (outPinI d t (p : Int))).map (Value.int .i64)))) 0 rfl rfl (by kernel_rfl) rfl rfl (fun l' w hm => insertInt_mut _ xs _ (by omega) w hm) ?_
   intro v6 p7 hR8
   subst hR8
   refine hl_eqL (l' := [rowE 3 1 v6 ((insI xs (outPinI d t (p : Int))).length) ((insI xs (outPinI d t (p : Int))).map (Value.int .i64)), boxE b1 #[.int .i64 d.W, .int .i64 d.H, .int .i64 d.T, .int .i64 d.R] 25]) rfl ?_
   refine hl_v rfl rfl rfl (rv_ev rfl) ?_
   refine hl_less (sx 0 rfl (sx 1 rfl (sx 2 rfl (sx 3 rfl (sx 4 rfl (sx 8 rfl (sx 9 rfl (sx 10 rfl (sx 11 rfl (sx 17 rfl (sx 25 rfl (sub_nil _)))))))))))) (.refl _) ?_
   refine hl_nil ?_
   refine hq_block_normal ?_
   refine hq_then ?_
   refine hc_region ?_
   refine hl_v rfl rfl rfl (rv_ev rfl) ?_
   refine hl_v rfl rfl rfl (rv_add rfl rfl rfl (by constructor <;> omega)) ?_
   refine hl_v rfl rfl rfl (rv_ev rfl) ?_
   refine hl_less (sx 0 rfl (sx 1 rfl (sx 2 rfl (sx 3 rfl (sx 4 rfl (sx 8 rfl (sx 9 rfl (sx 10 rfl (sx 11 rfl (sx 17 rfl (sx 25 rfl (sub_nil _)))))))))))) (.refl _) ?_
   refine hl_nil ?_
   have hil := insI_len xs (outPinI d t (p : Int))
   exact hq_round3 (p + 1) _ _ ⟨by omega, by rw [outO_succ, ← hx]; unfold outS; first | rw [if_pos (by assumption)] | rw [if_neg (by omega)], by omega⟩ (by omega) (sx 0 rfl (sx 1 rfl (sx 2 rfl (sx 3 rfl (sx 4 rfl (sx 8 rfl (sx 9 rfl (sx 10 rfl (sub_nil _))))))))) ((.cons_cons _ (.cons_cons _ .slnil)))
  ·
   refine hl_less (sx 0 rfl (sx 1 rfl (sx 2 rfl (sx 3 rfl (sx 4 rfl (sx 8 rfl (sx 9 rfl (sx 10 rfl (sx 11 rfl (sx 17 rfl (sx 25 rfl (sub_nil _)))))))))))) (.refl _) ?_
   refine hl_nil ?_
   refine hq_then ?_
   refine hc_false rfl ?_
   refine hc_skip ?_
   refine hq_block_normal ?_
   refine hq_then ?_
   refine hc_region ?_
   refine hl_v rfl rfl rfl (rv_ev rfl) ?_
   refine hl_v rfl rfl rfl (rv_add rfl rfl rfl (by constructor <;> omega)) ?_
   refine hl_v rfl rfl rfl (rv_ev rfl) ?_
   refine hl_less (sx 0 rfl (sx 1 rfl (sx 2 rfl (sx 3 rfl (sx 4 rfl (sx 8 rfl (sx 9 rfl (sx 10 rfl (sx 11 rfl (sx 17 rfl (sx 25 rfl (sub_nil _)))))))))))) (.refl _) ?_
   refine hl_nil ?_
   have hil := insI_len xs (outPinI d t (p : Int))
   exact hq_round3 (p + 1) _ _ ⟨by omega, by rw [outO_succ, ← hx]; unfold outS; first | rw [if_pos (by assumption)] | rw [if_neg (by omega)], by omega⟩ (by omega) (sx 0 rfl (sx 1 rfl (sx 2 rfl (sx 3 rfl (sx 4 rfl (sx 8 rfl (sx 9 rfl (sx 10 rfl (sub_nil _))))))))) ((.cons_cons _ (.cons_cons _ .slnil)))
 ·
  refine hl_less (sx 0 rfl (sx 1 rfl (sx 2 rfl (sx 3 rfl (sx 4 rfl (sx 8 rfl (sx 9 rfl (sx 10 rfl (sx 17 rfl (sub_nil _)))))))))) (.refl _) ?_
  refine hl_nil ?_
  refine hq_then ?_
  refine hc_false rfl ?_
  refine hc_exit ?_
  refine hq_then_exit ?_
  refine hq_then_exit ?_
  refine hq_block_exit ?_
  refine hq_then ?_
  refine hc_seq ?_
  refine hc_seq ?_
  refine hc_region ?_
  refine hl_v rfl rfl rfl (rv_ev rfl) ?_
  refine hl_less (sx 0 rfl (sx 1 rfl (sx 2 rfl (sx 3 rfl (sx 4 rfl (sx 8 rfl (sx 9 rfl (sx 10 rfl (sx 12 rfl (sx 17 rfl (sub_nil _))))))))))) (.refl _) ?_
  refine hl_nil ?_
  refine hq_then ?_
  refine hc_block ?_
  refine hc_loop3 (α := Nat) (β := Value) (γ := List Int) (fun r u ys => [rowE 3 1 u ys.length (ys.map (Value.int .i64)), boxE b1 #[.int .i64 d.W, .int .i64 d.H, .int .i64 d.T, .int .i64 d.R] 25]) (fun r u ys => [(0, .agg #[.int .i64 d.W, .int .i64 d.H, .int .i64 d.T, .int .i64 d.R]), (1, .int .i64 t), (2, .int .i64 dir), (3, .int .i64 track), (4, .pointer (some ⟨b1, 0, none⟩)), (8, .slice none 0 0), (9, u), (10, .int .i64 (p : Int)), (12, .int .i64 (r : Int)), (17, .bool false)]) (fun r u ys => r ≤ 4 ∧ ys = wireO d t dir track r ∧ ys.length ≤ 2 + 2 * r) (fun r u ys => 5 - r) 0 _ xs ⟨by omega, by rw [hx, show p = 2 by omega]; rfl, by omega⟩ (sx 0 rfl (sx 1 rfl (sx 2 rfl (sx 3 rfl (sx 4 rfl (sx 8 rfl (sx 9 rfl (sx 10 rfl (sx 12 rfl (sx 17 rfl (sub_nil _))))))))))) ((.cons_cons _ (.cons_cons _ .slnil))) ?_
  intro r u ys hi9
  obtain ⟨hr, hy, hyl⟩ := hi9
  refine hc_seq ?_
  refine hc_seq ?_
  refine hc_region ?_
  refine hl_v rfl rfl rfl (rv_ev rfl) ?_
  refine hl_lss rfl rfl rfl rfl rfl rfl (fun h10 => ?_) (fun h10 => ?_)
  ·
   refine hl_less (sx 0 rfl (sx 1 rfl (sx 2 rfl (sx 3 rfl (sx 4 rfl (sx 8 rfl (sx 9 rfl (sx 10 rfl (sx 12 rfl (sx 17 rfl (sx 30 rfl (sub_nil _)))))))))))) (.refl _) ?_
   refine hl_nil ?_
   refine hq_then ?_
   refine hc_true rfl ?_
   refine hc_skip ?_
   refine hq_then ?_
   refine hc_seq ?_
   refine hc_block ?_
   refine hc_seq ?_
   refine hc_seq ?_
   refine hc_region ?_
   refine hl_v rfl rfl rfl (rv_ev rfl) ?_
   refine hl_v rfl rfl rfl (rv_ev rfl) ?_
   refine hl_v rfl rfl rfl (rv_add rfl rfl rfl (by constructor <;> omega)) ?_
   refine hl_v rfl rfl rfl (rv_rem rfl rfl rfl (by constructor <;> omega)) ?_
   refine hl_eql rfl rfl rfl rfl rfl rfl (fun h11 => ?_) (fun h11 => ?_)
   ·
    refine hl_less (sx 0 rfl (sx 1 rfl (sx 2 rfl (sx 3 rfl (sx 4 rfl (sx 8 rfl (sx 9 rfl (sx 10 rfl (sx 12 rfl (sx 17 rfl (sx 30 rfl (sx 37 rfl (sub_nil _))))))))))))) (.refl _) ?_
    refine hl_nil ?_
    refine hq_then ?_
    refine hc_true rfl ?_
    refine hc_exit ?_
    refine hq_then_exit ?_
    refine hq_block_exit ?_
    refine hq_then ?_
    refine hc_region ?_
    refine hl_v rfl rfl rfl (rv_ev rfl) ?_
    refine hl_v rfl rfl rfl (rv_add rfl rfl rfl (by constructor <;> omega)) ?_
    refine hl_v rfl rfl rfl (rv_ev rfl) ?_
    refine hl_less (sx 0 rfl (sx 1 rfl (sx 2 rfl (sx 3 rfl (sx 4 rfl (sx 8 rfl (sx 9 rfl (sx 10 rfl (sx 12 rfl (sx 17 rfl (sx 30 rfl (sx 37 rfl (sub_nil _))))))))))))) (.refl _) ?_
    refine hl_nil ?_
    exact hq_round3 (r + 1) _ _ ⟨by omega, by rw [wireO_succ, ← hy]; unfold wireR; rw [if_pos (by omega)], by omega⟩ (by omega) (sx 0 rfl (sx 1 rfl (sx 2 rfl (sx 3 rfl (sx 4 rfl (sx 8 rfl (sx 9 rfl (sx 10 rfl (sx 12 rfl (sx 17 rfl (sub_nil _))))))))))) ((.cons_cons _ (.cons_cons _ .slnil)))
   ·
    refine hl_less (sx 0 rfl (sx 1 rfl (sx 2 rfl (sx 3 rfl (sx 4 rfl (sx 8 rfl (sx 9 rfl (sx 10 rfl (sx 12 rfl (sx 17 rfl (sx 30 rfl (sx 37 rfl (sub_nil _))))))))))))) (.refl _) ?_
    refine hl_nil ?_
    refine hq_then ?_
    refine hc_false rfl ?_
    refine hc_skip ?_
    refine hq_then ?_
    refine hc_seq ?_
    refine hc_region ?_
    refine hl_v rfl rfl rfl (rv_ev rfl) ?_
    refine hl_v rfl rfl rfl (rv_ev rfl) ?_
    refine hl_v rfl rfl rfl (rv_add rfl rfl rfl (by constructor <;> omega)) ?_
    refine hl_v rfl rfl rfl (rv_field (k0 := 2) rfl (by kernel_rfl) rfl) ?_
    refine hl_v rfl rfl rfl (rv_load rfl (by kernel_rfl) rfl (box_cell 1 rfl rfl)) ?_
    refine hl_v rfl rfl rfl (rv_rem rfl rfl rfl (by constructor <;> omega)) ?_
    refine hl_row rfl rfl rfl (rq_buildSlice (z := .int .i64 0) (s := 1) (cs := ([track, (track + 1) % d.T].map (Value.int .i64))) rfl Try.underlying30 (by kernel_rfl) (by decide) rfl (by kernel_rfl) rfl) ?_
    intro g12
    refine hl_v rfl rfl rfl (rv_len rfl Try.underlying30 rfl (rd_row 0 rfl)) ?_
    refine hl_v rfl rfl rfl (rv_ev rfl) ?_
    refine hl_less (sx 0 rfl (sx 1 rfl (sx 2 rfl (sx 3 rfl (sx 4 rfl (sx 8 rfl (sx 9 rfl (sx 10 rfl (sx 12 rfl (sx 17 rfl (sx 30 rfl (sx 37 rfl (sx 44 rfl (sx 45 rfl (sx 46 rfl (sub_nil _)))))))))))))))) (.refl _) ?_
    refine hl_nil ?_
    refine hq_then ?_
    refine hc_block ?_
    refine hc_loop3 (α := Nat) (β := Value) (γ := List Int) (fun j q zs => [rowE 3 1 (.slice (some ⟨g12, 0, none⟩) 2 2) 2 ([track, (track + 1) % d.T].map (Value.int .i64)), rowE 3 1 q zs.length (zs.map (Value.int .i64)), boxE b1 #[.int .i64 d.W, .int .i64 d.H, .int .i64 d.T, .int .i64 d.R] 25]) (fun j q zs => [(0, .agg #[.int .i64 d.W, .int .i64 d.H, .int .i64 d.T, .int .i64 d.R]), (1, .int .i64 t), (2, .int .i64 dir), (3, .int .i64 track), (4, .pointer (some ⟨b1, 0, none⟩)), (8, .slice none 0 0), (9, q), (10, .int .i64 (p : Int)), (12, .int .i64 (r : Int)), (17, .bool false), (30, .bool true), (37, .bool false), (44, .slice (some ⟨g12, 0, none⟩) 2 2), (45, .int .i64 (2 : Int)), (46, .int .i64 (j : Int))]) (fun j q zs => j ≤ 2 ∧ zs = wireK d t r [track, (track + 1) % d.T] ys j ∧ zs.length ≤ ys.length + j) (fun j q zs => 3 - j) 0 _ ys ⟨by omega, rfl, by simp⟩ (sx 0 rfl (sx 1 rfl (sx 2 rfl (sx 3 rfl (sx 4 rfl (sx 8 rfl (sx 9 rfl (sx 10 rfl (sx 12 rfl (sx 17 rfl (sx 30 rfl (sx 37 rfl (sx 44 rfl (sx 45 rfl (sx 46 rfl (sub_nil _)))))))))))))))) ((.cons_cons _ (.cons_cons _ (.cons_cons _ .slnil)))) ?_
    intro j q zs hi13
    obtain ⟨hj, hz, hzl⟩ := hi13
    refine hc_seq ?_
    refine hc_region ?_
    refine hl_lss rfl rfl rfl rfl rfl rfl (fun h14 => ?_) (fun h14 => ?_)
    ·
     refine hl_less (sx 0 rfl (sx 1 rfl (sx 2 rfl (sx 3 rfl (sx 4 rfl (sx 8 rfl (sx 9 rfl (sx 10 rfl (sx 12 rfl (sx 17 rfl (sx 30 rfl (sx 37 rfl (sx 44 rfl (sx 45 rfl (sx 46 rfl (sx 47 rfl (sub_nil _))))))))))))))))) (.refl _) ?_
     refine hl_nil ?_
     refine hq_then ?_
     refine hc_seq ?_
     refine hc_true rfl ?_
     refine hc_skip ?_
     refine hq_then ?_
     refine hc_seq ?_
     refine hc_block ?_
     refine hc_seq ?_
     refine hc_region ?_
     refine hl_v rfl rfl rfl (rv_index (s := 1) rfl Try.underlying30 (by kernel_rfl) rfl rfl (rd_row 0 rfl) (by omega) (by first | omega | (simp only [List.length_set]; omega))) ?_
     refine hl_v rfl rfl rfl (rv_loadEl (u := .int .i64 (([track, (track + 1) % d.T]).getD j 0)) rfl (by kernel_rfl) rfl (rd_row 0 rfl) (ints_at1 (show _ < 2 by first | omega | (simp only [List.length_set]; omega)))) ?_
     have hkr := two_rng (T := d.T) ⟨k0, k1_o⟩ hmr j (by omega)
     refine hl_v rfl rfl rfl (rv_ev rfl) ?_
     refine hl_less (sx 0 rfl (sx 1 rfl (sx 2 rfl (sx 3 rfl (sx 4 rfl (sx 8 rfl (sx 9 rfl (sx 10 rfl (sx 12 rfl (sx 14 rfl (sx 17 rfl (sx 30 rfl (sx 37 rfl (sx 44 rfl (sx 45 rfl (sx 46 rfl (sx 47 rfl (sub_nil _)))))))))))))))))) (.refl _) ?_
     refine hl_nil ?_
     refine hq_then ?_
     refine hc_seq ?_
     refine hc_draw (by kernel_rfl) 8 [0, 1, 2, 3, 4, 5, 6, 7] (List.take 8 _) (List.drop 8 _) [[], [], [], [2], [3], [], [5], [0, 1, 4, 6]] [50, 51, 52, 53, 54, 55, 56, 57] (fun i vs_ v_ p_ => match i with | 0 => v_ = .agg #[.int .i64 d.W, .int .i64 d.H, .int .i64 d.T, .int .i64 d.R] ∧ p_ = [] | 1 => v_ = .int .i64 t ∧ p_ = [] | 2 => v_ = .int .i64 (r : Int) ∧ p_ = [] | 3 => v_ = .int .i64 ((r : Int) + 2) ∧ p_ = [] | 4 => v_ = .int .i64 (((r : Int) + 2) % 4) ∧ p_ = [] | 5 => v_ = .int .i64 (([track, (track + 1) % d.T]).getD j 0) ∧ p_ = [] | 6 => v_ = .int .i64 (1 + (([track, (track + 1) % d.T]).getD j 0) % 2) ∧ p_ = [] | 7 => v_ = .int .i64 (stepI d t (((r : Int) + 2) % 4) (1 + (([track, (track + 1) % d.T]).getD j 0) % 2)) ∧ p_ = [] | _ => True) (List.take_append_drop 8 _).symm (by kernel_rfl) (by kernel_rfl) rfl rfl ?_ ?_
     ·
      refine ⟨?_, ?_, ?_, ?_, ?_, ?_, ?_, ?_, trivial⟩
      ·
       intro vf pf hR
       refine Or.inl ⟨rfl, ?_⟩
       refine rq_less (sx 4 rfl (sub_nil _)) (List.sublist_append_right _ _) ?_
       exact rq_v (rv_loadN (cs := [.int .i64 d.W, .int .i64 d.H, .int .i64 d.T, .int .i64 d.R]) rfl (by kernel_rfl) (by kernel_rfl) rfl rfl (box_part 2 rfl 0 rfl))
      ·
       intro vf pf hR
       refine Or.inl ⟨rfl, ?_⟩
       refine rq_less (sx 1 rfl (sub_nil _)) (List.sublist_append_right _ _) ?_
       exact rq_v (rv_ev rfl)
      ·
       intro vf pf hR
       refine Or.inl ⟨rfl, ?_⟩
       refine rq_less (sx 12 rfl (sub_nil _)) (List.sublist_append_right _ _) ?_
       exact rq_v (rv_ev rfl)
      ·
       intro vf pf hR
       have e2 : (vf 2) = .int .i64 (r : Int) ∧ (pf 2) = [] := hR 2 (by decide)
       refine Or.inl ⟨rfl, ?_⟩
       refine rq_less (sx 52 (congrArg some e2.1) (sub_nil _)) (List.sublist_append_right _ _) ?_
       exact rq_v (rv_add rfl rfl rfl (by constructor <;> omega))
      ·
       intro vf pf hR
       have e3 : (vf 3) = .int .i64 ((r : Int) + 2) ∧ (pf 3) = [] := hR 3 (by decide)
       refine Or.inl ⟨rfl, ?_⟩
       refine rq_less (sx 53 (congrArg some e3.1) (sub_nil _)) (List.sublist_append_right _ _) ?_
       exact rq_v (rv_rem rfl rfl rfl (by constructor <;> omega))
      ·
       intro vf pf hR
       refine Or.inl ⟨rfl, ?_⟩
       refine rq_less (sx 14 rfl (sub_nil _)) (List.sublist_append_right _ _) ?_
       exact rq_v (rv_ev rfl)
      ·
       intro vf pf hR
       have e5 : (vf 5) = .int .i64 (([track, (track + 1) % d.T]).getD j 0) ∧ (pf 5) = [] := hR 5 (by decide)
       refine Or.inl ⟨rfl, ?_⟩
       refine rq_less (sx 55 (congrArg some e5.1) (sub_nil _)) (List.sublist_append_right _ _) ?_
       exact (rq_call (by kernel_rfl) rfl (fun w hm => ret_ans (ans_of (wireLen_any _ (by omega) (by omega) w))))
      ·
       intro vf pf hR
       have e0 : (vf 0) = .agg #[.int .i64 d.W, .int .i64 d.H, .int .i64 d.T, .int .i64 d.R] ∧ (pf 0) = [] := hR 0 (by decide)
       have e1 : (vf 1) = .int .i64 t ∧ (pf 1) = [] := hR 1 (by decide)
       have e4 : (vf 4) = .int .i64 (((r : Int) + 2) % 4) ∧ (pf 4) = [] := hR 4 (by decide)
       have e6 : (vf 6) = .int .i64 (1 + (([track, (track + 1) % d.T]).getD j 0) % 2) ∧ (pf 6) = [] := hR 6 (by decide)
       refine Or.inl ⟨rfl, ?_⟩
       refine rq_less (sx 50 (congrArg some e0.1) (sx 51 (congrArg some e1.1) (sx 54 (congrArg some e4.1) (sx 56 (congrArg some e6.1) (sub_nil _))))) (List.sublist_append_right _ _) ?_
       exact (rq_call (by kernel_rfl) rfl (fun w hm => ret_ans (tileStep_any d _ _ _ hv (by omega) (by omega) (by omega) (by omega) (by omega) (by omega) w)))
     ·
      intro vf pf hR
      have e7 : (vf 7) = .int .i64 (stepI d t (((r : Int) + 2) % 4) (1 + (([track, (track + 1) % d.T]).getD j 0) % 2)) ∧ (pf 7) = [] := hR 7 (by decide)
      refine hl_less (l' := [rowE 3 1 (.slice (some ⟨g12, 0, none⟩) 2 2) 2 ([track, (track + 1) % d.T].map (Value.int .i64)), rowE 3 1 q zs.length (zs.map (Value.int .i64)), boxE b1 #[.int .i64 d.W, .int .i64 d.H, .int .i64 d.T, .int .i64 d.R] 25]) (sx 0 rfl (sx 1 rfl (sx 2 rfl (sx 3 rfl (sx 4 rfl (sx 8 rfl (sx 9 rfl (sx 10 rfl (sx 12 rfl (sx 14 rfl (sx 17 rfl (sx 30 rfl (sx 37 rfl (sx 44 rfl (sx 45 rfl (sx 46 rfl (sx 47 rfl (sx 57 (congrArg some e7.1) (sub_nil _))))))))))))))))))) (List.sublist_append_right _ _) ?_
      simp only [List.drop_succ_cons, List.drop_zero]
      refine hl_v rfl rfl rfl (rv_ev rfl) ?_
      refine hl_less (sx 0 rfl (sx 1 rfl (sx 2 rfl (sx 3 rfl (sx 4 rfl (sx 8 rfl (sx 9 rfl (sx 10 rfl (sx 12 rfl (sx 14 rfl (sx 15 rfl (sx 17 rfl (sx 30 rfl (sx 37 rfl (sx 44 rfl (sx 45 rfl (sx 46 rfl (sx 47 rfl (sub_nil _))))))))))))))))))) (.refl _) ?_
      refine hl_nil ?_
      refine hq_then ?_
      refine hc_seq ?_
      refine hc_region ?_
      refine hl_v rfl rfl rfl (rv_ev rfl) ?_
      refine hl_geq rfl rfl rfl rfl rfl rfl (fun h15 => ?_) (fun h15 => ?_)
      ·
       refine hl_less (sx 0 rfl (sx 1 rfl (sx 2 rfl (sx 3 rfl (sx 4 rfl (sx 8 rfl (sx 9 rfl (sx 10 rfl (sx 12 rfl (sx 14 rfl (sx 15 rfl (sx 17 rfl (sx 30 rfl (sx 37 rfl (sx 44 rfl (sx 45 rfl (sx 46 rfl (sx 47 rfl (sx 59 rfl (sub_nil _)))))))))))))))))))) (.refl _) ?_
       refine hl_nil ?_
       refine hq_then ?_
       refine hc_true rfl ?_
       refine hc_region ?_
       refine hl_v rfl rfl rfl (rv_ev rfl) ?_
       refine hl_v rfl rfl rfl (rv_loadN (cs := [.int .i64 d.W, .int .i64 d.H, .int .i64 d.T, .int .i64 d.R]) rfl (by kernel_rfl) (by kernel_rfl) rfl rfl (box_part 2 rfl 0 rfl)) ?_
       refine hl_v rfl rfl rfl (rv_ev rfl) ?_
       refine hl_v rfl rfl rfl (rv_ev rfl) ?_
       refine hl_v rfl rfl rfl (rv_ev rfl) ?_
       refine hl_callV rfl rfl rfl (rq_call (by kernel_rfl) rfl (fun w hm => ret_ans (wireNode_at d _ _ _ (step_tOk hv (by omega)) (by omega) (by omega) (by omega) (by omega) w))) ?_
       refine hl_callM (R := (fun v' p' => p' = rowE 3 1 v' (insI zs (wireNodeI d (stepI d t (((r : Int) + 2) % 4) (1 + (([track, (track + 1) % d.T]).getD j 0) % 2)) (r : Int) (([track, (track + 1) % d.T]).getD j 0))).length ((insI zs (wireNodeI d (stepI d t (((r : Int) + 2) % 4) (1 + (([track, (track + 1) % d.T]).getD j 0) % 2)) (r : Int) (([track, (track + 1) % d.T]).getD j 0))).map (Value.int .i64)))) 1 rfl rfl (by kernel_rfl) rfl rfl (fun l' w hm => insertInt_mut _ zs _ (by omega) w hm) ?_
       intro v16 p17 hR18
       subst hR18
       refine hl_eqL (l' := [rowE 3 1 (.slice (some ⟨g12, 0, none⟩) 2 2) 2 ([track, (track + 1) % d.T].map (Value.int .i64)), rowE 3 1 v16 ((insI zs (wireNodeI d (stepI d t (((r : Int) + 2) % 4) (1 + (([track, (track + 1) % d.T]).getD j 0) % 2)) (r : Int) (([track, (track + 1) % d.T]).getD j 0))).length) ((insI zs (wireNodeI d (stepI d t (((r : Int) + 2) % 4) (1 + (([track, (track + 1) % d.T]).getD j 0) % 2)) (r : Int) (([track, (track + 1) % d.T]).getD j 0))).map (Value.int .i64)), boxE b1 #[.int .i64 d.W, .int .i64 d.H, .int .i64 d.T, .int .i64 d.R] 25]) rfl ?_
       refine hl_v rfl rfl rfl (rv_ev rfl) ?_
       refine hl_less (sx 0 rfl (sx 1 rfl (sx 2 rfl (sx 3 rfl (sx 4 rfl (sx 8 rfl (sx 9 rfl (sx 10 rfl (sx 12 rfl (sx 14 rfl (sx 15 rfl (sx 17 rfl (sx 30 rfl (sx 37 rfl (sx 44 rfl (sx 45 rfl (sx 46 rfl (sx 47 rfl (sx 59 rfl (sub_nil _)))))))))))))))))))) (.refl _) ?_
       refine hl_nil ?_
       refine hq_block_normal ?_
       refine hq_then ?_
       refine hc_region ?_
       refine hl_v rfl rfl rfl (rv_add rfl rfl rfl (by constructor <;> omega)) ?_
       refine hl_v rfl rfl rfl (rv_ev rfl) ?_
       refine hl_less (sx 0 rfl (sx 1 rfl (sx 2 rfl (sx 3 rfl (sx 4 rfl (sx 8 rfl (sx 9 rfl (sx 10 rfl (sx 12 rfl (sx 14 rfl (sx 15 rfl (sx 17 rfl (sx 30 rfl (sx 37 rfl (sx 44 rfl (sx 45 rfl (sx 46 rfl (sx 47 rfl (sx 59 rfl (sub_nil _)))))))))))))))))))) (.refl _) ?_
       refine hl_nil ?_
       have hil := insI_len zs (wireNodeI d (stepI d t (((r : Int) + 2) % 4) (1 + [track, (track + 1) % d.T].getD j 0 % 2)) r ([track, (track + 1) % d.T].getD j 0))
       exact hq_round3 (j + 1) _ _ ⟨by omega, by rw [wireK_succ _ _ _ _ _ _ (show j < [track, (track + 1) % d.T].length by simp; omega), ← hz]; unfold wireW; first | rw [if_pos (by assumption)]; done | rw [if_neg (by omega)], by omega⟩ (by omega) (sx 0 rfl (sx 1 rfl (sx 2 rfl (sx 3 rfl (sx 4 rfl (sx 8 rfl (sx 9 rfl (sx 10 rfl (sx 12 rfl (sx 17 rfl (sx 30 rfl (sx 37 rfl (sx 44 rfl (sx 45 rfl (sx 46 rfl (sub_nil _)))))))))))))))) ((.cons_cons _ (.cons_cons _ (.cons_cons _ .slnil))))
      ·
       refine hl_less (sx 0 rfl (sx 1 rfl (sx 2 rfl (sx 3 rfl (sx 4 rfl (sx 8 rfl (sx 9 rfl (sx 10 rfl (sx 12 rfl (sx 14 rfl (sx 15 rfl (sx 17 rfl (sx 30 rfl (sx 37 rfl (sx 44 rfl (sx 45 rfl (sx 46 rfl (sx 47 rfl (sx 59 rfl (sub_nil _)))))))))))))))))))) (.refl _) ?_
       refine hl_nil ?_
       refine hq_then ?_
       refine hc_false rfl ?_
       refine hc_skip ?_
       refine hq_block_normal ?_
       refine hq_then ?_
       refine hc_region ?_
       refine hl_v rfl rfl rfl (rv_add rfl rfl rfl (by constructor <;> omega)) ?_
       refine hl_v rfl rfl rfl (rv_ev rfl) ?_
       refine hl_less (sx 0 rfl (sx 1 rfl (sx 2 rfl (sx 3 rfl (sx 4 rfl (sx 8 rfl (sx 9 rfl (sx 10 rfl (sx 12 rfl (sx 14 rfl (sx 15 rfl (sx 17 rfl (sx 30 rfl (sx 37 rfl (sx 44 rfl (sx 45 rfl (sx 46 rfl (sx 47 rfl (sx 59 rfl (sub_nil _)))))))))))))))))))) (.refl _) ?_
       refine hl_nil ?_
       have hil := insI_len zs (wireNodeI d (stepI d t (((r : Int) + 2) % 4) (1 + [track, (track + 1) % d.T].getD j 0 % 2)) r ([track, (track + 1) % d.T].getD j 0))
       exact hq_round3 (j + 1) _ _ ⟨by omega, by rw [wireK_succ _ _ _ _ _ _ (show j < [track, (track + 1) % d.T].length by simp; omega), ← hz]; unfold wireW; first | rw [if_pos (by assumption)]; done | rw [if_neg (by omega)], by omega⟩ (by omega) (sx 0 rfl (sx 1 rfl (sx 2 rfl (sx 3 rfl (sx 4 rfl (sx 8 rfl (sx 9 rfl (sx 10 rfl (sx 12 rfl (sx 17 rfl (sx 30 rfl (sx 37 rfl (sx 44 rfl (sx 45 rfl (sx 46 rfl (sub_nil _)))))))))))))))) ((.cons_cons _ (.cons_cons _ (.cons_cons _ .slnil))))
    ·
     refine hl_less (sx 0 rfl (sx 1 rfl (sx 2 rfl (sx 3 rfl (sx 4 rfl (sx 8 rfl (sx 9 rfl (sx 10 rfl (sx 12 rfl (sx 17 rfl (sx 30 rfl (sx 37 rfl (sx 44 rfl (sx 45 rfl (sx 46 rfl (sx 47 rfl (sub_nil _))))))))))))))))) (.refl _) ?_
     refine hl_nil ?_
     refine hq_then ?_
     refine hc_seq ?_
     refine hc_false rfl ?_
     refine hc_exit ?_
     refine hq_then_exit ?_
     refine hq_then_exit ?_
     refine hq_block_exit ?_
     refine hq_block_normal ?_
     refine hq_then ?_
     refine hc_region ?_
     refine hl_v rfl rfl rfl (rv_ev rfl) ?_
     refine hl_v rfl rfl rfl (rv_add rfl rfl rfl (by constructor <;> omega)) ?_
     refine hl_v rfl rfl rfl (rv_ev rfl) ?_
     refine hl_less (sx 0 rfl (sx 1 rfl (sx 2 rfl (sx 3 rfl (sx 4 rfl (sx 8 rfl (sx 9 rfl (sx 10 rfl (sx 12 rfl (sx 17 rfl (sx 30 rfl (sx 37 rfl (sx 44 rfl (sx 45 rfl (sx 46 rfl (sx 47 rfl (sub_nil _))))))))))))))))) (.refl _) ?_
     refine hl_nil ?_
     exact hq_round3 (r + 1) _ _ ⟨by omega, by rw [wireO_succ, ← hy]; unfold wireR; rw [if_neg (by omega), hz]; congr 1; omega, by omega⟩ (by omega) (sx 0 rfl (sx 1 rfl (sx 2 rfl (sx 3 rfl (sx 4 rfl (sx 8 rfl (sx 9 rfl (sx 10 rfl (sx 12 rfl (sx 17 rfl (sub_nil _))))))))))) ((.cons _ (.cons_cons _ (.cons_cons _ .slnil))))
  ·
   refine hl_less (sx 0 rfl (sx 1 rfl (sx 2 rfl (sx 3 rfl (sx 4 rfl (sx 8 rfl (sx 9 rfl (sx 10 rfl (sx 12 rfl (sx 17 rfl (sx 30 rfl (sub_nil _)))))))))))) (.refl _) ?_
   refine hl_nil ?_
   refine hq_then ?_
   refine hc_false rfl ?_
   refine hc_exit ?_
   refine hq_then_exit ?_
   refine hq_then_exit ?_
   refine hq_block_exit ?_
   refine hq_then ?_
   refine hc_seq ?_
   refine hc_region ?_
   refine hl_v rfl rfl rfl (rv_ev rfl) ?_
   refine hl_v rfl rfl rfl (rv_ev rfl) ?_
   refine hl_less (sx 0 rfl (sx 1 rfl (sx 2 rfl (sx 3 rfl (sx 4 rfl (sx 8 rfl (sx 9 rfl (sx 10 rfl (sx 12 rfl (sx 17 rfl (sx 30 rfl (sub_nil _)))))))))))) (.refl _) ?_
   refine hl_nil ?_
   refine hq_then ?_
   refine hc_ret ?_
   exact hq_retR (post := [rowE 3 1 u ys.length (ys.map (Value.int .i64))]) rfl rfl ((.cons_cons _ (.cons _ .slnil))) (by rw [hy, show r = 4 by omega])
open Go.RowKit
def srcI (d : Dev) (n : Int) : List Int := if nodeOkI d n = true then (if n % perI d < 5 then pinO d (n / perI d) (n % perI d) 4 else if n % perI d < 7 then [] else wireO d (n / perI d) ((n % perI d - 7) / d.T) ((n % perI d - 7) % d.T) 4) else []
theorem nodeOk_rng {d : Dev} {n : Int} (h : nodeOkI d n = true) : devB d = true ∧ 0 ≤ n ∧ n ≤ allI d - 1 := by
  unfold nodeOkI at h
  rw [Bool.and_eq_true, Bool.and_eq_true] at h
  exact ⟨h.1.1, (inR_iff _ _ _).1 h.1.2⟩
set_option maxHeartbeats 4000000 in
set_option maxRecDepth 100000 in
theorem implSources_ret (d : Dev) (n : Int) (w : World)  :
  Calls Try.prog 43 #[.agg #[.int .i64 d.W, .int .i64 d.H, .int .i64 d.T, .int .i64 d.R], .int .i64 n] w (Ret w (fun v' post => post = [rowE 3 1 v' (srcI d n).length ((srcI d n).map (Value.int .i64))])) := by
 refine calls_hc (N := 44) (args := [.agg #[.int .i64 d.W, .int .i64 d.H, .int .i64 d.T, .int .i64 d.R], .int .i64 n]) Try.func43 rfl rfl ?_
 refine hc_less _ (sx 0 rfl (sx 1 rfl (sub_nil _))) (.refl _) ?_
 refine hc_seq ?_
 refine hc_region ?_
 refine hl_box rfl rfl rfl (rq_box rfl rfl) ?_
 intro b1
 refine hl_nilRow 3 1 ?_
 refine hl_v rfl rfl rfl (rv_ev rfl) ?_
 refine hl_less (sx 0 rfl (sx 1 rfl (sx 2 rfl (sx 4 rfl (sub_nil _))))) (.refl _) ?_
 refine hl_nil ?_
 refine hq_then ?_
 refine hc_seq ?_
 refine hc_seq ?_
 refine hc_region ?_
 refine hl_v rfl rfl rfl (rv_loadN (cs := [.int .i64 d.W, .int .i64 d.H, .int .i64 d.T, .int .i64 d.R]) rfl (by kernel_rfl) (by kernel_rfl) rfl rfl (box_part 1 rfl 0 rfl)) ?_
 refine hl_v rfl rfl rfl (rv_ev rfl) ?_
 refine hl_callV rfl rfl rfl (rq_call (by kernel_rfl) rfl (fun w hm => ret_ans (implRouteNodeOk_any d _ w))) ?_
 refine hl_bool (fun h3 => ?_) (fun h3 => ?_)
 ·
  obtain ⟨hv, n0, n1⟩ := nodeOk_rng h3
  obtain ⟨p0, p1, p2, p3, p4⟩ := place_rng hv n0 n1
  obtain ⟨m1, m2⟩ := all_rng hv
  refine hl_v rfl rfl rfl (rv_ev rfl) ?_
  refine hl_less (sx 0 rfl (sx 1 rfl (sx 2 rfl (sx 4 rfl (sx 14 rfl (sub_nil _)))))) (.refl _) ?_
  refine hl_nil ?_
  refine hq_then ?_
  refine hc_false rfl ?_
  refine hc_skip ?_
  refine hq_then ?_
  refine hc_seq ?_
  refine hc_region ?_
  refine hl_v rfl rfl rfl (rv_loadN (cs := [.int .i64 d.W, .int .i64 d.H, .int .i64 d.T, .int .i64 d.R]) rfl (by kernel_rfl) (by kernel_rfl) rfl rfl (box_part 1 rfl 0 rfl)) ?_
  refine hl_v rfl rfl rfl (rv_ev rfl) ?_
  refine hl_callV rfl rfl rfl (rq_call (by kernel_rfl) rfl (fun w hm => ret_ans (nodePlace_any d _ hv n0 (by omega) w))) ?_
  refine hl_v rfl rfl rfl (rv_ev rfl) ?_
  refine hl_v rfl rfl rfl (rv_ev rfl) ?_
  refine hl_v rfl rfl rfl (rv_ev rfl) ?_
  refine hl_v rfl rfl rfl (rv_ev rfl) ?_
  refine hl_v rfl rfl rfl (rv_ev rfl) ?_
  refine hl_less (sx 0 rfl (sx 1 rfl (sx 2 rfl (sx 4 rfl (sx 5 rfl (sx 6 rfl (sx 14 rfl (sub_nil _)))))))) (.refl _) ?_
  refine hl_nil ?_
  refine hq_then ?_
  refine hc_seq ?_
  refine hc_block ?_
  refine hc_seq ?_
  refine hc_region ?_
  refine hl_v rfl rfl rfl (rv_ev rfl) ?_
  refine hl_lss rfl rfl rfl rfl rfl rfl (fun h4 => ?_) (fun h4 => ?_)
  ·
   refine hl_v rfl rfl rfl (rv_ev rfl) ?_
   refine hl_less (sx 0 rfl (sx 1 rfl (sx 2 rfl (sx 4 rfl (sx 5 rfl (sx 6 rfl (sx 14 rfl (sx 21 rfl (sub_nil _))))))))) (.refl _) ?_
   refine hl_nil ?_
   refine hq_then ?_
   refine hc_true rfl ?_
   refine hc_seq ?_
   refine hc_region ?_
   refine hl_v rfl rfl rfl (rv_loadN (cs := [.int .i64 d.W, .int .i64 d.H, .int .i64 d.T, .int .i64 d.R]) rfl (by kernel_rfl) (by kernel_rfl) rfl rfl (box_part 1 rfl 0 rfl)) ?_
   refine hl_v rfl rfl rfl (rv_ev rfl) ?_
   refine hl_v rfl rfl rfl (rv_ev rfl) ?_
   refine hl_q rfl rfl rfl (rq_call (by kernel_rfl) rfl (fun w hm => pinSources_ret d _ _ w hv p0 (by omega) (by omega) (by omega))) ?_
   intro v5 p6 hR7
   subst hR7
   refine hl_v rfl rfl rfl (rv_ev rfl) ?_
   refine hl_less (sx 0 rfl (sx 1 rfl (sx 2 rfl (sx 4 rfl (sx 5 rfl (sx 6 rfl (sx 14 rfl (sx 21 rfl (sub_nil _))))))))) (.refl _) ?_
   refine hl_nil ?_
   refine hq_then ?_
   refine hc_ret ?_
   refine hq_block_ret ?_
   refine hq_then_ret ?_
   exact hq_retR (post := [rowE 3 1 v5 ((pinO d (n / perI d) (n % perI d) 4).length) ((pinO d (n / perI d) (n % perI d) 4).map (Value.int .i64))]) rfl rfl ((.cons_cons _ (.cons _ (.cons _ .slnil)))) (by unfold srcI; (first | (rw [if_pos (by assumption)]; first | rw [if_pos (by omega)] | rw [if_neg (by omega), if_pos (by omega)] | rw [if_neg (by omega), if_neg (by omega)]) | rw [if_neg (by simp [*])]) <;> rfl)
  ·
   refine hl_v rfl rfl rfl (rv_ev rfl) ?_
   refine hl_less (sx 0 rfl (sx 1 rfl (sx 2 rfl (sx 4 rfl (sx 5 rfl (sx 6 rfl (sx 14 rfl (sx 21 rfl (sub_nil _))))))))) (.refl _) ?_
   refine hl_nil ?_
   refine hq_then ?_
   refine hc_false rfl ?_
   refine hc_seq ?_
   refine hc_region ?_
   refine hl_v rfl rfl rfl (rv_ev rfl) ?_
   refine hl_lss rfl rfl rfl rfl rfl rfl (fun h8 => ?_) (fun h8 => ?_)
   ·
    refine hl_v rfl rfl rfl (rv_ev rfl) ?_
    refine hl_less (sx 0 rfl (sx 1 rfl (sx 2 rfl (sx 4 rfl (sx 5 rfl (sx 6 rfl (sx 14 rfl (sx 21 rfl (sx 28 rfl (sub_nil _)))))))))) (.refl _) ?_
    refine hl_nil ?_
    refine hq_then ?_
    refine hc_true rfl ?_
    refine hc_seq ?_
    refine hc_region ?_
    refine hl_nilRow 3 1 ?_
    refine hl_v rfl rfl rfl (rv_ev rfl) ?_
    refine hl_less (sx 0 rfl (sx 1 rfl (sx 2 rfl (sx 4 rfl (sx 5 rfl (sx 6 rfl (sx 14 rfl (sx 21 rfl (sx 28 rfl (sub_nil _)))))))))) (.refl _) ?_
    refine hl_nil ?_
    refine hq_then ?_
    refine hc_ret ?_
    refine hq_block_ret ?_
    refine hq_then_ret ?_
    exact hq_retR (post := [rowE 3 1 (.slice none 0 0) 0 ([])]) rfl rfl ((.cons_cons _ (.cons _ (.cons _ .slnil)))) (by unfold srcI; (first | (rw [if_pos (by assumption)]; first | rw [if_pos (by omega)] | rw [if_neg (by omega), if_pos (by omega)] | rw [if_neg (by omega), if_neg (by omega)]) | rw [if_neg (by simp [*])]) <;> rfl)
   ·
    refine hl_v rfl rfl rfl (rv_ev rfl) ?_
    refine hl_less (sx 0 rfl (sx 1 rfl (sx 2 rfl (sx 4 rfl (sx 5 rfl (sx 6 rfl (sx 14 rfl (sx 21 rfl (sx 28 rfl (sub_nil _)))))))))) (.refl _) ?_
    refine hl_nil ?_
    refine hq_then ?_
    refine hc_false rfl ?_
    refine hc_skip ?_
    refine hq_block_normal ?_
    refine hq_then ?_
    refine hc_seq ?_
    refine hc_region ?_
    refine hl_v rfl rfl rfl (rv_loadN (cs := [.int .i64 d.W, .int .i64 d.H, .int .i64 d.T, .int .i64 d.R]) rfl (by kernel_rfl) (by kernel_rfl) rfl rfl (box_part 1 rfl 0 rfl)) ?_
    refine hl_v rfl rfl rfl (rv_ev rfl) ?_
    refine hl_callV rfl rfl rfl (rq_call (by kernel_rfl) rfl (fun w hm => ret_ans (wireOf_wire d _ hv n0 n1 (by omega) w))) ?_
    refine hl_v rfl rfl rfl (rv_ev rfl) ?_
    refine hl_v rfl rfl rfl (rv_ev rfl) ?_
    refine hl_v rfl rfl rfl (rv_ev rfl) ?_
    refine hl_v rfl rfl rfl (rv_ev rfl) ?_
    refine hl_v rfl rfl rfl (rv_ev rfl) ?_
    refine hl_v rfl rfl rfl (rv_ev rfl) ?_
    refine hl_v rfl rfl rfl (rv_ev rfl) ?_
    refine hl_v rfl rfl rfl (rv_ev rfl) ?_
    refine hl_v rfl rfl rfl (rv_ev rfl) ?_
    refine hl_less (sx 0 rfl (sx 1 rfl (sx 2 rfl (sx 4 rfl (sx 5 rfl (sx 6 rfl (sx 8 rfl (sx 9 rfl (sx 14 rfl (sx 21 rfl (sx 28 rfl (sub_nil _)))))))))))) (.refl _) ?_
    refine hl_nil ?_
    refine hq_then ?_
    refine hc_seq ?_
    refine hc_region ?_
    refine hl_v rfl rfl rfl (rv_loadN (cs := [.int .i64 d.W, .int .i64 d.H, .int .i64 d.T, .int .i64 d.R]) rfl (by kernel_rfl) (by kernel_rfl) rfl rfl (box_part 1 rfl 0 rfl)) ?_
    refine hl_v rfl rfl rfl (rv_ev rfl) ?_
    refine hl_v rfl rfl rfl (rv_ev rfl) ?_
    refine hl_v rfl rfl rfl (rv_ev rfl) ?_
    obtain ⟨g0, g1, g2, g3⟩ := wire_rng hv (by omega) p3
    refine hl_q rfl rfl rfl (rq_call (by kernel_rfl) rfl (fun w hm => wireSources_ret d _ _ _ w hv p0 (by omega) g0 g1 g2 g3)) ?_
    intro v10 p11 hR12
    subst hR12
    refine hl_v rfl rfl rfl (rv_ev rfl) ?_
    refine hl_less (sx 0 rfl (sx 1 rfl (sx 2 rfl (sx 4 rfl (sx 5 rfl (sx 6 rfl (sx 8 rfl (sx 9 rfl (sx 14 rfl (sx 21 rfl (sx 28 rfl (sub_nil _)))))))))))) (.refl _) ?_
    refine hl_nil ?_
    refine hq_then ?_
    refine hc_ret ?_
    exact hq_retR (post := [rowE 3 1 v10 ((wireO d (n / perI d) ((n % perI d - 7) / d.T) ((n % perI d - 7) % d.T) 4).length) ((wireO d (n / perI d) ((n % perI d - 7) / d.T) ((n % perI d - 7) % d.T) 4).map (Value.int .i64))]) rfl rfl ((.cons_cons _ (.cons _ (.cons _ .slnil)))) (by unfold srcI; (first | (rw [if_pos (by assumption)]; first | rw [if_pos (by omega)] | rw [if_neg (by omega), if_pos (by omega)] | rw [if_neg (by omega), if_neg (by omega)]) | rw [if_neg (by simp [*])]) <;> rfl)
 ·
  refine hl_v rfl rfl rfl (rv_ev rfl) ?_
  refine hl_less (sx 0 rfl (sx 1 rfl (sx 2 rfl (sx 4 rfl (sx 14 rfl (sub_nil _)))))) (.refl _) ?_
  refine hl_nil ?_
  refine hq_then ?_
  refine hc_true rfl ?_
  refine hc_seq ?_
  refine hc_region ?_
  refine hl_nilRow 3 1 ?_
  refine hl_v rfl rfl rfl (rv_ev rfl) ?_
  refine hl_less (sx 0 rfl (sx 1 rfl (sx 2 rfl (sx 4 rfl (sx 14 rfl (sub_nil _)))))) (.refl _) ?_
  refine hl_nil ?_
  refine hq_then ?_
  refine hc_ret ?_
  refine hq_then_ret ?_
  exact hq_retR (post := [rowE 3 1 (.slice none 0 0) 0 ([])]) rfl rfl ((.cons_cons _ (.cons _ (.cons _ .slnil)))) (by unfold srcI; (first | (rw [if_pos (by assumption)]; first | rw [if_pos (by omega)] | rw [if_neg (by omega), if_pos (by omega)] | rw [if_neg (by omega), if_neg (by omega)]) | rw [if_neg (by simp [*])]) <;> rfl)
def selI (xs : List Int) (x : Int) : Int := match xs.idxOf? x with | some j => (j : Int) + 1 | none => 0
theorem selI_at (xs : List Int) (x : Int) (j : Nat) (hj : j < xs.length) (h1 : ∀ i, i < j → xs.getD i 0 ≠ x) (h2 : xs.getD j 0 = x) : selI xs x = 1 + (j : Int) := by
  have : xs.idxOf? x = some j := by
    rw [List.idxOf?_eq_some_iff]
    rw [List.getD_eq_getElem?_getD, List.getElem?_eq_getElem hj] at h2
    refine ⟨hj, by simpa using h2, fun k hk => ?_⟩
    have := h1 k hk
    rw [List.getD_eq_getElem?_getD, List.getElem?_eq_getElem (by omega)] at this
    simpa using this
  unfold selI; rw [this]; simp; omega
theorem selI_none (xs : List Int) (x : Int) (h1 : ∀ i, i < xs.length → xs.getD i 0 ≠ x) : selI xs x = 0 := by
  have : xs.idxOf? x = none := by
    rw [List.idxOf?_eq_none_iff]
    intro hy
    obtain ⟨i, hi, he⟩ := List.mem_iff_getElem.1 hy
    have := h1 i hi
    rw [List.getD_eq_getElem?_getD, List.getElem?_eq_getElem hi] at this
    exact this (by simpa using he)
  unfold selI; rw [this]
set_option maxHeartbeats 4000000 in
set_option maxRecDepth 100000 in
theorem implSelectFor_ans (d : Dev) (n x : Int) (w : World) (hlen : (srcI d n).length ≤ 1000000) :
  Calls Try.prog 61 #[.agg #[.int .i64 d.W, .int .i64 d.H, .int .i64 d.T, .int .i64 d.R], .int .i64 n, .int .i64 x] w (Ans w (.int .i64 (selI (srcI d n) x))) := by
 refine calls_hc (N := 24) (args := [.agg #[.int .i64 d.W, .int .i64 d.H, .int .i64 d.T, .int .i64 d.R], .int .i64 n, .int .i64 x]) Try.func61 rfl rfl ?_
 refine hc_less _ (sx 0 rfl (sx 1 rfl (sx 2 rfl (sub_nil _)))) (.refl _) ?_
 refine hc_seq ?_
 refine hc_region ?_
 refine hl_box rfl rfl rfl (rq_box rfl rfl) ?_
 intro b1
 refine hl_v rfl rfl rfl (rv_ev rfl) ?_
 refine hl_less (sx 0 rfl (sx 1 rfl (sx 2 rfl (sx 3 rfl (sx 6 rfl (sub_nil _)))))) (.refl _) ?_
 refine hl_nil ?_
 refine hq_then ?_
 refine hc_seq ?_
 refine hc_seq ?_
 refine hc_region ?_
 refine hl_v rfl rfl rfl (rv_loadN (cs := [.int .i64 d.W, .int .i64 d.H, .int .i64 d.T, .int .i64 d.R]) rfl (by kernel_rfl) (by kernel_rfl) rfl rfl (box_part 0 rfl 0 rfl)) ?_
 refine hl_v rfl rfl rfl (rv_ev rfl) ?_
 refine hl_q rfl rfl rfl (rq_call (by kernel_rfl) rfl (fun w hm => implSources_ret d _ w)) ?_
 intro v2 p3 hR4
 subst hR4
 refine hl_v rfl rfl rfl (rv_len rfl Try.underlying30 rfl (rd_row 0 rfl)) ?_
 refine hl_v rfl rfl rfl (rv_ev rfl) ?_
 refine hl_less (sx 0 rfl (sx 1 rfl (sx 2 rfl (sx 3 rfl (sx 6 rfl (sx 11 rfl (sx 12 rfl (sx 13 rfl (sub_nil _))))))))) (.refl _) ?_
 refine hl_nil ?_
 refine hq_then ?_
 refine hc_block ?_
 refine hc_loop1 (α := Nat) (fun j => [rowE 3 1 v2 ((srcI d n).length) ((srcI d n).map (Value.int .i64)), boxE b1 #[.int .i64 d.W, .int .i64 d.H, .int .i64 d.T, .int .i64 d.R] 25]) (fun j => [(0, .agg #[.int .i64 d.W, .int .i64 d.H, .int .i64 d.T, .int .i64 d.R]), (1, .int .i64 n), (2, .int .i64 x), (3, .pointer (some ⟨b1, 0, none⟩)), (6, .int .i64 0), (11, v2), (12, .int .i64 ((srcI d n).length : Int)), (13, .int .i64 (j : Int))]) (fun j => j ≤ (srcI d n).length ∧ ∀ i, i < j → (srcI d n).getD i 0 ≠ x) (fun j => (srcI d n).length - j) 0 ⟨by omega, fun i hi => absurd hi (by omega)⟩ (sx 0 rfl (sx 1 rfl (sx 2 rfl (sx 3 rfl (sx 6 rfl (sx 11 rfl (sx 12 rfl (sx 13 rfl (sub_nil _))))))))) ((.cons_cons _ (.cons_cons _ .slnil))) ?_
 intro j hi5
 obtain ⟨hk1, hk2⟩ := hi5
 refine hc_seq ?_
 refine hc_region ?_
 refine hl_lss rfl rfl rfl rfl rfl rfl (fun h6 => ?_) (fun h6 => ?_)
 ·
  refine hl_less (sx 0 rfl (sx 1 rfl (sx 2 rfl (sx 3 rfl (sx 6 rfl (sx 11 rfl (sx 12 rfl (sx 13 rfl (sx 14 rfl (sub_nil _)))))))))) (.refl _) ?_
  refine hl_nil ?_
  refine hq_then ?_
  refine hc_seq ?_
  refine hc_true rfl ?_
  refine hc_skip ?_
  refine hq_then ?_
  refine hc_seq ?_
  refine hc_block ?_
  refine hc_seq ?_
  refine hc_region ?_
  refine hl_v rfl rfl rfl (rv_ev rfl) ?_
  refine hl_v rfl rfl rfl (rv_index (s := 1) rfl Try.underlying30 (by kernel_rfl) rfl rfl (rd_row 0 rfl) (by omega) (by first | omega | (simp only [List.length_set]; omega))) ?_
  refine hl_v rfl rfl rfl (rv_loadEl (u := .int .i64 ((srcI d n).getD j 0)) rfl (by kernel_rfl) rfl (rd_row 0 rfl) (ints_at1 (show _ < (srcI d n).length by first | omega | (simp only [List.length_set]; omega)))) ?_
  refine hl_v rfl rfl rfl (rv_ev rfl) ?_
  refine hl_v rfl rfl rfl (rv_ev rfl) ?_
  refine hl_less (sx 0 rfl (sx 1 rfl (sx 2 rfl (sx 3 rfl (sx 6 rfl (sx 7 rfl (sx 8 rfl (sx 11 rfl (sx 12 rfl (sx 13 rfl (sx 14 rfl (sub_nil _)))))))))))) (.refl _) ?_
  refine hl_nil ?_
  refine hq_then ?_
  refine hc_seq ?_
  refine hc_region ?_
  refine hl_v rfl rfl rfl (rv_ev rfl) ?_
  refine hl_v rfl rfl rfl (rv_ev rfl) ?_
  refine hl_eql rfl rfl rfl rfl rfl rfl (fun h7 => ?_) (fun h7 => ?_)
  ·
   refine hl_less (sx 0 rfl (sx 1 rfl (sx 2 rfl (sx 3 rfl (sx 6 rfl (sx 7 rfl (sx 8 rfl (sx 11 rfl (sx 12 rfl (sx 13 rfl (sx 14 rfl (sx 20 rfl (sub_nil _))))))))))))) (.refl _) ?_
   refine hl_nil ?_
   refine hq_then ?_
   refine hc_true rfl ?_
   refine hc_seq ?_
   refine hc_region ?_
   refine hl_v rfl rfl rfl (rv_ev rfl) ?_
   refine hl_v rfl rfl rfl (rv_add rfl rfl rfl (by constructor <;> omega)) ?_
   refine hl_v rfl rfl rfl (rv_ev rfl) ?_
   refine hl_less (sx 0 rfl (sx 1 rfl (sx 2 rfl (sx 3 rfl (sx 6 rfl (sx 7 rfl (sx 8 rfl (sx 11 rfl (sx 12 rfl (sx 13 rfl (sx 14 rfl (sx 20 rfl (sub_nil _))))))))))))) (.refl _) ?_
   refine hl_nil ?_
   refine hq_then ?_
   refine hc_ret ?_
   refine hq_block_ret ?_
   refine hq_then_ret ?_
   refine hq_then_ret ?_
   refine hq_block_ret ?_
   refine hq_then_ret ?_
   exact hq_ans rfl rfl (congrArg _ (selI_at (srcI d n) x j (by omega) hk2 (by assumption)).symm)
  ·
   refine hl_less (sx 0 rfl (sx 1 rfl (sx 2 rfl (sx 3 rfl (sx 6 rfl (sx 7 rfl (sx 8 rfl (sx 11 rfl (sx 12 rfl (sx 13 rfl (sx 14 rfl (sx 20 rfl (sub_nil _))))))))))))) (.refl _) ?_
   refine hl_nil ?_
   refine hq_then ?_
   refine hc_false rfl ?_
   refine hc_skip ?_
   refine hq_block_normal ?_
   refine hq_then ?_
   refine hc_region ?_
   refine hl_v rfl rfl rfl (rv_add rfl rfl rfl (by constructor <;> omega)) ?_
   refine hl_v rfl rfl rfl (rv_ev rfl) ?_
   refine hl_less (sx 0 rfl (sx 1 rfl (sx 2 rfl (sx 3 rfl (sx 6 rfl (sx 7 rfl (sx 8 rfl (sx 11 rfl (sx 12 rfl (sx 13 rfl (sx 14 rfl (sx 20 rfl (sub_nil _))))))))))))) (.refl _) ?_
   refine hl_nil ?_
   exact hq_round1 (j + 1) ⟨by omega, fun i hi => by by_cases hij : i = j; (subst hij; assumption); exact hk2 i (by omega)⟩ (by omega) (sx 0 rfl (sx 1 rfl (sx 2 rfl (sx 3 rfl (sx 6 rfl (sx 11 rfl (sx 12 rfl (sx 13 rfl (sub_nil _))))))))) ((.cons_cons _ (.cons_cons _ .slnil)))
 ·
  refine hl_less (sx 0 rfl (sx 1 rfl (sx 2 rfl (sx 3 rfl (sx 6 rfl (sx 11 rfl (sx 12 rfl (sx 13 rfl (sx 14 rfl (sub_nil _)))))))))) (.refl _) ?_
  refine hl_nil ?_
  refine hq_then ?_
  refine hc_seq ?_
  refine hc_false rfl ?_
  refine hc_exit ?_
  refine hq_then_exit ?_
  refine hq_then_exit ?_
  refine hq_block_exit ?_
  refine hq_then ?_
  refine hc_seq ?_
  refine hc_region ?_
  refine hl_v rfl rfl rfl (rv_ev rfl) ?_
  refine hl_less (sx 0 rfl (sx 1 rfl (sx 2 rfl (sx 3 rfl (sx 6 rfl (sx 11 rfl (sx 12 rfl (sx 13 rfl (sx 14 rfl (sub_nil _)))))))))) (.refl _) ?_
  refine hl_nil ?_
  refine hq_then ?_
  refine hc_ret ?_
  exact hq_ans rfl rfl (congrArg _ (selI_none (srcI d n) x (fun i hi => hk2 i (by omega))).symm)
open Go.RowKit
/-- x goes behind the last element that is not above it -/
def cutR (P : List Int) (x : Int) : Nat := P.length - (P.reverse.takeWhile (fun y => decide (x < y))).length
def insR (P : List Int) (x : Int) : List Int := P.take (cutR P x) ++ x :: P.drop (cutR P x)
def sortR (xs : List Int) : List Int := xs.foldl insR []
theorem tw_app (a b : List Int) (f : Int → Bool) (h : ∀ y ∈ a, f y = true) (h2 : b = [] ∨ f (b.headD 0) = false) : ((a ++ b).takeWhile f).length = a.length := by
  induction a with
  | nil =>
    rcases h2 with rfl | h2
    · rfl
    · cases b with
      | nil => rfl
      | cons y ys => simp at h2; simp [h2]
  | cons y ys ih =>
    have := h y (by simp)
    simp only [List.cons_append, List.takeWhile_cons, this, if_true, List.length_cons]
    rw [ih (fun z hz => h z (by simp [hz]))]
theorem cutR_at (P : List Int) (x : Int) (k : Nat) (hk : k ≤ P.length) (h1 : ∀ j, k ≤ j → j < P.length → x < P.getD j 0) (h2 : k = 0 ∨ P.getD (k - 1) 0 ≤ x) : cutR P x = k := by
  unfold cutR
  have e : P.reverse = (P.drop k).reverse ++ (P.take k).reverse := by rw [← List.reverse_append, List.take_append_drop]
  rw [e, tw_app]
  · simp; omega
  · intro y hy
    rw [List.mem_reverse] at hy
    obtain ⟨j, hj, rfl⟩ := List.mem_iff_getElem.1 hy
    rw [List.length_drop] at hj
    have := h1 (k + j) (by omega) (by omega)
    rw [List.getD_eq_getElem?_getD, List.getElem?_eq_getElem (by omega)] at this
    simpa using this
  · rcases h2 with rfl | h2
    · left; simp
    · by_cases h0 : k = 0
      · subst h0; left; simp
      · right
        have hlt : k - 1 < P.length := by omega
        rw [List.headD_eq_head?_getD, List.head?_reverse, List.getLast?_eq_getElem?, List.length_take, Nat.min_eq_left hk, List.getElem?_take, if_pos (by omega), ← List.getD_eq_getElem?_getD]
        simpa using h2
theorem insR_at (P : List Int) (x : Int) (k : Nat) (hk : k ≤ P.length) (h1 : ∀ j, k ≤ j → j < P.length → x < P.getD j 0) (h2 : k = 0 ∨ P.getD (k - 1) 0 ≤ x) : insR P x = P.take k ++ x :: P.drop k := by
  unfold insR; rw [cutR_at P x k hk h1 h2]
theorem insR_len (P : List Int) (x : Int) : (insR P x).length = P.length + 1 := by
  unfold insR; rw [List.length_append, List.length_cons, List.length_take, List.length_drop]
  have : cutR P x ≤ P.length := by unfold cutR; omega
  omega
theorem sortR_snoc (xs : List Int) (x : Int) : sortR (xs ++ [x]) = insR (sortR xs) x := by unfold sortR; rw [List.foldl_append]; rfl
theorem fold_len : ∀ (xs acc : List Int), (xs.foldl insR acc).length = acc.length + xs.length
  | [], acc => by simp
  | x :: xs, acc => by rw [List.foldl_cons, fold_len xs, insR_len, List.length_cons]; omega
theorem sortR_len (xs : List Int) : (sortR xs).length = xs.length := by unfold sortR; rw [fold_len]; simp
/-- where the inner loop stands: x has gone down to place k of the sorted part P -/
def midS (P : List Int) (x : Int) (rest : List Int) (k : Nat) : List Int := P.take k ++ x :: P.drop k ++ rest
theorem midS_at (P : List Int) (x : Int) (rest : List Int) (k : Nat) (hk : k ≤ P.length) : (midS P x rest k).getD k 0 = x := by
  unfold midS
  rw [List.append_assoc, List.getD_eq_getElem?_getD, List.getElem?_append_right (by simp; omega)]
  simp [Nat.min_eq_left hk]
theorem midS_before (P : List Int) (x : Int) (rest : List Int) (k : Nat) (hk : k ≤ P.length) (h0 : 0 < k) : (midS P x rest k).getD (k - 1) 0 = P.getD (k - 1) 0 := by
  unfold midS
  rw [List.append_assoc, List.getD_eq_getElem?_getD, List.getElem?_append_left (by simp; omega), List.getElem?_take, if_pos (by omega), ← List.getD_eq_getElem?_getD]
theorem midS_step (P : List Int) (x : Int) (rest : List Int) (k : Nat) (hk : k + 1 ≤ P.length) : ((midS P x rest (k + 1)).set (k + 1) (P.getD k 0)).set k x = midS P x rest k := by
  have hlt : k < P.length := by omega
  have e : P.getD k 0 = P[k] := by rw [List.getD_eq_getElem?_getD, List.getElem?_eq_getElem hlt]; rfl
  unfold midS
  have e1 : P.take (k + 1) = P.take k ++ [P[k]] := List.take_succ_eq_append_getElem hlt
  have e2 : P.drop k = P[k] :: P.drop (k + 1) := List.drop_eq_getElem_cons hlt
  have hl : (P.take k).length = k := by simp; omega
  rw [e, e1, e2]
  simp only [List.append_assoc, List.cons_append, List.nil_append]
  rw [List.set_append_right _ _ (by omega), hl, show k + 1 - k = 1 by omega, List.set_cons_succ, List.set_cons_zero, List.set_append_right _ _ (by omega), hl, Nat.sub_self, List.set_cons_zero]
theorem midS_start (xs : List Int) (i : Nat) (hi : i < xs.length) : sortR (xs.take i) ++ xs.drop i = midS (sortR (xs.take i)) (xs.getD i 0) (xs.drop (i + 1)) i := by
  have hl : (sortR (xs.take i)).length = i := by rw [sortR_len]; simp; omega
  have e : xs.getD i 0 = xs[i] := by rw [List.getD_eq_getElem?_getD, List.getElem?_eq_getElem hi]; rfl
  unfold midS
  rw [e, List.take_of_length_le (show (sortR (xs.take i)).length ≤ i by omega), List.drop_eq_nil_of_le (show (sortR (xs.take i)).length ≤ i by omega), List.drop_eq_getElem_cons hi]; simp
theorem midS_end (xs : List Int) (i k : Nat) (hi : i < xs.length) (hk : k ≤ i) (h1 : ∀ j, k ≤ j → j < i → xs.getD i 0 < (sortR (xs.take i)).getD j 0) (h2 : k = 0 ∨ (sortR (xs.take i)).getD (k - 1) 0 ≤ xs.getD i 0) :
    midS (sortR (xs.take i)) (xs.getD i 0) (xs.drop (i + 1)) k = sortR (xs.take (i + 1)) ++ xs.drop (i + 1) := by
  have hl : (sortR (xs.take i)).length = i := by rw [sortR_len]; simp; omega
  have e : xs.getD i 0 = xs[i] := by rw [List.getD_eq_getElem?_getD, List.getElem?_eq_getElem hi]; rfl
  rw [List.take_succ_eq_append_getElem hi, sortR_snoc, ← e, insR_at _ _ k (by omega) (fun j a b => h1 j a (by omega)) h2]
  rfl
theorem sort_start (xs : List Int) : xs = sortR (xs.take (0 + 1)) ++ xs.drop (0 + 1) := by
  cases xs with
  | nil => rfl
  | cons x xs => rfl
set_option maxHeartbeats 4000000 in
set_option maxRecDepth 100000 in
theorem l27Sort_ret (v : Value) (xs : List Int) (w : World) (hv : RdsW w v 1 xs.length (xs.map (Value.int .i64))) (hn : xs.length ≤ 1000000) :
  Calls Try.prog 125 #[v] w (Ret w (fun v' post => post = [rowE 3 1 v' (sortR xs).length ((sortR xs).map (Value.int .i64))])) := by
 refine calls_hc (N := 51) (args := [v]) Try.func125 rfl rfl ?_
 refine hc_less _ (sx 0 rfl (sub_nil _)) (.refl _) ?_
 refine hc_seq ?_
 refine hc_region ?_
 refine hl_v rfl rfl rfl (rv_ev rfl) ?_
 refine hl_less (sx 0 rfl (sx 2 rfl (sub_nil _))) (.refl _) ?_
 refine hl_nil ?_
 refine hq_then ?_
 refine hc_seq ?_
 refine hc_region ?_
 refine hl_row rfl rfl rfl (rq_slice0 (s := 1) rfl Try.underlying30 (by kernel_rfl)) ?_
 intro g1
 refine hl_v rfl rfl rfl (rv_ev rfl) ?_
 refine hl_append (i := 0) (z := .int .i64 0) (bytes := 8) (n' := xs.length) (xs' := (xs.map (Value.int .i64))) (L := fun v2 => [rowE 3 1 v2 xs.length (xs.map (Value.int .i64))]) rfl rfl rfl rfl Try.underlying30 (by kernel_rfl) (by kernel_rfl) rfl rfl rfl (rd_old hv) (ints_one _) (by simp; omega) ((Nat.zero_add _)) ((List.nil_append _)) (fun _ => rfl) ?_
 intro v2
 refine hl_v rfl rfl rfl (rv_ev rfl) ?_
 refine hl_less (sx 0 rfl (sx 2 rfl (sx 3 rfl (sub_nil _)))) (.refl _) ?_
 refine hl_nil ?_
 refine hq_then ?_
 refine hc_seq ?_
 refine hc_seq ?_
 refine hc_region ?_
 refine hl_v rfl rfl rfl (rv_ev rfl) ?_
 refine hl_less (sx 0 rfl (sx 2 rfl (sx 3 rfl (sx 4 rfl (sub_nil _))))) (.refl _) ?_
 refine hl_nil ?_
 refine hq_then ?_
 refine hc_block ?_
 refine hc_loop2 (α := Nat) (β := List Int) (fun i zs => [rowE 3 1 v2 zs.length (zs.map (Value.int .i64))]) (fun i zs => [(0, v), (2, .slice none 0 0), (3, v2), (4, .int .i64 ((i : Int) + 1))]) (fun i zs => i ≤ xs.length ∧ zs.length = xs.length ∧ zs = sortR (xs.take (i + 1)) ++ xs.drop (i + 1)) (fun i zs => xs.length - i) 0 xs ⟨by omega, rfl, sort_start xs⟩ (sx 0 rfl (sx 2 rfl (sx 3 rfl (sx 4 rfl (sub_nil _))))) ((.cons_cons _ .slnil)) ?_
 intro i zs hi3
 obtain ⟨hi, hzl, hz⟩ := hi3
 refine hc_seq ?_
 refine hc_seq ?_
 refine hc_region ?_
 refine hl_v rfl rfl rfl (rv_ev rfl) ?_
 refine hl_v rfl rfl rfl (rv_ev rfl) ?_
 refine hl_v rfl rfl rfl (rv_len rfl Try.underlying30 rfl (rd_row 0 rfl)) ?_
 refine hl_lss rfl rfl rfl rfl rfl rfl (fun h4 => ?_) (fun h4 => ?_)
 ·
  refine hl_less (sx 0 rfl (sx 2 rfl (sx 3 rfl (sx 4 rfl (sx 13 rfl (sub_nil _)))))) (.refl _) ?_
  refine hl_nil ?_
  refine hq_then ?_
  refine hc_true rfl ?_
  refine hc_skip ?_
  refine hq_then ?_
  refine hc_seq ?_
  refine hc_block ?_
  refine hc_seq ?_
  refine hc_region ?_
  refine hl_v rfl rfl rfl (rv_ev rfl) ?_
  refine hl_v rfl rfl rfl (rv_ev rfl) ?_
  refine hl_less (sx 0 rfl (sx 2 rfl (sx 3 rfl (sx 4 rfl (sx 5 rfl (sx 13 rfl (sub_nil _))))))) (.refl _) ?_
  refine hl_nil ?_
  refine hq_then ?_
  refine hc_block ?_
  refine hc_loop2 (α := Nat) (β := List Int) (fun k ys => [rowE 3 1 v2 ys.length (ys.map (Value.int .i64))]) (fun k ys => [(0, v), (2, .slice none 0 0), (3, v2), (4, .int .i64 ((i : Int) + 1)), (5, .int .i64 (k : Int)), (13, .bool true)]) (fun k ys => k ≤ i + 1 ∧ ys.length = xs.length ∧ ys = midS (sortR (xs.take (i + 1))) (xs.getD (i + 1) 0) (xs.drop (i + 1 + 1)) k ∧ ∀ j, k ≤ j → j < i + 1 → xs.getD (i + 1) 0 < (sortR (xs.take (i + 1))).getD j 0) (fun k ys => k) (i + 1) zs ⟨by omega, hzl, by rw [hz]; exact midS_start xs (i + 1) (by omega), fun j a b => absurd a (by omega)⟩ (sx 0 rfl (sx 2 rfl (sx 3 rfl (sx 4 rfl (sx 5 rfl (sx 13 rfl (sub_nil _))))))) ((.cons_cons _ .slnil)) ?_
  intro k ys hi5
  obtain ⟨hk, hyl, hy, hy1⟩ := hi5
  have hsl : (sortR (xs.take (i + 1))).length = i + 1 := by rw [sortR_len]; simp; omega
  have hm1 := hy ▸ midS_at (sortR (xs.take (i + 1))) (xs.getD (i + 1) 0) (xs.drop (i + 1 + 1)) k (by omega)
  have hk1 : ((k : Int) - 1).toNat = k - 1 := by omega
  have hm2 : 0 < k → ys.getD ((k : Int) - 1).toNat 0 = (sortR (xs.take (i + 1))).getD (k - 1) 0 := fun h => by rw [hk1, hy]; exact midS_before (sortR (xs.take (i + 1))) (xs.getD (i + 1) 0) (xs.drop (i + 1 + 1)) k (by omega) h
  refine hc_seq ?_
  refine hc_seq ?_
  rcases Bool.eq_false_or_eq_true (decide (0 < (k : Int))) with hb6 | hb6
  ·
   have hb6p : 0 < (k : Int) := of_decide_eq_true hb6
   rcases Bool.eq_false_or_eq_true (decide (ys.getD k 0 < ys.getD (((k : Int) - 1).toNat) 0)) with hb7 | hb7
   ·
    have hb7p : ys.getD k 0 < ys.getD (((k : Int) - 1).toNat) 0 := of_decide_eq_true hb7
    refine hc_draw (by kernel_rfl) 14 [0, 1, 2, 3, 4, 5, 6, 7, 8, 9, 10, 11, 12, 13] (List.take 14 _) (List.drop 14 _) [[], [0], [1], [2], [2], [2, 3, 4], [2, 5], [2], [2], [2, 8], [2, 7, 9], [2, 10], [2, 6, 11], [2, 12]] [17, 18, 19, 20, 21, 22, 23, 24, 25, 26, 27, 28, 29, 30] (fun i vs_ v_ p_ => match i with | 0 => v_ = .int .i64 (k : Int) ∧ p_ = [] | 1 => v_ = .bool true ∧ p_ = [] | 2 => v_ = .bool true ∧ p_ = [] | 3 => v_ = v2 ∧ p_ = [] | 4 => v_ = .int .i64 (k : Int) ∧ p_ = [] | 5 => v_ = elP v2 (((k : Int)).toNat * 1) ∧ p_ = [] | 6 => v_ = .int .i64 (ys.getD k 0) ∧ p_ = [] | 7 => v_ = v2 ∧ p_ = [] | 8 => v_ = .int .i64 (k : Int) ∧ p_ = [] | 9 => v_ = .int .i64 ((k : Int) - 1) ∧ p_ = [] | 10 => v_ = elP v2 (((k : Int) - 1).toNat * 1) ∧ p_ = [] | 11 => v_ = .int .i64 (ys.getD (((k : Int) - 1).toNat) 0) ∧ p_ = [] | 12 => v_ = .bool true ∧ p_ = [] | 13 => v_ = .bool true ∧ p_ = [] | _ => True) (List.take_append_drop 14 _).symm (by kernel_rfl) (by kernel_rfl) rfl rfl ?_ ?_
    ·
     refine ⟨?_, ?_, ?_, ?_, ?_, ?_, ?_, ?_, ?_, ?_, ?_, ?_, ?_, ?_, trivial⟩
     ·
      intro vf pf hR
      refine Or.inl ⟨rfl, ?_⟩
      refine rq_less (sx 5 rfl (sub_nil _)) (List.sublist_append_right _ _) ?_
      exact rq_v (rv_ev rfl)
     ·
      intro vf pf hR
      have e0 : (vf 0) = .int .i64 (k : Int) ∧ (pf 0) = [] := hR 0 (by decide)
      refine Or.inl ⟨rfl, ?_⟩
      refine rq_less (sx 17 (congrArg some e0.1) (sub_nil _)) (List.sublist_append_right _ _) ?_
      exact rq_mono (rq_v (rv_cmp rfl rfl rfl rfl)) (fun _ _ h => ⟨h.1.trans (congrArg Value.bool hb6), h.2⟩)
     ·
      intro vf pf hR
      have e1 : (vf 1) = .bool true ∧ (pf 1) = [] := hR 1 (by decide)
      refine Or.inl ⟨rfl, ?_⟩
      refine rq_less (sx 18 (congrArg some e1.1) (sub_nil _)) (List.sublist_append_right _ _) ?_
      exact rq_v (rv_ev rfl)
     ·
      intro vf pf hR
      have e2 : (vf 2) = .bool true ∧ (pf 2) = [] := hR 2 (by decide)
      refine Or.inl ⟨want_of (congrArg some e2.1) rfl, ?_⟩
      refine rq_less (sx 3 rfl (sub_nil _)) (List.sublist_append_right _ _) ?_
      exact rq_v (rv_ev rfl)
     ·
      intro vf pf hR
      have e2 : (vf 2) = .bool true ∧ (pf 2) = [] := hR 2 (by decide)
      refine Or.inl ⟨want_of (congrArg some e2.1) rfl, ?_⟩
      refine rq_less (sx 5 rfl (sub_nil _)) (List.sublist_append_right _ _) ?_
      exact rq_v (rv_ev rfl)
     ·
      intro vf pf hR
      have e2 : (vf 2) = .bool true ∧ (pf 2) = [] := hR 2 (by decide)
      have e3 : (vf 3) = v2 ∧ (pf 3) = [] := hR 3 (by decide)
      have e4 : (vf 4) = .int .i64 (k : Int) ∧ (pf 4) = [] := hR 4 (by decide)
      refine Or.inl ⟨want_of (congrArg some e2.1) rfl, ?_⟩
      refine rq_less (sx 20 (congrArg some e3.1) (sx 21 (congrArg some e4.1) (sub_nil _))) (List.sublist_append_right _ _) ?_
      exact rq_v (rv_index (s := 1) rfl Try.underlying30 (by kernel_rfl) rfl rfl (rd_row 0 rfl) (by omega) (by first | omega | (simp only [List.length_set]; omega)))
     ·
      intro vf pf hR
      have e2 : (vf 2) = .bool true ∧ (pf 2) = [] := hR 2 (by decide)
      have e5 : (vf 5) = elP v2 (((k : Int)).toNat * 1) ∧ (pf 5) = [] := hR 5 (by decide)
      refine Or.inl ⟨want_of (congrArg some e2.1) rfl, ?_⟩
      refine rq_less (sx 22 (congrArg some e5.1) (sub_nil _)) (List.sublist_append_right _ _) ?_
      exact rq_v (rv_loadEl (u := .int .i64 (ys.getD k 0)) rfl (by kernel_rfl) rfl (rd_row 0 rfl) (ints_at1 (show _ < ys.length by first | omega | (simp only [List.length_set]; omega))))
     ·
      intro vf pf hR
      have e2 : (vf 2) = .bool true ∧ (pf 2) = [] := hR 2 (by decide)
      refine Or.inl ⟨want_of (congrArg some e2.1) rfl, ?_⟩
      refine rq_less (sx 3 rfl (sub_nil _)) (List.sublist_append_right _ _) ?_
      exact rq_v (rv_ev rfl)
     ·
      intro vf pf hR
      have e2 : (vf 2) = .bool true ∧ (pf 2) = [] := hR 2 (by decide)
      refine Or.inl ⟨want_of (congrArg some e2.1) rfl, ?_⟩
      refine rq_less (sx 5 rfl (sub_nil _)) (List.sublist_append_right _ _) ?_
      exact rq_v (rv_ev rfl)
     ·
      intro vf pf hR
      have e2 : (vf 2) = .bool true ∧ (pf 2) = [] := hR 2 (by decide)
      have e8 : (vf 8) = .int .i64 (k : Int) ∧ (pf 8) = [] := hR 8 (by decide)
      refine Or.inl ⟨want_of (congrArg some e2.1) rfl, ?_⟩
      refine rq_less (sx 25 (congrArg some e8.1) (sub_nil _)) (List.sublist_append_right _ _) ?_
      exact rq_v (rv_sub rfl rfl rfl (by constructor <;> omega))
     ·
      intro vf pf hR
      have e2 : (vf 2) = .bool true ∧ (pf 2) = [] := hR 2 (by decide)
      have e7 : (vf 7) = v2 ∧ (pf 7) = [] := hR 7 (by decide)
      have e9 : (vf 9) = .int .i64 ((k : Int) - 1) ∧ (pf 9) = [] := hR 9 (by decide)
      refine Or.inl ⟨want_of (congrArg some e2.1) rfl, ?_⟩
      refine rq_less (sx 24 (congrArg some e7.1) (sx 26 (congrArg some e9.1) (sub_nil _))) (List.sublist_append_right _ _) ?_
      exact rq_v (rv_index (s := 1) rfl Try.underlying30 (by kernel_rfl) rfl rfl (rd_row 0 rfl) (by omega) (by first | omega | (simp only [List.length_set]; omega)))
     ·
      intro vf pf hR
      have e2 : (vf 2) = .bool true ∧ (pf 2) = [] := hR 2 (by decide)
      have e10 : (vf 10) = elP v2 (((k : Int) - 1).toNat * 1) ∧ (pf 10) = [] := hR 10 (by decide)
      refine Or.inl ⟨want_of (congrArg some e2.1) rfl, ?_⟩
      refine rq_less (sx 27 (congrArg some e10.1) (sub_nil _)) (List.sublist_append_right _ _) ?_
      exact rq_v (rv_loadEl (u := .int .i64 (ys.getD (((k : Int) - 1).toNat) 0)) rfl (by kernel_rfl) rfl (rd_row 0 rfl) (ints_at1 (show _ < ys.length by first | omega | (simp only [List.length_set]; omega))))
     ·
      intro vf pf hR
      have e2 : (vf 2) = .bool true ∧ (pf 2) = [] := hR 2 (by decide)
      have e6 : (vf 6) = .int .i64 (ys.getD k 0) ∧ (pf 6) = [] := hR 6 (by decide)
      have e11 : (vf 11) = .int .i64 (ys.getD (((k : Int) - 1).toNat) 0) ∧ (pf 11) = [] := hR 11 (by decide)
      refine Or.inl ⟨want_of (congrArg some e2.1) rfl, ?_⟩
      refine rq_less (sx 23 (congrArg some e6.1) (sx 28 (congrArg some e11.1) (sub_nil _))) (List.sublist_append_right _ _) ?_
      exact rq_mono (rq_v (rv_cmp rfl rfl rfl rfl)) (fun _ _ h => ⟨h.1.trans (congrArg Value.bool hb7), h.2⟩)
     ·
      intro vf pf hR
      have e2 : (vf 2) = .bool true ∧ (pf 2) = [] := hR 2 (by decide)
      have e12 : (vf 12) = .bool true ∧ (pf 12) = [] := hR 12 (by decide)
      refine Or.inl ⟨rfl, ?_⟩
      refine rq_less (sx 19 (congrArg some e2.1) (sx 29 (congrArg some e12.1) (sub_nil _))) (List.sublist_append_right _ _) ?_
      exact rq_v (rv_ev rfl)
    ·
     intro vf pf hR
     have e13 : (vf 13) = .bool true ∧ (pf 13) = [] := hR 13 (by decide)
     refine hl_less (l' := [rowE 3 1 v2 ys.length (ys.map (Value.int .i64))]) (sx 0 rfl (sx 2 rfl (sx 3 rfl (sx 4 rfl (sx 5 rfl (sx 13 rfl (sx 30 (congrArg some e13.1) (sub_nil _)))))))) (List.sublist_append_right _ _) ?_
     simp only [List.drop_succ_cons, List.drop_zero]
     refine hl_less (sx 0 rfl (sx 2 rfl (sx 3 rfl (sx 4 rfl (sx 5 rfl (sx 13 rfl (sx 30 rfl (sub_nil _)))))))) (.refl _) ?_
     refine hl_nil ?_
     refine hq_then ?_
     refine hc_true rfl ?_
     refine hc_skip ?_
     refine hq_then ?_
     refine hc_seq ?_
     refine hc_block ?_
     refine hc_seq ?_
     refine hc_region ?_
     refine hl_v rfl rfl rfl (rv_ev rfl) ?_
     refine hl_v rfl rfl rfl (rv_ev rfl) ?_
     refine hl_v rfl rfl rfl (rv_index (s := 1) rfl Try.underlying30 (by kernel_rfl) rfl rfl (rd_row 0 rfl) (by omega) (by first | omega | (simp only [List.length_set]; omega))) ?_
     refine hl_v rfl rfl rfl (rv_loadEl (u := .int .i64 (ys.getD k 0)) rfl (by kernel_rfl) rfl (rd_row 0 rfl) (ints_at1 (show _ < ys.length by first | omega | (simp only [List.length_set]; omega)))) ?_
     refine hl_v rfl rfl rfl (rv_ev rfl) ?_
     refine hl_less (sx 0 rfl (sx 2 rfl (sx 3 rfl (sx 4 rfl (sx 5 rfl (sx 6 rfl (sx 13 rfl (sx 30 rfl (sub_nil _))))))))) (.refl _) ?_
     refine hl_nil ?_
     refine hq_then ?_
     refine hc_seq ?_
     refine hc_region ?_
     refine hl_v rfl rfl rfl (rv_ev rfl) ?_
     refine hl_v rfl rfl rfl (rv_ev rfl) ?_
     refine hl_v rfl rfl rfl (rv_ev rfl) ?_
     refine hl_v rfl rfl rfl (rv_ev rfl) ?_
     refine hl_v rfl rfl rfl (rv_sub rfl rfl rfl (by constructor <;> omega)) ?_
     refine hl_v rfl rfl rfl (rv_index (s := 1) rfl Try.underlying30 (by kernel_rfl) rfl rfl (rd_row 0 rfl) (by omega) (by first | omega | (simp only [List.length_set]; omega))) ?_
     refine hl_v rfl rfl rfl (rv_loadEl (u := .int .i64 (ys.getD (((k : Int) - 1).toNat) 0)) rfl (by kernel_rfl) rfl (rd_row 0 rfl) (ints_at1 (show _ < ys.length by first | omega | (simp only [List.length_set]; omega)))) ?_
     refine hl_v rfl rfl rfl (rv_index (s := 1) rfl Try.underlying30 (by kernel_rfl) rfl rfl (rd_row 0 rfl) (by omega) (by first | omega | (simp only [List.length_set]; omega))) ?_
     refine hl_storeEl (i := 0) (n' := (ys.set k (ys.getD (((k : Int) - 1).toNat) 0)).length) (xs' := ((ys.set k (ys.getD (((k : Int) - 1).toNat) 0)).map (Value.int .i64))) (l' := [rowE 3 1 v2 ((ys.set k (ys.getD (((k : Int) - 1).toNat) 0)).length) ((ys.set k (ys.getD (((k : Int) - 1).toNat) 0)).map (Value.int .i64))]) rfl rfl rfl (by kernel_rfl) rfl rfl rfl rfl (by first | omega | (simp only [List.length_set]; omega)) List.length_set.symm (ints_set _ _ _) rfl ?_
     refine hl_less (sx 0 rfl (sx 2 rfl (sx 3 rfl (sx 4 rfl (sx 5 rfl (sx 6 rfl (sx 13 rfl (sx 30 rfl (sub_nil _))))))))) (.refl _) ?_
     refine hl_nil ?_
     refine hq_then ?_
     refine hc_region ?_
     refine hl_v rfl rfl rfl (rv_ev rfl) ?_
     refine hl_v rfl rfl rfl (rv_ev rfl) ?_
     refine hl_v rfl rfl rfl (rv_sub rfl rfl rfl (by constructor <;> omega)) ?_
     refine hl_v rfl rfl rfl (rv_ev rfl) ?_
     refine hl_v rfl rfl rfl (rv_index (s := 1) rfl Try.underlying30 (by kernel_rfl) rfl rfl (rd_row 0 rfl) (by omega) (by first | omega | (simp only [List.length_set]; omega))) ?_
     refine hl_storeEl (i := 0) (n' := ((ys.set k (ys.getD (((k : Int) - 1).toNat) 0)).set (((k : Int) - 1).toNat) (ys.getD k 0)).length) (xs' := (((ys.set k (ys.getD (((k : Int) - 1).toNat) 0)).set (((k : Int) - 1).toNat) (ys.getD k 0)).map (Value.int .i64))) (l' := [rowE 3 1 v2 (((ys.set k (ys.getD (((k : Int) - 1).toNat) 0)).set (((k : Int) - 1).toNat) (ys.getD k 0)).length) (((ys.set k (ys.getD (((k : Int) - 1).toNat) 0)).set (((k : Int) - 1).toNat) (ys.getD k 0)).map (Value.int .i64))]) rfl rfl rfl (by kernel_rfl) rfl rfl rfl rfl (by first | omega | (simp only [List.length_set]; omega)) List.length_set.symm (ints_set _ _ _) rfl ?_
     refine hl_less (sx 0 rfl (sx 2 rfl (sx 3 rfl (sx 4 rfl (sx 5 rfl (sx 6 rfl (sx 13 rfl (sx 30 rfl (sub_nil _))))))))) (.refl _) ?_
     refine hl_nil ?_
     refine hq_block_normal ?_
     refine hq_then ?_
     refine hc_region ?_
     refine hl_v rfl rfl rfl (rv_ev rfl) ?_
     refine hl_v rfl rfl rfl (rv_sub rfl rfl rfl (by constructor <;> omega)) ?_
     refine hl_v rfl rfl rfl (rv_ev rfl) ?_
     refine hl_less (sx 0 rfl (sx 2 rfl (sx 3 rfl (sx 4 rfl (sx 5 rfl (sx 6 rfl (sx 13 rfl (sx 30 rfl (sub_nil _))))))))) (.refl _) ?_
     refine hl_nil ?_
     exact hq_round2 (k - 1) _ ⟨by omega, by simpa using hyl, by rw [hm2 (by omega), hm1, hk1]; obtain ⟨k, rfl⟩ : ∃ q, k = q + 1 := ⟨k - 1, by omega⟩; rw [hy]; exact midS_step _ _ _ k (by omega), fun j a b => by by_cases hjk : k ≤ j; (exact hy1 j hjk b); (obtain rfl : j = k - 1 := by omega); omega⟩ (by omega) (sx 0 rfl (sx 2 rfl (sx 3 rfl (sx 4 rfl (sx 5 (by rw [show ((k - 1 : Nat) : Int) = (k : Int) - 1 by omega]; rfl) (sx 13 rfl (sub_nil _))))))) ((.cons_cons _ .slnil))
   ·
    have hb7p : ¬ (ys.getD k 0 < ys.getD (((k : Int) - 1).toNat) 0) := of_decide_eq_false hb7
    refine hc_draw (by kernel_rfl) 14 [0, 1, 2, 3, 4, 5, 6, 7, 8, 9, 10, 11, 12, 13] (List.take 14 _) (List.drop 14 _) [[], [0], [1], [2], [2], [2, 3, 4], [2, 5], [2], [2], [2, 8], [2, 7, 9], [2, 10], [2, 6, 11], [2, 12]] [17, 18, 19, 20, 21, 22, 23, 24, 25, 26, 27, 28, 29, 30] (fun i vs_ v_ p_ => match i with | 0 => v_ = .int .i64 (k : Int) ∧ p_ = [] | 1 => v_ = .bool true ∧ p_ = [] | 2 => v_ = .bool true ∧ p_ = [] | 3 => v_ = v2 ∧ p_ = [] | 4 => v_ = .int .i64 (k : Int) ∧ p_ = [] | 5 => v_ = elP v2 (((k : Int)).toNat * 1) ∧ p_ = [] | 6 => v_ = .int .i64 (ys.getD k 0) ∧ p_ = [] | 7 => v_ = v2 ∧ p_ = [] | 8 => v_ = .int .i64 (k : Int) ∧ p_ = [] | 9 => v_ = .int .i64 ((k : Int) - 1) ∧ p_ = [] | 10 => v_ = elP v2 (((k : Int) - 1).toNat * 1) ∧ p_ = [] | 11 => v_ = .int .i64 (ys.getD (((k : Int) - 1).toNat) 0) ∧ p_ = [] | 12 => v_ = .bool false ∧ p_ = [] | 13 => v_ = .bool false ∧ p_ = [] | _ => True) (List.take_append_drop 14 _).symm (by kernel_rfl) (by kernel_rfl) rfl rfl ?_ ?_
    ·
     refine ⟨?_, ?_, ?_, ?_, ?_, ?_, ?_, ?_, ?_, ?_, ?_, ?_, ?_, ?_, trivial⟩
     ·
      intro vf pf hR
      refine Or.inl ⟨rfl, ?_⟩
      refine rq_less (sx 5 rfl (sub_nil _)) (List.sublist_append_right _ _) ?_
      exact rq_v (rv_ev rfl)
     ·
      intro vf pf hR
      have e0 : (vf 0) = .int .i64 (k : Int) ∧ (pf 0) = [] := hR 0 (by decide)
      refine Or.inl ⟨rfl, ?_⟩
      refine rq_less (sx 17 (congrArg some e0.1) (sub_nil _)) (List.sublist_append_right _ _) ?_
      exact rq_mono (rq_v (rv_cmp rfl rfl rfl rfl)) (fun _ _ h => ⟨h.1.trans (congrArg Value.bool hb6), h.2⟩)
     ·
      intro vf pf hR
      have e1 : (vf 1) = .bool true ∧ (pf 1) = [] := hR 1 (by decide)
      refine Or.inl ⟨rfl, ?_⟩
      refine rq_less (sx 18 (congrArg some e1.1) (sub_nil _)) (List.sublist_append_right _ _) ?_
      exact rq_v (rv_ev rfl)
     ·
      intro vf pf hR
      have e2 : (vf 2) = .bool true ∧ (pf 2) = [] := hR 2 (by decide)
      refine Or.inl ⟨want_of (congrArg some e2.1) rfl, ?_⟩
      refine rq_less (sx 3 rfl (sub_nil _)) (List.sublist_append_right _ _) ?_
      exact rq_v (rv_ev rfl)
     ·
      intro vf pf hR
      have e2 : (vf 2) = .bool true ∧ (pf 2) = [] := hR 2 (by decide)
      refine Or.inl ⟨want_of (congrArg some e2.1) rfl, ?_⟩
      refine rq_less (sx 5 rfl (sub_nil _)) (List.sublist_append_right _ _) ?_
      exact rq_v (rv_ev rfl)
     ·
      intro vf pf hR
      have e2 : (vf 2) = .bool true ∧ (pf 2) = [] := hR 2 (by decide)
      have e3 : (vf 3) = v2 ∧ (pf 3) = [] := hR 3 (by decide)
      have e4 : (vf 4) = .int .i64 (k : Int) ∧ (pf 4) = [] := hR 4 (by decide)
      refine Or.inl ⟨want_of (congrArg some e2.1) rfl, ?_⟩
      refine rq_less (sx 20 (congrArg some e3.1) (sx 21 (congrArg some e4.1) (sub_nil _))) (List.sublist_append_right _ _) ?_
      exact rq_v (rv_index (s := 1) rfl Try.underlying30 (by kernel_rfl) rfl rfl (rd_row 0 rfl) (by omega) (by first | omega | (simp only [List.length_set]; omega)))
     ·
      intro vf pf hR
      have e2 : (vf 2) = .bool true ∧ (pf 2) = [] := hR 2 (by decide)
      have e5 : (vf 5) = elP v2 (((k : Int)).toNat * 1) ∧ (pf 5) = [] := hR 5 (by decide)
      refine Or.inl ⟨want_of (congrArg some e2.1) rfl, ?_⟩
      refine rq_less (sx 22 (congrArg some e5.1) (sub_nil _)) (List.sublist_append_right _ _) ?_
      exact rq_v (rv_loadEl (u := .int .i64 (ys.getD k 0)) rfl (by kernel_rfl) rfl (rd_row 0 rfl) (ints_at1 (show _ < ys.length by first | omega | (simp only [List.length_set]; omega))))
     ·
      intro vf pf hR
      have e2 : (vf 2) = .bool true ∧ (pf 2) = [] := hR 2 (by decide)
      refine Or.inl ⟨want_of (congrArg some e2.1) rfl, ?_⟩
      refine rq_less (sx 3 rfl (sub_nil _)) (List.sublist_append_right _ _) ?_
      exact rq_v (rv_ev rfl)
     ·
      intro vf pf hR
      have e2 : (vf 2) = .bool true ∧ (pf 2) = [] := hR 2 (by decide)
      refine Or.inl ⟨want_of (congrArg some e2.1) rfl, ?_⟩
      refine rq_less (sx 5 rfl (sub_nil _)) (List.sublist_append_right _ _) ?_
      exact rq_v (rv_ev rfl)
     ·
      intro vf pf hR
      have e2 : (vf 2) = .bool true ∧ (pf 2) = [] := hR 2 (by decide)
      have e8 : (vf 8) = .int .i64 (k : Int) ∧ (pf 8) = [] := hR 8 (by decide)
      refine Or.inl ⟨want_of (congrArg some e2.1) rfl, ?_⟩
      refine rq_less (sx 25 (congrArg some e8.1) (sub_nil _)) (List.sublist_append_right _ _) ?_
      exact rq_v (rv_sub rfl rfl rfl (by constructor <;> omega))
     ·
      intro vf pf hR
      have e2 : (vf 2) = .bool true ∧ (pf 2) = [] := hR 2 (by decide)
      have e7 : (vf 7) = v2 ∧ (pf 7) = [] := hR 7 (by decide)
      have e9 : (vf 9) = .int .i64 ((k : Int) - 1) ∧ (pf 9) = [] := hR 9 (by decide)
      refine Or.inl ⟨want_of (congrArg some e2.1) rfl, ?_⟩
      refine rq_less (sx 24 (congrArg some e7.1) (sx 26 (congrArg some e9.1) (sub_nil _))) (List.sublist_append_right _ _) ?_
      exact rq_v (rv_index (s := 1) rfl Try.underlying30 (by kernel_rfl) rfl rfl (rd_row 0 rfl) (by omega) (by first | omega | (simp only [List.length_set]; omega)))
     ·
      intro vf pf hR
      have e2 : (vf 2) = .bool true ∧ (pf 2) = [] := hR 2 (by decide)
      have e10 : (vf 10) = elP v2 (((k : Int) - 1).toNat * 1) ∧ (pf 10) = [] := hR 10 (by decide)
      refine Or.inl ⟨want_of (congrArg some e2.1) rfl, ?_⟩
      refine rq_less (sx 27 (congrArg some e10.1) (sub_nil _)) (List.sublist_append_right _ _) ?_
      exact rq_v (rv_loadEl (u := .int .i64 (ys.getD (((k : Int) - 1).toNat) 0)) rfl (by kernel_rfl) rfl (rd_row 0 rfl) (ints_at1 (show _ < ys.length by first | omega | (simp only [List.length_set]; omega))))
     ·
      intro vf pf hR
      have e2 : (vf 2) = .bool true ∧ (pf 2) = [] := hR 2 (by decide)
      have e6 : (vf 6) = .int .i64 (ys.getD k 0) ∧ (pf 6) = [] := hR 6 (by decide)
      have e11 : (vf 11) = .int .i64 (ys.getD (((k : Int) - 1).toNat) 0) ∧ (pf 11) = [] := hR 11 (by decide)
      refine Or.inl ⟨want_of (congrArg some e2.1) rfl, ?_⟩
      refine rq_less (sx 23 (congrArg some e6.1) (sx 28 (congrArg some e11.1) (sub_nil _))) (List.sublist_append_right _ _) ?_
      exact rq_mono (rq_v (rv_cmp rfl rfl rfl rfl)) (fun _ _ h => ⟨h.1.trans (congrArg Value.bool hb7), h.2⟩)
     ·
      intro vf pf hR
      have e2 : (vf 2) = .bool true ∧ (pf 2) = [] := hR 2 (by decide)
      have e12 : (vf 12) = .bool false ∧ (pf 12) = [] := hR 12 (by decide)
      refine Or.inl ⟨rfl, ?_⟩
      refine rq_less (sx 19 (congrArg some e2.1) (sx 29 (congrArg some e12.1) (sub_nil _))) (List.sublist_append_right _ _) ?_
      exact rq_v (rv_ev rfl)
    ·
     intro vf pf hR
     have e13 : (vf 13) = .bool false ∧ (pf 13) = [] := hR 13 (by decide)
     refine hl_less (l' := [rowE 3 1 v2 ys.length (ys.map (Value.int .i64))]) (sx 0 rfl (sx 2 rfl (sx 3 rfl (sx 4 rfl (sx 5 rfl (sx 13 rfl (sx 30 (congrArg some e13.1) (sub_nil _)))))))) (List.sublist_append_right _ _) ?_
     simp only [List.drop_succ_cons, List.drop_zero]
     refine hl_less (sx 0 rfl (sx 2 rfl (sx 3 rfl (sx 4 rfl (sx 5 rfl (sx 13 rfl (sx 30 rfl (sub_nil _)))))))) (.refl _) ?_
     refine hl_nil ?_
     refine hq_then ?_
     refine hc_false rfl ?_
     refine hc_exit ?_
     refine hq_then_exit ?_
     refine hq_then_exit ?_
     refine hq_block_exit ?_
     refine hq_block_normal ?_
     refine hq_then ?_
     refine hc_region ?_
     refine hl_v rfl rfl rfl (rv_ev rfl) ?_
     refine hl_v rfl rfl rfl (rv_add rfl rfl rfl (by constructor <;> omega)) ?_
     refine hl_v rfl rfl rfl (rv_ev rfl) ?_
     refine hl_less (sx 0 rfl (sx 2 rfl (sx 3 rfl (sx 4 rfl (sx 5 rfl (sx 13 rfl (sx 30 rfl (sub_nil _)))))))) (.refl _) ?_
     refine hl_nil ?_
     exact hq_round2 (i + 1) ys ⟨by omega, by omega, by rw [hy]; exact midS_end xs (i + 1) k (by omega) (by omega) hy1 (by first | (left; omega) | (right; omega))⟩ (by omega) (sx 0 rfl (sx 2 rfl (sx 3 rfl (sx 4 rfl (sub_nil _))))) ((.cons_cons _ .slnil))
  ·
   have hb6p : ¬ (0 < (k : Int)) := of_decide_eq_false hb6
   refine hc_draw (by kernel_rfl) 14 [0, 1, 2, 3, 4, 5, 6, 7, 8, 9, 10, 11, 12, 13] (List.take 14 _) (List.drop 14 _) [[], [0], [1], [2], [2], [2], [2], [2], [2], [2], [2], [2], [2], [2, 12]] [17, 18, 19, 20, 21, 22, 23, 24, 25, 26, 27, 28, 29, 30] (fun i vs_ v_ p_ => match i with | 0 => v_ = .int .i64 (k : Int) ∧ p_ = [] | 1 => v_ = .bool false ∧ p_ = [] | 2 => v_ = .bool false ∧ p_ = [] | 3 => v_ = undef ∧ p_ = [] | 4 => v_ = undef ∧ p_ = [] | 5 => v_ = undef ∧ p_ = [] | 6 => v_ = undef ∧ p_ = [] | 7 => v_ = undef ∧ p_ = [] | 8 => v_ = undef ∧ p_ = [] | 9 => v_ = undef ∧ p_ = [] | 10 => v_ = undef ∧ p_ = [] | 11 => v_ = undef ∧ p_ = [] | 12 => v_ = undef ∧ p_ = [] | 13 => v_ = .bool false ∧ p_ = [] | _ => True) (List.take_append_drop 14 _).symm (by kernel_rfl) (by kernel_rfl) rfl rfl ?_ ?_
   ·
    refine ⟨?_, ?_, ?_, ?_, ?_, ?_, ?_, ?_, ?_, ?_, ?_, ?_, ?_, ?_, trivial⟩
    ·
     intro vf pf hR
     refine Or.inl ⟨rfl, ?_⟩
     refine rq_less (sx 5 rfl (sub_nil _)) (List.sublist_append_right _ _) ?_
     exact rq_v (rv_ev rfl)
    ·
     intro vf pf hR
     have e0 : (vf 0) = .int .i64 (k : Int) ∧ (pf 0) = [] := hR 0 (by decide)
     refine Or.inl ⟨rfl, ?_⟩
     refine rq_less (sx 17 (congrArg some e0.1) (sub_nil _)) (List.sublist_append_right _ _) ?_
     exact rq_mono (rq_v (rv_cmp rfl rfl rfl rfl)) (fun _ _ h => ⟨h.1.trans (congrArg Value.bool hb6), h.2⟩)
    ·
     intro vf pf hR
     have e1 : (vf 1) = .bool false ∧ (pf 1) = [] := hR 1 (by decide)
     refine Or.inl ⟨rfl, ?_⟩
     refine rq_less (sx 18 (congrArg some e1.1) (sub_nil _)) (List.sublist_append_right _ _) ?_
     exact rq_v (rv_ev rfl)
    ·
     intro vf pf hR
     have e2 : (vf 2) = .bool false ∧ (pf 2) = [] := hR 2 (by decide)
     exact Or.inr ⟨want_of (congrArg some e2.1) rfl, rfl, rfl⟩
    ·
     intro vf pf hR
     have e2 : (vf 2) = .bool false ∧ (pf 2) = [] := hR 2 (by decide)
     exact Or.inr ⟨want_of (congrArg some e2.1) rfl, rfl, rfl⟩
    ·
     intro vf pf hR
     have e2 : (vf 2) = .bool false ∧ (pf 2) = [] := hR 2 (by decide)
     exact Or.inr ⟨want_of (congrArg some e2.1) rfl, rfl, rfl⟩
    ·
     intro vf pf hR
     have e2 : (vf 2) = .bool false ∧ (pf 2) = [] := hR 2 (by decide)
     exact Or.inr ⟨want_of (congrArg some e2.1) rfl, rfl, rfl⟩
    ·
     intro vf pf hR
     have e2 : (vf 2) = .bool false ∧ (pf 2) = [] := hR 2 (by decide)
     exact Or.inr ⟨want_of (congrArg some e2.1) rfl, rfl, rfl⟩
    ·
     intro vf pf hR
     have e2 : (vf 2) = .bool false ∧ (pf 2) = [] := hR 2 (by decide)
     exact Or.inr ⟨want_of (congrArg some e2.1) rfl, rfl, rfl⟩
    ·
     intro vf pf hR
     have e2 : (vf 2) = .bool false ∧ (pf 2) = [] := hR 2 (by decide)
     exact Or.inr ⟨want_of (congrArg some e2.1) rfl, rfl, rfl⟩
    ·
     intro vf pf hR
     have e2 : (vf 2) = .bool false ∧ (pf 2) = [] := hR 2 (by decide)
     exact Or.inr ⟨want_of (congrArg some e2.1) rfl, rfl, rfl⟩
    ·
     intro vf pf hR
     have e2 : (vf 2) = .bool false ∧ (pf 2) = [] := hR 2 (by decide)
     exact Or.inr ⟨want_of (congrArg some e2.1) rfl, rfl, rfl⟩
    ·
     intro vf pf hR
     have e2 : (vf 2) = .bool false ∧ (pf 2) = [] := hR 2 (by decide)
     exact Or.inr ⟨want_of (congrArg some e2.1) rfl, rfl, rfl⟩
    ·
     intro vf pf hR
     have e2 : (vf 2) = .bool false ∧ (pf 2) = [] := hR 2 (by decide)
     have e12 : (vf 12) = undef ∧ (pf 12) = [] := hR 12 (by decide)
     refine Or.inl ⟨rfl, ?_⟩
     refine rq_less (sx 19 (congrArg some e2.1) (sx 29 (congrArg some e12.1) (sub_nil _))) (List.sublist_append_right _ _) ?_
     exact rq_v (rv_ev rfl)
   ·
    intro vf pf hR
    have e13 : (vf 13) = .bool false ∧ (pf 13) = [] := hR 13 (by decide)
    refine hl_less (l' := [rowE 3 1 v2 ys.length (ys.map (Value.int .i64))]) (sx 0 rfl (sx 2 rfl (sx 3 rfl (sx 4 rfl (sx 5 rfl (sx 13 rfl (sx 30 (congrArg some e13.1) (sub_nil _)))))))) (List.sublist_append_right _ _) ?_
    simp only [List.drop_succ_cons, List.drop_zero]
    refine hl_less (sx 0 rfl (sx 2 rfl (sx 3 rfl (sx 4 rfl (sx 5 rfl (sx 13 rfl (sx 30 rfl (sub_nil _)))))))) (.refl _) ?_
    refine hl_nil ?_
    refine hq_then ?_
    refine hc_false rfl ?_
    refine hc_exit ?_
    refine hq_then_exit ?_
    refine hq_then_exit ?_
    refine hq_block_exit ?_
    refine hq_block_normal ?_
    refine hq_then ?_
    refine hc_region ?_
    refine hl_v rfl rfl rfl (rv_ev rfl) ?_
    refine hl_v rfl rfl rfl (rv_add rfl rfl rfl (by constructor <;> omega)) ?_
    refine hl_v rfl rfl rfl (rv_ev rfl) ?_
    refine hl_less (sx 0 rfl (sx 2 rfl (sx 3 rfl (sx 4 rfl (sx 5 rfl (sx 13 rfl (sx 30 rfl (sub_nil _)))))))) (.refl _) ?_
    refine hl_nil ?_
    exact hq_round2 (i + 1) ys ⟨by omega, by omega, by rw [hy]; exact midS_end xs (i + 1) k (by omega) (by omega) hy1 (by first | (left; omega) | (right; omega))⟩ (by omega) (sx 0 rfl (sx 2 rfl (sx 3 rfl (sx 4 rfl (sub_nil _))))) ((.cons_cons _ .slnil))
 ·
  refine hl_less (sx 0 rfl (sx 2 rfl (sx 3 rfl (sx 4 rfl (sx 13 rfl (sub_nil _)))))) (.refl _) ?_
  refine hl_nil ?_
  refine hq_then ?_
  refine hc_false rfl ?_
  refine hc_exit ?_
  refine hq_then_exit ?_
  refine hq_then_exit ?_
  refine hq_block_exit ?_
  refine hq_then ?_
  refine hc_seq ?_
  refine hc_region ?_
  refine hl_v rfl rfl rfl (rv_ev rfl) ?_
  refine hl_v rfl rfl rfl (rv_ev rfl) ?_
  refine hl_less (sx 0 rfl (sx 2 rfl (sx 3 rfl (sx 4 rfl (sx 13 rfl (sub_nil _)))))) (.refl _) ?_
  refine hl_nil ?_
  refine hq_then ?_
  refine hc_ret ?_
  exact hq_retR (post := [rowE 3 1 v2 zs.length (zs.map (Value.int .i64))]) rfl rfl ((.cons_cons _ .slnil)) (by rw [hz, List.take_of_length_le (by omega), List.drop_eq_nil_of_le (by omega), List.append_nil])
theorem bel_fin {w X : World} {d : Dev} {o o1 o2 : Obj} (h : DevS (w.alloc o) w.heap.size d X) : Below w.heap.size w ((X.alloc o1).alloc o2).drew.drew := ((bel_alloc (bel_alloc (devS_end h) o1) o2).drew).drew
theorem k4' {d : Dev} {t : Int} (h : (((t % d.W == 0) = true ∨ (t / d.W == 0) = true) ∨ (t % d.W == d.W - 1) = true) ∨ (t / d.W == d.H - 1) = true) : 0 = kindI d t := by
  rcases h with ((h | h) | h) | h
  · exact k4 (.inl (.inl (.inl h)))
  · exact k4 (.inl (.inr h))
  · exact k4 (.inl (.inl (.inr h)))
  · exact k4 (.inr h)
theorem k5' {d : Dev} {t : Int} (h : (((t % d.W == 0) = false ∧ (t / d.W == 0) = false) ∧ (t % d.W == d.W - 1) = false) ∧ (t / d.W == d.H - 1) = false) (h2 : (t % d.W == d.R) = true) : 2 = kindI d t :=
  k5 ⟨⟨⟨h.1.1.1, h.1.2⟩, h.1.1.2⟩, h.2⟩ h2
theorem k6' {d : Dev} {t : Int} (h : (((t % d.W == 0) = false ∧ (t / d.W == 0) = false) ∧ (t % d.W == d.W - 1) = false) ∧ (t / d.W == d.H - 1) = false) (h2 : (t % d.W == d.R) = false) : 1 = kindI d t :=
  k6 ⟨⟨⟨h.1.1.1, h.1.2⟩, h.1.1.2⟩, h.2⟩ h2
set_option maxHeartbeats 4000000 in
theorem specTileKind_any (d : Dev) (t : Int) (w : World) :
    Calls Try.prog 87 #[.agg #[.int .i64 d.W, .int .i64 d.H, .int .i64 d.T, .int .i64 d.R], .int .i64 t] w fun e w' => e = .returned (.int .i64 (tileKindI d t)) ∧ Below w.heap.size w w' := by
  rcases Bool.eq_false_or_eq_true (devB d) with hv | hv
  rotate_left
  · have hf := Lib.hid (show tileKindI d t = -1 from if_neg (by simp [tOk, hv]))
    have hS0 := devS_start w d
    have HS0 := Lib.hid hS0
    go_enter Try.func87, Try.ntmps87
    go_wp2_with fail
    refine (specDeviceOk_any d _).mono ?_
    rintro e w1 ⟨rfl, hb1⟩
    have hS1 := devS_step HS0.out hb1
    have HS1 := Lib.hid hS1
    clear hS0
    obtain ⟨c0, c1, c2, c3, -⟩ := hS1
    clear hb1
    have hz1 : w.heap.size < w1.heap.size := World.block_lt_of_cell? _ _ c0
    go_wp2
    go_ret
    exact ⟨rt_int hf.out.symm, devS_end HS1.out⟩
  obtain ⟨m1, m2⟩ := area_le hv
  obtain ⟨⟨a1, a2⟩, ⟨b1, b2⟩, -, -⟩ := (devB_iff d).1 hv
  by_cases h0 : t < 0
  · have hf := Lib.hid (show tileKindI d t = -1 from if_neg (by rw [tOk_iff]; omega))
    have hS0 := devS_start w d
    have HS0 := Lib.hid hS0
    go_enter Try.func87, Try.ntmps87
    go_wp2_with fail
    refine (specDeviceOk_any d _).mono ?_
    rintro e w1 ⟨rfl, hb1⟩
    have hS1 := devS_step HS0.out hb1
    have HS1 := Lib.hid hS1
    clear hS0
    obtain ⟨c0, c1, c2, c3, -⟩ := hS1
    clear hb1
    have hz1 : w.heap.size < w1.heap.size := World.block_lt_of_cell? _ _ c0
    go_wp2
    go_ret
    exact ⟨rt_int hf.out.symm, devS_end HS1.out⟩
  by_cases h1 : d.W * d.H ≤ t
  · have hf := Lib.hid (show tileKindI d t = -1 from if_neg (by rw [tOk_iff]; omega))
    have hS0 := devS_start w d
    have HS0 := Lib.hid hS0
    go_enter Try.func87, Try.ntmps87
    go_wp2_with fail
    refine (specDeviceOk_any d _).mono ?_
    rintro e w1 ⟨rfl, hb1⟩
    have hS1 := devS_step HS0.out hb1
    have HS1 := Lib.hid hS1
    clear hS0
    obtain ⟨c0, c1, c2, c3, -⟩ := hS1
    clear hb1
    have hz1 : w.heap.size < w1.heap.size := World.block_lt_of_cell? _ _ c0
    go_wp2
    go_ret
    exact ⟨rt_int hf.out.symm, devS_end HS1.out⟩
  · have hf := Lib.hid (show tileKindI d t = kindI d t from if_pos ((tOk_iff d t).2 ⟨hv, by omega, by omega⟩))
    have o1 := @k1_o d t
    have o2 := @k2_o d t
    have o3 := @k3_o d t
    have z : t ≤ 35 := by omega
    have hS0 := devS_start w d
    have HS0 := Lib.hid hS0
    go_enter Try.func87, Try.ntmps87
    go_wp2_with fail
    refine (specDeviceOk_any d _).mono ?_
    rintro e w1 ⟨rfl, hb1⟩
    have hS1 := devS_step HS0.out hb1
    have HS1 := Lib.hid hS1
    clear hS0
    obtain ⟨c0, c1, c2, c3, -⟩ := hS1
    clear hb1
    have hz1 : w.heap.size < w1.heap.size := World.block_lt_of_cell? _ _ c0
    clear o1 o2 o3
    go_wp2
    all_goals go_ret
    all_goals refine ⟨rt_int ?_, devS_end HS1.out⟩
    all_goals rw [hf.out]
    all_goals first | exact k1_o (by assumption) | exact k2_o (by assumption) | exact k3_o (by assumption) | exact k4' (by assumption) | exact k5' (by assumption) (by assumption) | exact k6' (by assumption) (by assumption)
set_option maxHeartbeats 400000 in
theorem specPer_any (d : Dev) (hv : devB d = true) (w : World) : Calls Try.prog 95 #[.agg #[.int .i64 d.W, .int .i64 d.H, .int .i64 d.T, .int .i64 d.R]] w fun e w' => e = .returned (.int .i64 (perI d)) ∧ Below w.heap.size w w' := by
  obtain ⟨-, -, ⟨t1, t2⟩, -⟩ := (devB_iff d).1 hv
  go_enter Try.func95, Try.ntmps95
  go_wp2
  go_ret
  exact ⟨rfl, bel_alloc (Below.refl _ _) _⟩
set_option maxHeartbeats 400000 in
theorem specInPins_any (k : Int) (h : k = 0 ∨ k = 1 ∨ k = 2) (w : World) : Calls Try.prog 131 #[.int .i64 k] w fun e w' => e = .returned (.int .i64 (inPinsI k)) ∧ w = w' := by
  rcases h with rfl | rfl | rfl
  all_goals
    go_enter Try.func131, Try.ntmps131
    go_wp2
    go_ret
    exact ⟨rfl, rfl⟩
set_option maxHeartbeats 400000 in
theorem specOutPins_any (k : Int) (h : k = 0 ∨ k = 1 ∨ k = 2) (w : World) : Calls Try.prog 123 #[.int .i64 k] w fun e w' => e = .returned (.int .i64 (outPinsI k)) ∧ w = w' := by
  rcases h with rfl | rfl | rfl
  all_goals
    go_enter Try.func123, Try.ntmps123
    go_wp2
    go_ret
    exact ⟨rfl, rfl⟩
set_option maxHeartbeats 1000000 in
theorem specRouteNodes_yes (d : Dev)  (hv : devB d = true) (w : World) :
    Calls Try.prog 56 #[.agg #[.int .i64 d.W, .int .i64 d.H, .int .i64 d.T, .int .i64 d.R]] w fun e w' => e = .returned (.int .i64 (allI d)) ∧ Below w.heap.size w w' := by
  obtain ⟨h1, h2⟩ := per_rng hv
  obtain ⟨m1, m2⟩ := area_le hv
  obtain ⟨h3, h4⟩ := all_rng hv
  unfold allI at h3 h4
  have e1 : IntKind.i64.wrap (d.W * d.H) = d.W * d.H := IntWalk.i64_in _ (by omega)
  have e2 : IntKind.i64.wrap (d.W * d.H * perI d) = d.W * d.H * perI d := IntWalk.i64_in _ (by omega)
  have hS0 := devS_start w d
  have HS0 := Lib.hid hS0
  go_enter Try.func56, Try.ntmps56
  go_wp2_with fail
  refine (specDeviceOk_any d _).mono ?_
  rintro e w1 ⟨rfl, hb1⟩
  have hS1 := devS_step HS0.out hb1
  have HS1 := Lib.hid hS1
  clear hS0
  obtain ⟨c0, c1, c2, c3, -⟩ := hS1
  clear hb1
  have hz1 : w.heap.size < w1.heap.size := World.block_lt_of_cell? _ _ c0
  have hS := HS1.out
  clear c0 c1 c2 c3
  go_wp2
  go_region_held3 (fun w' => DevS (w.alloc (.cells #[.int .i64 d.W, .int .i64 d.H, .int .i64 d.T, .int .i64 d.R] 25)) w.heap.size d w') (first | assumption | exact devS_drew (by assumption) | exact devS_alloc (by assumption) _ | exact devS_step (by assumption) (by assumption)) (first | (go_at_call 95; refine (specPer_any d hv _).mono ?_; rintro e w1 ⟨rfl, hb1⟩))
  go_wp2
  go_ret
  exact ⟨rfl, devS_end (by assumption)⟩
set_option maxHeartbeats 1000000 in
theorem specRouteNodes_no (d : Dev)  (hv : devB d = false) (w : World) :
    Calls Try.prog 56 #[.agg #[.int .i64 d.W, .int .i64 d.H, .int .i64 d.T, .int .i64 d.R]] w fun e w' => e = .returned (.int .i64 0) ∧ Below w.heap.size w w' := by
  have hS0 := devS_start w d
  have HS0 := Lib.hid hS0
  go_enter Try.func56, Try.ntmps56
  go_wp2_with fail
  refine (specDeviceOk_any d _).mono ?_
  rintro e w1 ⟨rfl, hb1⟩
  have hS1 := devS_step HS0.out hb1
  have HS1 := Lib.hid hS1
  clear hS0
  obtain ⟨c0, c1, c2, c3, -⟩ := hS1
  clear hb1
  have hz1 : w.heap.size < w1.heap.size := World.block_lt_of_cell? _ _ c0
  go_wp2
  go_ret
  exact ⟨rfl, devS_end HS1.out⟩
set_option maxHeartbeats 1000000 in
theorem specWire_any (d : Dev) (n : Int) (hv : devB d = true) (n0 : 0 ≤ n) (n1 : n ≤ allI d - 1) (k7 : 7 ≤ n % perI d) (w : World) :
    Calls Try.prog 122 #[.agg #[.int .i64 d.W, .int .i64 d.H, .int .i64 d.T, .int .i64 d.R], .int .i64 n] w fun e w' => e = .returned (.tuple #[.int .i64 ((n % perI d - 7) / d.T), .int .i64 ((n % perI d - 7) % d.T)]) ∧ Below w.heap.size w w' := by
  obtain ⟨h1, h2⟩ := per_rng hv
  obtain ⟨m1, m2⟩ := all_rng hv
  obtain ⟨p0, p1, p2, p3, p4⟩ := place_rng hv n0 n1
  obtain ⟨-, -, ⟨t1, t2⟩, -⟩ := (devB_iff d).1 hv
  obtain ⟨g0, g1, g2, g3⟩ := wire_rng hv k7 p3
  have hS0 := devS_start w d
  have HS0 := Lib.hid hS0
  go_enter Try.func122, Try.ntmps122
  go_wp2_with fail
  refine (specPer_any d hv _).mono ?_
  rintro e w1 ⟨rfl, hb1⟩
  have hS1 := devS_step HS0.out hb1
  have HS1 := Lib.hid hS1
  clear hS0
  obtain ⟨c0, c1, c2, c3, -⟩ := hS1
  clear hb1
  have hz1 : w.heap.size < w1.heap.size := World.block_lt_of_cell? _ _ c0
  go_wp2
  go_quiet (fail)
  go_wp2
  go_ret2
  exact ⟨rfl, bel_drewN (devS_end HS1.out) _⟩
set_option maxHeartbeats 4000000 in
theorem specTileStep_any (d : Dev) (t dir s : Int) (w : World) :
    Calls Try.prog 32 #[.agg #[.int .i64 d.W, .int .i64 d.H, .int .i64 d.T, .int .i64 d.R], .int .i64 t, .int .i64 dir, .int .i64 s] w fun e w' => e = .returned (.int .i64 (tileStepI d t dir s)) ∧ Below w.heap.size w w' := by
  rcases Bool.eq_false_or_eq_true (tOk d t) with hd | hd
  rotate_left
  · have hf := Lib.hid (show tileStepI d t dir s = -1 from if_neg (by simp [hd]))
    have hk := Lib.hid (show tileKindI d t = -1 from if_neg (by simp [hd]))
    have hS0 := devS_start w d
    have HS0 := Lib.hid hS0
    go_enter Try.func32, Try.ntmps32
    go_wp2_with fail
    refine (specTileKind_any d t _).mono ?_
    rintro e w1 ⟨rfl, hb1⟩
    have hS1 := devS_step HS0.out hb1
    have HS1 := Lib.hid hS1
    clear hS0
    obtain ⟨c0, c1, c2, c3, -⟩ := hS1
    clear hb1
    have hz1 : w.heap.size < w1.heap.size := World.block_lt_of_cell? _ _ c0
    rw [hk.out]
    go_wp2
    go_ret
    exact ⟨rt_int hf.out.symm, devS_end HS1.out⟩
  have hk : 0 ≤ tileKindI d t := by rw [show tileKindI d t = kindI d t from if_pos hd]; rcases kind_cases d t with h | h | h <;> omega
  rcases Bool.eq_false_or_eq_true (inR dir 0 3) with h1 | h1
  rotate_left
  · have hf := Lib.hid (show tileStepI d t dir s = -1 from if_neg (by simp [h1]))
    have hS0 := devS_start w d
    have HS0 := Lib.hid hS0
    go_enter Try.func32, Try.ntmps32
    go_wp2_with fail
    refine (specTileKind_any d t _).mono ?_
    rintro e w1 ⟨rfl, hb1⟩
    have hS1 := devS_step HS0.out hb1
    have HS1 := Lib.hid hS1
    clear hS0
    obtain ⟨c0, c1, c2, c3, -⟩ := hS1
    clear hb1
    have hz1 : w.heap.size < w1.heap.size := World.block_lt_of_cell? _ _ c0
    go_wp2_with fail
    refine (l01In_any _ _ _ _).mono ?_
    rintro e w' ⟨rfl, rfl⟩
    go_wp2
    go_ret
    exact ⟨rt_int hf.out.symm, devS_end HS1.out⟩
  rcases Bool.eq_false_or_eq_true (inR s 0 6) with h2 | h2
  rotate_left
  · have hf := Lib.hid (show tileStepI d t dir s = -1 from if_neg (by simp [h2]))
    have hS0 := devS_start w d
    have HS0 := Lib.hid hS0
    go_enter Try.func32, Try.ntmps32
    go_wp2_with fail
    refine (specTileKind_any d t _).mono ?_
    rintro e w1 ⟨rfl, hb1⟩
    have hS1 := devS_step HS0.out hb1
    have HS1 := Lib.hid hS1
    clear hS0
    obtain ⟨c0, c1, c2, c3, -⟩ := hS1
    clear hb1
    have hz1 : w.heap.size < w1.heap.size := World.block_lt_of_cell? _ _ c0
    go_wp2_with fail
    refine (l01In_any _ _ _ _).mono ?_
    rintro e w' ⟨rfl, rfl⟩
    go_wp2_with fail
    refine (l01In_any _ _ _ _).mono ?_
    rintro e w' ⟨rfl, rfl⟩
    go_wp2
    go_ret
    exact ⟨rt_int hf.out.symm, devS_end HS1.out⟩
  have hf0 : tileStepI d t dir s = stepI d t dir s := if_pos ⟨hd, h1, h2⟩
  obtain ⟨hv, t0, t1⟩ := (tOk_iff d t).1 hd
  obtain ⟨r0, r1⟩ := (inR_iff _ _ _).1 h1
  obtain ⟨s0, s1⟩ := (inR_iff _ _ _).1 h2
  obtain ⟨x0, x1, y0, y1, -⟩ := tile_xy hv t0 t1
  obtain ⟨m1, m2⟩ := area_le hv
  obtain ⟨⟨a1, a2⟩, ⟨b1, b2⟩, -, -⟩ := (devB_iff d).1 hv
  have q1 : ¬ d.W = 0 := by omega
  have q2 : IntKind.i64.wrap (t.tdiv d.W) = t / d.W := IntWalk.i64_quo _ _ (by omega)
  have q3 : t.tmod d.W = t % d.W := Int.tmod_eq_emod_of_nonneg t0
  obtain rfl | rfl | rfl | rfl : dir = 0 ∨ dir = 1 ∨ dir = 2 ∨ dir = 3 := by omega
  · have ex : dX 0 s = s := by simp [dX]
    have ey : dY 0 s = 0 := by simp [dY]
    have gx : t % d.W + dX 0 s = t % d.W + s := by first | (rw [ex]; done) | (rw [ex]; omega)
    have gy : t / d.W + dY 0 s = t / d.W := by first | (rw [ey]; done) | (rw [ey]; omega)
    have o1 := @step_out1 d t 0 s
    have o2 := @step_out2 d t 0 s
    have o3 := @step_in d t 0 s
    rw [gx] at o1 o3
    rw [gy] at o2 o3
    clear ex ey gx gy
    rcases Bool.eq_false_or_eq_true (inR (t % d.W + s) 0 (d.W - 1)) with h3 | h3
    rotate_left
    · have hf := Lib.hid (hf0.trans (o1 h3).symm)
      clear o1 o2 o3 hf0
      have hS0 := devS_start w d
      have HS0 := Lib.hid hS0
      go_enter Try.func32, Try.ntmps32
      go_wp2_with fail
      refine (specTileKind_any d t _).mono ?_
      rintro e w1 ⟨rfl, hb1⟩
      have hS1 := devS_step HS0.out hb1
      have HS1 := Lib.hid hS1
      clear hS0
      obtain ⟨c0, c1, c2, c3, -⟩ := hS1
      clear hb1
      have hz1 : w.heap.size < w1.heap.size := World.block_lt_of_cell? _ _ c0
      go_wp2_with fail
      refine (l01In_any _ _ _ _).mono ?_
      rintro e w' ⟨rfl, rfl⟩
      go_wp2_with fail
      refine (l01In_any _ _ _ _).mono ?_
      rintro e w' ⟨rfl, rfl⟩
      go_wp2
      go_region
      go_wp2
      go_region
      go_wp2_with (go_at_call 88; refine (l01In_any _ _ _ _).mono ?_; rintro e w' ⟨rfl, rfl⟩)
      go_ret
      exact ⟨rt_int hf.out.symm, bel_fin HS1.out⟩
    rcases Bool.eq_false_or_eq_true (inR (t / d.W) 0 (d.H - 1)) with h4 | h4
    rotate_left
    · have hf := Lib.hid (hf0.trans (o2 h4).symm)
      clear o1 o2 o3 hf0
      have hS0 := devS_start w d
      have HS0 := Lib.hid hS0
      go_enter Try.func32, Try.ntmps32
      go_wp2_with fail
      refine (specTileKind_any d t _).mono ?_
      rintro e w1 ⟨rfl, hb1⟩
      have hS1 := devS_step HS0.out hb1
      have HS1 := Lib.hid hS1
      clear hS0
      obtain ⟨c0, c1, c2, c3, -⟩ := hS1
      clear hb1
      have hz1 : w.heap.size < w1.heap.size := World.block_lt_of_cell? _ _ c0
      go_wp2_with fail
      refine (l01In_any _ _ _ _).mono ?_
      rintro e w' ⟨rfl, rfl⟩
      go_wp2_with fail
      refine (l01In_any _ _ _ _).mono ?_
      rintro e w' ⟨rfl, rfl⟩
      go_wp2
      go_region
      go_wp2
      go_region
      go_wp2_with (go_at_call 88; refine (l01In_any _ _ _ _).mono ?_; rintro e w' ⟨rfl, rfl⟩)
      go_ret
      exact ⟨rt_int hf.out.symm, bel_fin HS1.out⟩
    · have hf := Lib.hid (hf0.trans (o3 h3 h4).symm)
      clear o1 o2 o3 hf0
      obtain ⟨i1, i2⟩ := (inR_iff _ _ _).1 h3
      obtain ⟨i3, i4⟩ := (inR_iff _ _ _).1 h4
      have i5 : 0 ≤ (t / d.W) * d.W ∧ (t / d.W) * d.W ≤ 36 := ⟨Int.mul_nonneg i3 (by omega), Int.le_trans (Int.mul_le_mul (show t / d.W ≤ 6 by omega) a2 (by omega) (by omega)) (by omega)⟩
      have hS0 := devS_start w d
      have HS0 := Lib.hid hS0
      go_enter Try.func32, Try.ntmps32
      go_wp2_with fail
      refine (specTileKind_any d t _).mono ?_
      rintro e w1 ⟨rfl, hb1⟩
      have hS1 := devS_step HS0.out hb1
      have HS1 := Lib.hid hS1
      clear hS0
      obtain ⟨c0, c1, c2, c3, -⟩ := hS1
      clear hb1
      have hz1 : w.heap.size < w1.heap.size := World.block_lt_of_cell? _ _ c0
      go_wp2_with fail
      refine (l01In_any _ _ _ _).mono ?_
      rintro e w' ⟨rfl, rfl⟩
      go_wp2_with fail
      refine (l01In_any _ _ _ _).mono ?_
      rintro e w' ⟨rfl, rfl⟩
      go_wp2
      go_region
      go_wp2
      go_region
      go_wp2_with (go_at_call 88; refine (l01In_any _ _ _ _).mono ?_; rintro e w' ⟨rfl, rfl⟩)
      go_ret
      exact ⟨rt_int hf.out.symm, bel_fin HS1.out⟩
  · have ex : dX 1 s = 0 := by simp [dX]
    have ey : dY 1 s = s := by simp [dY]
    have gx : t % d.W + dX 1 s = t % d.W := by first | (rw [ex]; done) | (rw [ex]; omega)
    have gy : t / d.W + dY 1 s = t / d.W + s := by first | (rw [ey]; done) | (rw [ey]; omega)
    have o1 := @step_out1 d t 1 s
    have o2 := @step_out2 d t 1 s
    have o3 := @step_in d t 1 s
    rw [gx] at o1 o3
    rw [gy] at o2 o3
    clear ex ey gx gy
    rcases Bool.eq_false_or_eq_true (inR (t % d.W) 0 (d.W - 1)) with h3 | h3
    rotate_left
    · have hf := Lib.hid (hf0.trans (o1 h3).symm)
      clear o1 o2 o3 hf0
      have hS0 := devS_start w d
      have HS0 := Lib.hid hS0
      go_enter Try.func32, Try.ntmps32
      go_wp2_with fail
      refine (specTileKind_any d t _).mono ?_
      rintro e w1 ⟨rfl, hb1⟩
      have hS1 := devS_step HS0.out hb1
      have HS1 := Lib.hid hS1
      clear hS0
      obtain ⟨c0, c1, c2, c3, -⟩ := hS1
      clear hb1
      have hz1 : w.heap.size < w1.heap.size := World.block_lt_of_cell? _ _ c0
      go_wp2_with fail
      refine (l01In_any _ _ _ _).mono ?_
      rintro e w' ⟨rfl, rfl⟩
      go_wp2_with fail
      refine (l01In_any _ _ _ _).mono ?_
      rintro e w' ⟨rfl, rfl⟩
      go_wp2
      go_region
      go_wp2
      go_region
      go_wp2_with (go_at_call 88; refine (l01In_any _ _ _ _).mono ?_; rintro e w' ⟨rfl, rfl⟩)
      go_ret
      exact ⟨rt_int hf.out.symm, bel_fin HS1.out⟩
    rcases Bool.eq_false_or_eq_true (inR (t / d.W + s) 0 (d.H - 1)) with h4 | h4
    rotate_left
    · have hf := Lib.hid (hf0.trans (o2 h4).symm)
      clear o1 o2 o3 hf0
      have hS0 := devS_start w d
      have HS0 := Lib.hid hS0
      go_enter Try.func32, Try.ntmps32
      go_wp2_with fail
      refine (specTileKind_any d t _).mono ?_
      rintro e w1 ⟨rfl, hb1⟩
      have hS1 := devS_step HS0.out hb1
      have HS1 := Lib.hid hS1
      clear hS0
      obtain ⟨c0, c1, c2, c3, -⟩ := hS1
      clear hb1
      have hz1 : w.heap.size < w1.heap.size := World.block_lt_of_cell? _ _ c0
      go_wp2_with fail
      refine (l01In_any _ _ _ _).mono ?_
      rintro e w' ⟨rfl, rfl⟩
      go_wp2_with fail
      refine (l01In_any _ _ _ _).mono ?_
      rintro e w' ⟨rfl, rfl⟩
      go_wp2
      go_region
      go_wp2
      go_region
      go_wp2_with (go_at_call 88; refine (l01In_any _ _ _ _).mono ?_; rintro e w' ⟨rfl, rfl⟩)
      go_ret
      exact ⟨rt_int hf.out.symm, bel_fin HS1.out⟩
    · have hf := Lib.hid (hf0.trans (o3 h3 h4).symm)
      clear o1 o2 o3 hf0
      obtain ⟨i1, i2⟩ := (inR_iff _ _ _).1 h3
      obtain ⟨i3, i4⟩ := (inR_iff _ _ _).1 h4
      have i5 : 0 ≤ (t / d.W + s) * d.W ∧ (t / d.W + s) * d.W ≤ 36 := ⟨Int.mul_nonneg i3 (by omega), Int.le_trans (Int.mul_le_mul (show t / d.W + s ≤ 6 by omega) a2 (by omega) (by omega)) (by omega)⟩
      have hS0 := devS_start w d
      have HS0 := Lib.hid hS0
      go_enter Try.func32, Try.ntmps32
      go_wp2_with fail
      refine (specTileKind_any d t _).mono ?_
      rintro e w1 ⟨rfl, hb1⟩
      have hS1 := devS_step HS0.out hb1
      have HS1 := Lib.hid hS1
      clear hS0
      obtain ⟨c0, c1, c2, c3, -⟩ := hS1
      clear hb1
      have hz1 : w.heap.size < w1.heap.size := World.block_lt_of_cell? _ _ c0
      go_wp2_with fail
      refine (l01In_any _ _ _ _).mono ?_
      rintro e w' ⟨rfl, rfl⟩
      go_wp2_with fail
      refine (l01In_any _ _ _ _).mono ?_
      rintro e w' ⟨rfl, rfl⟩
      go_wp2
      go_region
      go_wp2
      go_region
      go_wp2_with (go_at_call 88; refine (l01In_any _ _ _ _).mono ?_; rintro e w' ⟨rfl, rfl⟩)
      go_ret
      exact ⟨rt_int hf.out.symm, bel_fin HS1.out⟩
  · have ex : dX 2 s = -s := by simp [dX]
    have ey : dY 2 s = 0 := by simp [dY]
    have gx : t % d.W + dX 2 s = t % d.W + -s := by first | (rw [ex]; done) | (rw [ex]; omega)
    have gy : t / d.W + dY 2 s = t / d.W := by first | (rw [ey]; done) | (rw [ey]; omega)
    have o1 := @step_out1 d t 2 s
    have o2 := @step_out2 d t 2 s
    have o3 := @step_in d t 2 s
    rw [gx] at o1 o3
    rw [gy] at o2 o3
    clear ex ey gx gy
    rcases Bool.eq_false_or_eq_true (inR (t % d.W + -s) 0 (d.W - 1)) with h3 | h3
    rotate_left
    · have hf := Lib.hid (hf0.trans (o1 h3).symm)
      clear o1 o2 o3 hf0
      have hS0 := devS_start w d
      have HS0 := Lib.hid hS0
      go_enter Try.func32, Try.ntmps32
      go_wp2_with fail
      refine (specTileKind_any d t _).mono ?_
      rintro e w1 ⟨rfl, hb1⟩
      have hS1 := devS_step HS0.out hb1
      have HS1 := Lib.hid hS1
      clear hS0
      obtain ⟨c0, c1, c2, c3, -⟩ := hS1
      clear hb1
      have hz1 : w.heap.size < w1.heap.size := World.block_lt_of_cell? _ _ c0
      go_wp2_with fail
      refine (l01In_any _ _ _ _).mono ?_
      rintro e w' ⟨rfl, rfl⟩
      go_wp2_with fail
      refine (l01In_any _ _ _ _).mono ?_
      rintro e w' ⟨rfl, rfl⟩
      go_wp2
      go_region
      go_wp2
      go_region
      go_wp2_with (go_at_call 88; refine (l01In_any _ _ _ _).mono ?_; rintro e w' ⟨rfl, rfl⟩)
      go_ret
      exact ⟨rt_int hf.out.symm, bel_fin HS1.out⟩
    rcases Bool.eq_false_or_eq_true (inR (t / d.W) 0 (d.H - 1)) with h4 | h4
    rotate_left
    · have hf := Lib.hid (hf0.trans (o2 h4).symm)
      clear o1 o2 o3 hf0
      have hS0 := devS_start w d
      have HS0 := Lib.hid hS0
      go_enter Try.func32, Try.ntmps32
      go_wp2_with fail
      refine (specTileKind_any d t _).mono ?_
      rintro e w1 ⟨rfl, hb1⟩
      have hS1 := devS_step HS0.out hb1
      have HS1 := Lib.hid hS1
      clear hS0
      obtain ⟨c0, c1, c2, c3, -⟩ := hS1
      clear hb1
      have hz1 : w.heap.size < w1.heap.size := World.block_lt_of_cell? _ _ c0
      go_wp2_with fail
      refine (l01In_any _ _ _ _).mono ?_
      rintro e w' ⟨rfl, rfl⟩
      go_wp2_with fail
      refine (l01In_any _ _ _ _).mono ?_
      rintro e w' ⟨rfl, rfl⟩
      go_wp2
      go_region
      go_wp2
      go_region
      go_wp2_with (go_at_call 88; refine (l01In_any _ _ _ _).mono ?_; rintro e w' ⟨rfl, rfl⟩)
      go_ret
      exact ⟨rt_int hf.out.symm, bel_fin HS1.out⟩
    · have hf := Lib.hid (hf0.trans (o3 h3 h4).symm)
      clear o1 o2 o3 hf0
      obtain ⟨i1, i2⟩ := (inR_iff _ _ _).1 h3
      obtain ⟨i3, i4⟩ := (inR_iff _ _ _).1 h4
      have i5 : 0 ≤ (t / d.W) * d.W ∧ (t / d.W) * d.W ≤ 36 := ⟨Int.mul_nonneg i3 (by omega), Int.le_trans (Int.mul_le_mul (show t / d.W ≤ 6 by omega) a2 (by omega) (by omega)) (by omega)⟩
      have hS0 := devS_start w d
      have HS0 := Lib.hid hS0
      go_enter Try.func32, Try.ntmps32
      go_wp2_with fail
      refine (specTileKind_any d t _).mono ?_
      rintro e w1 ⟨rfl, hb1⟩
      have hS1 := devS_step HS0.out hb1
      have HS1 := Lib.hid hS1
      clear hS0
      obtain ⟨c0, c1, c2, c3, -⟩ := hS1
      clear hb1
      have hz1 : w.heap.size < w1.heap.size := World.block_lt_of_cell? _ _ c0
      go_wp2_with fail
      refine (l01In_any _ _ _ _).mono ?_
      rintro e w' ⟨rfl, rfl⟩
      go_wp2_with fail
      refine (l01In_any _ _ _ _).mono ?_
      rintro e w' ⟨rfl, rfl⟩
      go_wp2
      go_region
      go_wp2
      go_region
      go_wp2_with (go_at_call 88; refine (l01In_any _ _ _ _).mono ?_; rintro e w' ⟨rfl, rfl⟩)
      go_ret
      exact ⟨rt_int hf.out.symm, bel_fin HS1.out⟩
  · have ex : dX 3 s = 0 := by simp [dX]
    have ey : dY 3 s = -s := by simp [dY]
    have gx : t % d.W + dX 3 s = t % d.W := by first | (rw [ex]; done) | (rw [ex]; omega)
    have gy : t / d.W + dY 3 s = t / d.W + -s := by first | (rw [ey]; done) | (rw [ey]; omega)
    have o1 := @step_out1 d t 3 s
    have o2 := @step_out2 d t 3 s
    have o3 := @step_in d t 3 s
    rw [gx] at o1 o3
    rw [gy] at o2 o3
    clear ex ey gx gy
    rcases Bool.eq_false_or_eq_true (inR (t % d.W) 0 (d.W - 1)) with h3 | h3
    rotate_left
    · have hf := Lib.hid (hf0.trans (o1 h3).symm)
      clear o1 o2 o3 hf0
      have hS0 := devS_start w d
      have HS0 := Lib.hid hS0
      go_enter Try.func32, Try.ntmps32
      go_wp2_with fail
      refine (specTileKind_any d t _).mono ?_
      rintro e w1 ⟨rfl, hb1⟩
      have hS1 := devS_step HS0.out hb1
      have HS1 := Lib.hid hS1
      clear hS0
      obtain ⟨c0, c1, c2, c3, -⟩ := hS1
      clear hb1
      have hz1 : w.heap.size < w1.heap.size := World.block_lt_of_cell? _ _ c0
      go_wp2_with fail
      refine (l01In_any _ _ _ _).mono ?_
      rintro e w' ⟨rfl, rfl⟩
      go_wp2_with fail
      refine (l01In_any _ _ _ _).mono ?_
      rintro e w' ⟨rfl, rfl⟩
      go_wp2
      go_region
      go_wp2
      go_region
      go_wp2_with (go_at_call 88; refine (l01In_any _ _ _ _).mono ?_; rintro e w' ⟨rfl, rfl⟩)
      go_ret
      exact ⟨rt_int hf.out.symm, bel_fin HS1.out⟩
    rcases Bool.eq_false_or_eq_true (inR (t / d.W + -s) 0 (d.H - 1)) with h4 | h4
    rotate_left
    · have hf := Lib.hid (hf0.trans (o2 h4).symm)
      clear o1 o2 o3 hf0
      have hS0 := devS_start w d
      have HS0 := Lib.hid hS0
      go_enter Try.func32, Try.ntmps32
      go_wp2_with fail
      refine (specTileKind_any d t _).mono ?_
      rintro e w1 ⟨rfl, hb1⟩
      have hS1 := devS_step HS0.out hb1
      have HS1 := Lib.hid hS1
      clear hS0
      obtain ⟨c0, c1, c2, c3, -⟩ := hS1
      clear hb1
      have hz1 : w.heap.size < w1.heap.size := World.block_lt_of_cell? _ _ c0
      go_wp2_with fail
      refine (l01In_any _ _ _ _).mono ?_
      rintro e w' ⟨rfl, rfl⟩
      go_wp2_with fail
      refine (l01In_any _ _ _ _).mono ?_
      rintro e w' ⟨rfl, rfl⟩
      go_wp2
      go_region
      go_wp2
      go_region
      go_wp2_with (go_at_call 88; refine (l01In_any _ _ _ _).mono ?_; rintro e w' ⟨rfl, rfl⟩)
      go_ret
      exact ⟨rt_int hf.out.symm, bel_fin HS1.out⟩
    · have hf := Lib.hid (hf0.trans (o3 h3 h4).symm)
      clear o1 o2 o3 hf0
      obtain ⟨i1, i2⟩ := (inR_iff _ _ _).1 h3
      obtain ⟨i3, i4⟩ := (inR_iff _ _ _).1 h4
      have i5 : 0 ≤ (t / d.W + -s) * d.W ∧ (t / d.W + -s) * d.W ≤ 36 := ⟨Int.mul_nonneg i3 (by omega), Int.le_trans (Int.mul_le_mul (show t / d.W + -s ≤ 6 by omega) a2 (by omega) (by omega)) (by omega)⟩
      have hS0 := devS_start w d
      have HS0 := Lib.hid hS0
      go_enter Try.func32, Try.ntmps32
      go_wp2_with fail
      refine (specTileKind_any d t _).mono ?_
      rintro e w1 ⟨rfl, hb1⟩
      have hS1 := devS_step HS0.out hb1
      have HS1 := Lib.hid hS1
      clear hS0
      obtain ⟨c0, c1, c2, c3, -⟩ := hS1
      clear hb1
      have hz1 : w.heap.size < w1.heap.size := World.block_lt_of_cell? _ _ c0
      go_wp2_with fail
      refine (l01In_any _ _ _ _).mono ?_
      rintro e w' ⟨rfl, rfl⟩
      go_wp2_with fail
      refine (l01In_any _ _ _ _).mono ?_
      rintro e w' ⟨rfl, rfl⟩
      go_wp2
      go_region
      go_wp2
      go_region
      go_wp2_with (go_at_call 88; refine (l01In_any _ _ _ _).mono ?_; rintro e w' ⟨rfl, rfl⟩)
      go_ret
      exact ⟨rt_int hf.out.symm, bel_fin HS1.out⟩
theorem tileStep_eq {d : Dev} {t dir s : Int} (h : tOk d t = true) (r0 : 0 ≤ dir) (r1 : dir ≤ 3) (s0 : 0 ≤ s) (s1 : s ≤ 6) : tileStepI d t dir s = stepI d t dir s := if_pos ⟨h, inR_true r0 r1, inR_true s0 s1⟩
theorem tileKind_eq {d : Dev} {t : Int} (h : tOk d t = true) : tileKindI d t = kindI d t := if_pos h
set_option maxHeartbeats 4000000 in
theorem specRouteNodeOk_any (d : Dev) (n : Int) (w : World) :
    Calls Try.prog 96 #[.agg #[.int .i64 d.W, .int .i64 d.H, .int .i64 d.T, .int .i64 d.R], .int .i64 n] w fun e w' => e = .returned (.bool (nodeOkI d n)) ∧ Below w.heap.size w w' := by
  by_cases hneg : n < 0
  · have hf : Hid (nodeOkI d n = false) := nodeOk_out (inR_false (.inl hneg))
    have hS0 := devS_start w d
    have HS0 := Lib.hid hS0
    go_enter Try.func96, Try.ntmps96
    go_wp2
    go_ret
    exact ⟨rt_bool hf.out.symm, devS_end HS0.out⟩
  rcases Bool.eq_false_or_eq_true (devB d) with hv | hv
  rotate_left
  · have hf := Lib.hid (nodeOk_dev (n := n) hv)
    have hS0 := devS_start w d
    have HS0 := Lib.hid hS0
    go_enter Try.func96, Try.ntmps96
    go_wp2_with fail
    refine (specRouteNodes_no d hv _).mono ?_
    rintro e w1 ⟨rfl, hb1⟩
    have hS1 := devS_step HS0.out hb1
    have HS1 := Lib.hid hS1
    clear hS0
    obtain ⟨c0, c1, c2, c3, -⟩ := hS1
    clear hb1
    have hz1 : w.heap.size < w1.heap.size := World.block_lt_of_cell? _ _ c0
    go_wp2
    go_ret
    exact ⟨rt_bool hf.out.symm, devS_end HS1.out⟩
  obtain ⟨m1, m2⟩ := all_rng hv
  by_cases hbig : allI d ≤ n
  · have hf : Hid (nodeOkI d n = false) := nodeOk_out (inR_false (.inr (by omega)))
    have hS0 := devS_start w d
    have HS0 := Lib.hid hS0
    go_enter Try.func96, Try.ntmps96
    go_wp2_with fail
    refine (specRouteNodes_yes d hv _).mono ?_
    rintro e w1 ⟨rfl, hb1⟩
    have hS1 := devS_step HS0.out hb1
    have HS1 := Lib.hid hS1
    clear hS0
    obtain ⟨c0, c1, c2, c3, -⟩ := hS1
    clear hb1
    have hz1 : w.heap.size < w1.heap.size := World.block_lt_of_cell? _ _ c0
    go_wp2
    go_ret
    exact ⟨rt_bool hf.out.symm, devS_end HS1.out⟩
  have n0 : 0 ≤ n := by omega
  have n1 : n ≤ allI d - 1 := by omega
  have hf0 := nodeOk_in hv (inR_true n0 n1)
  obtain ⟨h1, h2⟩ := per_rng hv
  obtain ⟨p0, p1, p2, p3, p4⟩ := place_rng hv n0 n1
  obtain ⟨-, -, ⟨t1, t2⟩, -⟩ := (devB_iff d).1 hv
  have q1 : ¬ perI d = 0 := by omega
  by_cases k5 : n % perI d < 5
  · have hf := Lib.hid (hf0.trans (nodeB_in k5))
    clear hf0
    have kc := kind_cases d (n / perI d)
    have ke := Lib.hid (tileKind_eq p4)
    have hS0 := devS_start w d
    have HS0 := Lib.hid hS0
    go_enter Try.func96, Try.ntmps96
    go_wp2_with fail
    refine (specRouteNodes_yes d hv _).mono ?_
    rintro e w1 ⟨rfl, hb1⟩
    have hS1 := devS_step HS0.out hb1
    have HS1 := Lib.hid hS1
    clear hS0
    obtain ⟨c0, c1, c2, c3, -⟩ := hS1
    clear hb1
    have hz1 : w.heap.size < w1.heap.size := World.block_lt_of_cell? _ _ c0
    go_wp2_with fail
    refine (specPer_any d hv _).mono ?_
    rintro e w2 ⟨rfl, hb2⟩
    have hS2 := devS_step HS1.out hb2
    have HS2 := Lib.hid hS2
    clear c0 c1 c2 c3
    obtain ⟨c0, c1, c2, c3, -⟩ := hS2
    clear hb2
    have hz2 : w.heap.size < w2.heap.size := World.block_lt_of_cell? _ _ c0
    go_wp2_with fail
    refine (specPer_any d hv _).mono ?_
    rintro e w3 ⟨rfl, hb3⟩
    have hS3 := devS_step HS2.out hb3
    have HS3 := Lib.hid hS3
    clear c0 c1 c2 c3
    obtain ⟨c0, c1, c2, c3, -⟩ := hS3
    clear hb3
    have hz3 : w.heap.size < w3.heap.size := World.block_lt_of_cell? _ _ c0
    go_wp2_with fail
    refine (specTileKind_any d _ _).mono ?_
    rintro e w4 ⟨rfl, hb4⟩
    have hS4 := devS_step HS3.out hb4
    have HS4 := Lib.hid hS4
    clear c0 c1 c2 c3
    obtain ⟨c0, c1, c2, c3, -⟩ := hS4
    clear hb4
    have hz4 : w.heap.size < w4.heap.size := World.block_lt_of_cell? _ _ c0
    rw [ke.out]
    go_wp2_with fail
    refine (specInPins_any _ kc _).mono ?_
    rintro e w' ⟨rfl, rfl⟩
    go_wp2
    go_ret
    exact ⟨rt_bool hf.out.symm, devS_end HS4.out⟩
  by_cases k7 : n % perI d < 7
  · have hf := Lib.hid (hf0.trans (nodeB_out (by omega) k7))
    clear hf0
    have kc := kind_cases d (n / perI d)
    have ke := Lib.hid (tileKind_eq p4)
    have hS0 := devS_start w d
    have HS0 := Lib.hid hS0
    go_enter Try.func96, Try.ntmps96
    go_wp2_with fail
    refine (specRouteNodes_yes d hv _).mono ?_
    rintro e w1 ⟨rfl, hb1⟩
    have hS1 := devS_step HS0.out hb1
    have HS1 := Lib.hid hS1
    clear hS0
    obtain ⟨c0, c1, c2, c3, -⟩ := hS1
    clear hb1
    have hz1 : w.heap.size < w1.heap.size := World.block_lt_of_cell? _ _ c0
    go_wp2_with fail
    refine (specPer_any d hv _).mono ?_
    rintro e w2 ⟨rfl, hb2⟩
    have hS2 := devS_step HS1.out hb2
    have HS2 := Lib.hid hS2
    clear c0 c1 c2 c3
    obtain ⟨c0, c1, c2, c3, -⟩ := hS2
    clear hb2
    have hz2 : w.heap.size < w2.heap.size := World.block_lt_of_cell? _ _ c0
    go_wp2_with fail
    refine (specPer_any d hv _).mono ?_
    rintro e w3 ⟨rfl, hb3⟩
    have hS3 := devS_step HS2.out hb3
    have HS3 := Lib.hid hS3
    clear c0 c1 c2 c3
    obtain ⟨c0, c1, c2, c3, -⟩ := hS3
    clear hb3
    have hz3 : w.heap.size < w3.heap.size := World.block_lt_of_cell? _ _ c0
    go_wp2_with fail
    refine (specTileKind_any d _ _).mono ?_
    rintro e w4 ⟨rfl, hb4⟩
    have hS4 := devS_step HS3.out hb4
    have HS4 := Lib.hid hS4
    clear c0 c1 c2 c3
    obtain ⟨c0, c1, c2, c3, -⟩ := hS4
    clear hb4
    have hz4 : w.heap.size < w4.heap.size := World.block_lt_of_cell? _ _ c0
    rw [ke.out]
    go_wp2_with fail
    refine (specOutPins_any _ kc _).mono ?_
    rintro e w' ⟨rfl, rfl⟩
    go_wp2
    go_ret
    exact ⟨rt_bool hf.out.symm, devS_end HS4.out⟩
  · have hf := Lib.hid (hf0.trans (nodeB_wire (by omega)))
    clear hf0
    obtain ⟨g0, g1, g2, g3⟩ := wire_rng hv (by omega) p3
    have z : 0 ≤ 1 + (n % perI d - 7) % d.T % 2 ∧ 1 + (n % perI d - 7) % d.T % 2 ≤ 2 := by omega
    have se := Lib.hid (tileStep_eq p4 g0 g1 z.1 (by omega))
    have hS0 := devS_start w d
    have HS0 := Lib.hid hS0
    go_enter Try.func96, Try.ntmps96
    go_wp2_with fail
    refine (specRouteNodes_yes d hv _).mono ?_
    rintro e w1 ⟨rfl, hb1⟩
    have hS1 := devS_step HS0.out hb1
    have HS1 := Lib.hid hS1
    clear hS0
    obtain ⟨c0, c1, c2, c3, -⟩ := hS1
    clear hb1
    have hz1 : w.heap.size < w1.heap.size := World.block_lt_of_cell? _ _ c0
    go_wp2_with fail
    refine (specPer_any d hv _).mono ?_
    rintro e w2 ⟨rfl, hb2⟩
    have hS2 := devS_step HS1.out hb2
    have HS2 := Lib.hid hS2
    clear c0 c1 c2 c3
    obtain ⟨c0, c1, c2, c3, -⟩ := hS2
    clear hb2
    have hz2 : w.heap.size < w2.heap.size := World.block_lt_of_cell? _ _ c0
    go_wp2_with fail
    refine (specPer_any d hv _).mono ?_
    rintro e w3 ⟨rfl, hb3⟩
    have hS3 := devS_step HS2.out hb3
    have HS3 := Lib.hid hS3
    clear c0 c1 c2 c3
    obtain ⟨c0, c1, c2, c3, -⟩ := hS3
    clear hb3
    have hz3 : w.heap.size < w3.heap.size := World.block_lt_of_cell? _ _ c0
    go_wp2_with fail
    refine (specWire_any d n hv n0 n1 (by omega) _).mono ?_
    rintro e w4 ⟨rfl, hb4⟩
    have hS4 := devS_step HS3.out hb4
    have HS4 := Lib.hid hS4
    clear c0 c1 c2 c3
    obtain ⟨c0, c1, c2, c3, -⟩ := hS4
    clear hb4
    have hz4 : w.heap.size < w4.heap.size := World.block_lt_of_cell? _ _ c0
    go_wp2_with fail
    refine (specTileStep_any d _ _ _ _).mono ?_
    rintro e w5 ⟨rfl, hb5⟩
    have hS5 := devS_step HS4.out hb5
    have HS5 := Lib.hid hS5
    clear c0 c1 c2 c3
    obtain ⟨c0, c1, c2, c3, -⟩ := hS5
    clear hb5
    have hz5 : w.heap.size < w5.heap.size := World.block_lt_of_cell? _ _ c0
    rw [se.out]
    go_wp2
    go_ret
    exact ⟨rt_bool hf.out.symm, devS_end HS5.out⟩
def muxN (d : Dev) (t m : Int) : Int := t * perI d + m + if 5 ≤ m then 2 else 0
def muxNodeI (d : Dev) (t m : Int) : Int := if tOk d t = true ∧ 0 ≤ m ∧ m < 5 + 4 * d.T then (if nodeOkI d (muxN d t m) = true then muxN d t m else -1) else -1
set_option maxHeartbeats 4000000 in
theorem implMuxNode_any (d : Dev) (t m : Int) (w : World) :
    Calls Try.prog 42 #[.agg #[.int .i64 d.W, .int .i64 d.H, .int .i64 d.T, .int .i64 d.R], .int .i64 t, .int .i64 m] w fun e w' => e = .returned (.int .i64 (muxNodeI d t m)) ∧ Below w.heap.size w w' := by
  rcases Bool.eq_false_or_eq_true (tOk d t) with hd | hd
  rotate_left
  · have hf : Hid (muxNodeI d t m = -1) := if_neg (by simp [hd])
    have hS0 := devS_start w d
    have HS0 := Lib.hid hS0
    go_enter Try.func42, Try.ntmps42
    go_wp2_with fail
    refine (implTileOk_any d t _).mono ?_
    rintro e w1 ⟨rfl, hb1⟩
    have hS1 := devS_step HS0.out hb1
    have HS1 := Lib.hid hS1
    clear hS0
    obtain ⟨c0, c1, c2, c3, -⟩ := hS1
    clear hb1
    have hz1 : w.heap.size < w1.heap.size := World.block_lt_of_cell? _ _ c0
    go_wp2
    go_ret
    exact ⟨rt_int hf.out.symm, devS_end HS1.out⟩
  obtain ⟨hv, t0, t1⟩ := (tOk_iff d t).1 hd
  obtain ⟨-, -, ⟨l1, l2⟩, -⟩ := (devB_iff d).1 hv
  obtain ⟨a1, a2⟩ := area_le hv
  obtain ⟨h1, h2⟩ := per_rng hv
  by_cases hlo : m < 0
  · have hf : Hid (muxNodeI d t m = -1) := if_neg (by omega)
    have hr : inR m 0 (5 + 4 * d.T - 1) = false := inR_false (by omega)
    have hS0 := devS_start w d
    have HS0 := Lib.hid hS0
    go_enter Try.func42, Try.ntmps42
    go_wp2_with fail
    refine (implTileOk_any d t _).mono ?_
    rintro e w1 ⟨rfl, hb1⟩
    have hS1 := devS_step HS0.out hb1
    have HS1 := Lib.hid hS1
    clear hS0
    obtain ⟨c0, c1, c2, c3, -⟩ := hS1
    clear hb1
    have hz1 : w.heap.size < w1.heap.size := World.block_lt_of_cell? _ _ c0
    go_wp2_with fail
    refine (implMux_any d hv _).mono ?_
    rintro e w2 ⟨rfl, hb2⟩
    have hS2 := devS_step HS1.out hb2
    have HS2 := Lib.hid hS2
    clear c0 c1 c2 c3
    obtain ⟨c0, c1, c2, c3, -⟩ := hS2
    clear hb2
    have hz2 : w.heap.size < w2.heap.size := World.block_lt_of_cell? _ _ c0
    go_wp2_with fail
    refine (inRange_any _ _ _ _).mono ?_
    rintro e w' ⟨rfl, rfl⟩
    go_wp2
    go_ret
    exact ⟨rt_int hf.out.symm, devS_end HS2.out⟩
  by_cases hhi : 5 + 4 * d.T ≤ m
  · have hf : Hid (muxNodeI d t m = -1) := if_neg (by omega)
    have hr : inR m 0 (5 + 4 * d.T - 1) = false := inR_false (by omega)
    have hS0 := devS_start w d
    have HS0 := Lib.hid hS0
    go_enter Try.func42, Try.ntmps42
    go_wp2_with fail
    refine (implTileOk_any d t _).mono ?_
    rintro e w1 ⟨rfl, hb1⟩
    have hS1 := devS_step HS0.out hb1
    have HS1 := Lib.hid hS1
    clear hS0
    obtain ⟨c0, c1, c2, c3, -⟩ := hS1
    clear hb1
    have hz1 : w.heap.size < w1.heap.size := World.block_lt_of_cell? _ _ c0
    go_wp2_with fail
    refine (implMux_any d hv _).mono ?_
    rintro e w2 ⟨rfl, hb2⟩
    have hS2 := devS_step HS1.out hb2
    have HS2 := Lib.hid hS2
    clear c0 c1 c2 c3
    obtain ⟨c0, c1, c2, c3, -⟩ := hS2
    clear hb2
    have hz2 : w.heap.size < w2.heap.size := World.block_lt_of_cell? _ _ c0
    go_wp2_with fail
    refine (inRange_any _ _ _ _).mono ?_
    rintro e w' ⟨rfl, rfl⟩
    go_wp2
    go_ret
    exact ⟨rt_int hf.out.symm, devS_end HS2.out⟩
  have hf0 : muxNodeI d t m = if nodeOkI d (muxN d t m) = true then muxN d t m else -1 := if_pos ⟨hd, by omega, by omega⟩
  have hr : inR m 0 (5 + 4 * d.T - 1) = true := inR_true (by omega) (by omega)
  have e0 : 0 ≤ t * perI d ∧ t * perI d ≤ 35 * 23 := ⟨Int.mul_nonneg t0 (by omega), Int.mul_le_mul (by omega) h2 (by omega) (by omega)⟩
  have e1 : IntKind.i64.wrap (t * perI d) = t * perI d := IntWalk.i64_in _ (by omega)
  have e2 : IntKind.i64.wrap (t * perI d + m) = t * perI d + m := IntWalk.i64_in _ (by omega)
  by_cases h5 : 5 ≤ m
  · have hm : muxN d t m = t * perI d + m + 2 := by rw [muxN, if_pos h5]
    rw [hm] at hf0
    clear hm
    rcases Bool.eq_false_or_eq_true (nodeOkI d (t * perI d + m + 2)) with hn | hn
    · have hf : Hid (muxNodeI d t m = t * perI d + m + 2) := hf0.trans (if_pos hn)
      clear hf0
      have hS0 := devS_start w d
      have HS0 := Lib.hid hS0
      go_enter Try.func42, Try.ntmps42
      go_wp2_with fail
      refine (implTileOk_any d t _).mono ?_
      rintro e w1 ⟨rfl, hb1⟩
      have hS1 := devS_step HS0.out hb1
      have HS1 := Lib.hid hS1
      clear hS0
      obtain ⟨c0, c1, c2, c3, -⟩ := hS1
      clear hb1
      have hz1 : w.heap.size < w1.heap.size := World.block_lt_of_cell? _ _ c0
      go_wp2_with fail
      refine (implMux_any d hv _).mono ?_
      rintro e w2 ⟨rfl, hb2⟩
      have hS2 := devS_step HS1.out hb2
      have HS2 := Lib.hid hS2
      clear c0 c1 c2 c3
      obtain ⟨c0, c1, c2, c3, -⟩ := hS2
      clear hb2
      have hz2 : w.heap.size < w2.heap.size := World.block_lt_of_cell? _ _ c0
      go_wp2_with fail
      refine (inRange_any _ _ _ _).mono ?_
      rintro e w' ⟨rfl, rfl⟩
      go_wp2_with fail
      refine (implPer_any d hv _).mono ?_
      rintro e w3 ⟨rfl, hb3⟩
      have hS3 := devS_step HS2.out hb3
      have HS3 := Lib.hid hS3
      clear c0 c1 c2 c3
      obtain ⟨c0, c1, c2, c3, -⟩ := hS3
      clear hb3
      have hz3 : w.heap.size < w3.heap.size := World.block_lt_of_cell? _ _ c0
      go_wp2_with fail
      refine (implRouteNodeOk_any d _ _).mono ?_
      rintro e w4 ⟨rfl, hb4⟩
      have hS4 := devS_step HS3.out hb4
      have HS4 := Lib.hid hS4
      clear c0 c1 c2 c3
      obtain ⟨c0, c1, c2, c3, -⟩ := hS4
      clear hb4
      have hz4 : w.heap.size < w4.heap.size := World.block_lt_of_cell? _ _ c0
      go_wp2
      go_ret
      exact ⟨rt_int hf.out.symm, devS_end HS4.out⟩
    · have hf : Hid (muxNodeI d t m = -1) := hf0.trans (if_neg (by simp [hn]))
      clear hf0
      have hS0 := devS_start w d
      have HS0 := Lib.hid hS0
      go_enter Try.func42, Try.ntmps42
      go_wp2_with fail
      refine (implTileOk_any d t _).mono ?_
      rintro e w1 ⟨rfl, hb1⟩
      have hS1 := devS_step HS0.out hb1
      have HS1 := Lib.hid hS1
      clear hS0
      obtain ⟨c0, c1, c2, c3, -⟩ := hS1
      clear hb1
      have hz1 : w.heap.size < w1.heap.size := World.block_lt_of_cell? _ _ c0
      go_wp2_with fail
      refine (implMux_any d hv _).mono ?_
      rintro e w2 ⟨rfl, hb2⟩
      have hS2 := devS_step HS1.out hb2
      have HS2 := Lib.hid hS2
      clear c0 c1 c2 c3
      obtain ⟨c0, c1, c2, c3, -⟩ := hS2
      clear hb2
      have hz2 : w.heap.size < w2.heap.size := World.block_lt_of_cell? _ _ c0
      go_wp2_with fail
      refine (inRange_any _ _ _ _).mono ?_
      rintro e w' ⟨rfl, rfl⟩
      go_wp2_with fail
      refine (implPer_any d hv _).mono ?_
      rintro e w3 ⟨rfl, hb3⟩
      have hS3 := devS_step HS2.out hb3
      have HS3 := Lib.hid hS3
      clear c0 c1 c2 c3
      obtain ⟨c0, c1, c2, c3, -⟩ := hS3
      clear hb3
      have hz3 : w.heap.size < w3.heap.size := World.block_lt_of_cell? _ _ c0
      go_wp2_with fail
      refine (implRouteNodeOk_any d _ _).mono ?_
      rintro e w4 ⟨rfl, hb4⟩
      have hS4 := devS_step HS3.out hb4
      have HS4 := Lib.hid hS4
      clear c0 c1 c2 c3
      obtain ⟨c0, c1, c2, c3, -⟩ := hS4
      clear hb4
      have hz4 : w.heap.size < w4.heap.size := World.block_lt_of_cell? _ _ c0
      go_wp2
      go_ret
      exact ⟨rt_int hf.out.symm, devS_end HS4.out⟩
  · have hm : muxN d t m = t * perI d + m := by rw [muxN, if_neg h5, Int.add_zero]
    rw [hm] at hf0
    clear hm
    rcases Bool.eq_false_or_eq_true (nodeOkI d (t * perI d + m)) with hn | hn
    · have hf : Hid (muxNodeI d t m = t * perI d + m) := hf0.trans (if_pos hn)
      clear hf0
      have hS0 := devS_start w d
      have HS0 := Lib.hid hS0
      go_enter Try.func42, Try.ntmps42
      go_wp2_with fail
      refine (implTileOk_any d t _).mono ?_
      rintro e w1 ⟨rfl, hb1⟩
      have hS1 := devS_step HS0.out hb1
      have HS1 := Lib.hid hS1
      clear hS0
      obtain ⟨c0, c1, c2, c3, -⟩ := hS1
      clear hb1
      have hz1 : w.heap.size < w1.heap.size := World.block_lt_of_cell? _ _ c0
      go_wp2_with fail
      refine (implMux_any d hv _).mono ?_
      rintro e w2 ⟨rfl, hb2⟩
      have hS2 := devS_step HS1.out hb2
      have HS2 := Lib.hid hS2
      clear c0 c1 c2 c3
      obtain ⟨c0, c1, c2, c3, -⟩ := hS2
      clear hb2
      have hz2 : w.heap.size < w2.heap.size := World.block_lt_of_cell? _ _ c0
      go_wp2_with fail
      refine (inRange_any _ _ _ _).mono ?_
      rintro e w' ⟨rfl, rfl⟩
      go_wp2_with fail
      refine (implPer_any d hv _).mono ?_
      rintro e w3 ⟨rfl, hb3⟩
      have hS3 := devS_step HS2.out hb3
      have HS3 := Lib.hid hS3
      clear c0 c1 c2 c3
      obtain ⟨c0, c1, c2, c3, -⟩ := hS3
      clear hb3
      have hz3 : w.heap.size < w3.heap.size := World.block_lt_of_cell? _ _ c0
      go_wp2_with fail
      refine (implRouteNodeOk_any d _ _).mono ?_
      rintro e w4 ⟨rfl, hb4⟩
      have hS4 := devS_step HS3.out hb4
      have HS4 := Lib.hid hS4
      clear c0 c1 c2 c3
      obtain ⟨c0, c1, c2, c3, -⟩ := hS4
      clear hb4
      have hz4 : w.heap.size < w4.heap.size := World.block_lt_of_cell? _ _ c0
      go_wp2
      go_ret
      exact ⟨rt_int hf.out.symm, devS_end HS4.out⟩
    · have hf : Hid (muxNodeI d t m = -1) := hf0.trans (if_neg (by simp [hn]))
      clear hf0
      have hS0 := devS_start w d
      have HS0 := Lib.hid hS0
      go_enter Try.func42, Try.ntmps42
      go_wp2_with fail
      refine (implTileOk_any d t _).mono ?_
      rintro e w1 ⟨rfl, hb1⟩
      have hS1 := devS_step HS0.out hb1
      have HS1 := Lib.hid hS1
      clear hS0
      obtain ⟨c0, c1, c2, c3, -⟩ := hS1
      clear hb1
      have hz1 : w.heap.size < w1.heap.size := World.block_lt_of_cell? _ _ c0
      go_wp2_with fail
      refine (implMux_any d hv _).mono ?_
      rintro e w2 ⟨rfl, hb2⟩
      have hS2 := devS_step HS1.out hb2
      have HS2 := Lib.hid hS2
      clear c0 c1 c2 c3
      obtain ⟨c0, c1, c2, c3, -⟩ := hS2
      clear hb2
      have hz2 : w.heap.size < w2.heap.size := World.block_lt_of_cell? _ _ c0
      go_wp2_with fail
      refine (inRange_any _ _ _ _).mono ?_
      rintro e w' ⟨rfl, rfl⟩
      go_wp2_with fail
      refine (implPer_any d hv _).mono ?_
      rintro e w3 ⟨rfl, hb3⟩
      have hS3 := devS_step HS2.out hb3
      have HS3 := Lib.hid hS3
      clear c0 c1 c2 c3
      obtain ⟨c0, c1, c2, c3, -⟩ := hS3
      clear hb3
      have hz3 : w.heap.size < w3.heap.size := World.block_lt_of_cell? _ _ c0
      go_wp2_with fail
      refine (implRouteNodeOk_any d _ _).mono ?_
      rintro e w4 ⟨rfl, hb4⟩
      have hS4 := devS_step HS3.out hb4
      have HS4 := Lib.hid hS4
      clear c0 c1 c2 c3
      obtain ⟨c0, c1, c2, c3, -⟩ := hS4
      clear hb4
      have hz4 : w.heap.size < w4.heap.size := World.block_lt_of_cell? _ _ c0
      go_wp2
      go_ret
      exact ⟨rt_int hf.out.symm, devS_end HS4.out⟩
end Go.Proofs.Ytnnkbpcfjjijbaa
