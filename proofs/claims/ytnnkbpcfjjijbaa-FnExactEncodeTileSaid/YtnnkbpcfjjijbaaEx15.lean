/- EncodeTile: the walk. -/
import Derived.Test.YtnnkbpcfjjijbaaEx14
set_option linter.unusedVariables false
set_option linter.unusedSimpArgs false
namespace Go.Proofs.Ytnnkbpcfjjijbaa
open Go.RowKit

theorem bitPut_to (N : Nat) (bs : List Int) (wv : Value) (b : Nat) (n : Int) (k : Nat) (w0 : World) (l : List HP) (w : World) (hm0 : Mem w0 (wrE b wv (bs.length : Int) (packJ N bs bs.length) :: l) w) (hb : Bits bs) (hn : 0 ≤ n ∧ n ≤ 65535) (hk : k ≤ 16) (hN : bs.length + k ≤ 16 * N) (hN2 : N ≤ 1000000) :
    Calls Try.prog 108 #[.pointer (some ⟨b, 0, none⟩), .int .i64 n, .int .i64 (k : Int)] w (fun e_ w_ => ∃ v_ p_, e_ = .returned v_ ∧ p_ = wrE b wv ((bs ++ bitsOf n k).length : Int) (packJ N (bs ++ bitsOf n k) (bs ++ bitsOf n k).length) ∧ Mem w0 (p_ :: l) w_) := by
  have h := bitPut_mut N bs _ wv b n (k : Int) w0 l w hm0 rfl hb hn (by omega) (by omega) hN2
  rw [Int.toNat_natCast, show (bs.length : Int) + (k : Int) = ((bs ++ bitsOf n k).length : Int) by rw [List.length_append, bitsOf_len]; omega, show bs.length + k = (bs ++ bitsOf n k).length by rw [List.length_append, bitsOf_len]] at h
  exact h
def leBits (e : List Int × Int × Int × Int) : List Int := e.1.flatMap (fun x => bitsOf x 3) ++ bitsOf e.2.1 16 ++ bitsOf e.2.2.1 1 ++ bitsOf e.2.2.2 1
def tcBits (v : List Int × List (List Int × Int × Int × Int) × Int × Int) : List Int := v.1.flatMap (fun x => bitsOf x 5) ++ v.2.1.flatMap leBits ++ bitsOf v.2.2.1 2 ++ bitsOf v.2.2.2 5
def encV (d : Dev) (v : List Int × List (List Int × Int × Int × Int) × Int × Int) : List Int := if tcOkV d v = true then packJ (frW d).toNat (tcBits v) (tcBits v).length else []
def IsEnc (d : Dev) (val : List Int × List (List Int × Int × Int × Int) × Int × Int) (v : Value) (post : List HP) : Prop := ∃ u, v = .tuple #[u, .bool (tcOkV d val)] ∧ post = [rowE 3 1 u (encV d val).length ((encV d val).map (Value.int .i64))]
theorem fm_take {α : Type} (f : α → List Int) (xs : List α) (d : α) (j : Nat) (h : j < xs.length) : (xs.take (j + 1)).flatMap f = (xs.take j).flatMap f ++ f (xs.getD j d) := by
  rw [List.take_succ_eq_append_getElem h, List.flatMap_append, List.getD_eq_getElem?_getD, List.getElem?_eq_getElem h]; simp
theorem bits_nil : Bits [] := fun i => by simp
set_option maxHeartbeats 4000000 in
set_option maxRecDepth 100000 in
theorem implEncodeTile_ret (d : Dev) (t : Tc) (w : World) (ht : t.Rds w) :
    Calls Try.prog 53 #[.agg #[.int .i64 d.W, .int .i64 d.H, .int .i64 d.T, .int .i64 d.R], .agg #[t.mv, t.lv, .int .i64 t.pad, .int .i64 t.ram]] w (Ret w (IsEnc d t.val)) := by
  refine calls_hc (N := 76) (args := [.agg #[.int .i64 d.W, .int .i64 d.H, .int .i64 d.T, .int .i64 d.R], .agg #[t.mv, t.lv, .int .i64 t.pad, .int .i64 t.ram]]) Try.func53 rfl rfl ?_
  refine hc_less _ (sub_cons (d := 0) rfl (sub_cons (d := 1) rfl (sub_nil _))) (.refl _) ?_
  refine hc_seq ?_
  refine hc_region ?_
  refine hl_box rfl rfl rfl (rq_box rfl rfl) ?_
  intro b1
  refine hl_box rfl rfl rfl (rq_box rfl rfl) ?_
  intro b2
  refine hl_v rfl rfl rfl (rv_ev rfl) ?_
  refine hl_v rfl rfl rfl (rv_ev rfl) ?_
  refine hl_less (sub_cons (d := 0) rfl (sub_cons (d := 1) rfl (sub_cons (d := 2) rfl (sub_cons (d := 3) rfl (sub_cons (d := 4) rfl (sub_cons (d := 5) rfl (sub_nil _))))))) (.refl _) ?_
  refine hl_nil ?_
  refine hq_then ?_
  refine hc_seq ?_
  refine hc_seq ?_
  refine hc_region ?_
  refine hl_v rfl rfl rfl (rv_loadN (cs := [.int .i64 d.W, .int .i64 d.H, .int .i64 d.T, .int .i64 d.R]) rfl (by kernel_rfl) (by kernel_rfl) rfl rfl (box_part 1 rfl 0 rfl)) ?_
  refine hl_v rfl rfl rfl (rv_loadN (cs := [t.mv, t.lv, .int .i64 t.pad, .int .i64 t.ram]) rfl (by kernel_rfl) (by kernel_rfl) rfl rfl (box_part 0 rfl 0 rfl)) ?_
  refine hl_callV rfl rfl rfl (rq_call (by kernel_rfl) rfl (fun w hm => ret_ans (implTileConfigOk_ans d t w (ht.below hm.bel)))) ?_
  refine hl_bool (fun h3 => ?_) (fun h3 => ?_)
  ·
    obtain ⟨hd, hmx5, hes2, hpad, hram, hmxr, hesr⟩ := (tcOkV_iff d t).1 h3
    obtain ⟨-, -, ⟨l1, l2⟩, -⟩ := (devB_iff d).1 hd
    have hfr : frW d = (5 * (5 + 4 * d.T) + 67 + 15) / 16 := rfl
    have hNN : ((frW d).toNat : Int) = frW d := by omega
    refine hl_v rfl rfl rfl (rv_ev rfl) ?_
    refine hl_less (sub_cons (d := 0) rfl (sub_cons (d := 1) rfl (sub_cons (d := 2) rfl (sub_cons (d := 3) rfl (sub_cons (d := 4) rfl (sub_cons (d := 5) rfl (sub_cons (d := 16) rfl (sub_nil _)))))))) (.refl _) ?_
    refine hl_nil ?_
    refine hq_then ?_
    refine hc_false rfl ?_
    refine hc_skip ?_
    refine hq_then ?_
    refine hc_seq ?_
    refine hc_region ?_
    refine hl_v rfl rfl rfl (rv_loadN (cs := [.int .i64 d.W, .int .i64 d.H, .int .i64 d.T, .int .i64 d.R]) rfl (by kernel_rfl) (by kernel_rfl) rfl rfl (box_part 1 rfl 0 rfl)) ?_
    refine hl_callV rfl rfl rfl (rq_call (by kernel_rfl) rfl (fun w hm => ret_ans (implFrame_any d hd w))) ?_
    refine hl_row rfl rfl rfl (rq_make (z := .int .i64 0) (s := 1) (bytes := 8) (n := (List.replicate (frW d).toNat (0 : Int)).length) (cs := ((List.replicate (frW d).toNat (0 : Int)).map (Value.int .i64))) rfl Try.underlying30 (by kernel_rfl) (by decide) rfl rfl (by first | (rw [List.length_replicate]; done) | (rw [List.length_replicate]; omega)) (by first | (rw [List.length_replicate]; done) | (rw [List.length_replicate]; omega)) (by rw [List.length_replicate]; omega) (ints_make _)) ?_
    intro g4
    refine hl_v rfl rfl rfl (rv_build (cs := #[.slice (some ⟨g4, 0, none⟩) ((List.replicate (frW d).toNat (0 : Int)).length) ((List.replicate (frW d).toNat (0 : Int)).length), .int .i64 0]) rfl rfl (by kernel_rfl)) ?_
    refine hl_box rfl rfl rfl (rq_box rfl rfl) ?_
    intro b5
    refine hl_v rfl rfl rfl (rv_ev rfl) ?_
    refine hl_less (sub_cons (d := 0) rfl (sub_cons (d := 1) rfl (sub_cons (d := 2) rfl (sub_cons (d := 3) rfl (sub_cons (d := 4) rfl (sub_cons (d := 5) rfl (sub_cons (d := 6) rfl (sub_cons (d := 16) rfl (sub_nil _))))))))) (.refl _) ?_
    refine hl_nil ?_
    refine hq_then ?_
    refine hc_seq ?_
    refine hc_seq ?_
    refine hc_region ?_
    refine hl_conv [boxE b5 #[.slice (some ⟨g4, 0, none⟩) ((List.replicate (frW d).toNat (0 : Int)).length) ((List.replicate (frW d).toNat (0 : Int)).length), .int .i64 0] 105, rowE 3 1 (.slice (some ⟨g4, 0, none⟩) ((List.replicate (frW d).toNat (0 : Int)).length) ((List.replicate (frW d).toNat (0 : Int)).length)) ((List.replicate (frW d).toNat (0 : Int)).length) ((List.replicate (frW d).toNat (0 : Int)).map (Value.int .i64)), boxE b2 #[t.mv, t.lv, .int .i64 t.pad, .int .i64 t.ram] 39, boxE b1 #[.int .i64 d.W, .int .i64 d.H, .int .i64 d.T, .int .i64 d.R] 25] (conv_pick (src := [boxE b5 #[.slice (some ⟨g4, 0, none⟩) ((List.replicate (frW d).toNat (0 : Int)).length) ((List.replicate (frW d).toNat (0 : Int)).length), .int .i64 0] 105, rowE 3 1 (.slice (some ⟨g4, 0, none⟩) ((List.replicate (frW d).toNat (0 : Int)).length) ((List.replicate (frW d).toNat (0 : Int)).length)) ((List.replicate (frW d).toNat (0 : Int)).length) ((List.replicate (frW d).toNat (0 : Int)).map (Value.int .i64)), boxE b2 #[t.mv, t.lv, .int .i64 t.pad, .int .i64 t.ram] 39, boxE b1 #[.int .i64 d.W, .int .i64 d.H, .int .i64 d.T, .int .i64 d.R] 25]) (dst := [boxE b5 #[.slice (some ⟨g4, 0, none⟩) ((List.replicate (frW d).toNat (0 : Int)).length) ((List.replicate (frW d).toNat (0 : Int)).length), .int .i64 0] 105, rowE 3 1 (.slice (some ⟨g4, 0, none⟩) ((List.replicate (frW d).toNat (0 : Int)).length) ((List.replicate (frW d).toNat (0 : Int)).length)) ((List.replicate (frW d).toNat (0 : Int)).length) ((List.replicate (frW d).toNat (0 : Int)).map (Value.int .i64)), boxE b2 #[t.mv, t.lv, .int .i64 t.pad, .int .i64 t.ram] 39, boxE b1 #[.int .i64 d.W, .int .i64 d.H, .int .i64 d.T, .int .i64 d.R] 25]) (l := []) [0, 1, 2, 3] (by decide) rfl) ?_
    refine hl_conv [wrE b5 (.slice (some ⟨g4, 0, none⟩) ((List.replicate (frW d).toNat (0 : Int)).length) ((List.replicate (frW d).toNat (0 : Int)).length)) (([] : List Int).length : Int) (packJ (frW d).toNat ([] : List Int) ([] : List Int).length), boxE b2 #[t.mv, t.lv, .int .i64 t.pad, .int .i64 t.ram] 39, boxE b1 #[.int .i64 d.W, .int .i64 d.H, .int .i64 d.T, .int .i64 d.R] 25] (fun w hm => by have h2 := Mem.big (ps := [boxE b5 #[.slice (some ⟨g4, 0, none⟩) ((List.replicate (frW d).toNat (0 : Int)).length) ((List.replicate (frW d).toNat (0 : Int)).length), .int .i64 0] 105, rowE 3 1 (.slice (some ⟨g4, 0, none⟩) ((List.replicate (frW d).toNat (0 : Int)).length) ((List.replicate (frW d).toNat (0 : Int)).length)) ((List.replicate (frW d).toNat (0 : Int)).length) ((List.replicate (frW d).toNat (0 : Int)).map (Value.int .i64))]) hm; exact h2) ?_
    refine hl_v rfl rfl rfl (rv_field (k0 := 0) rfl (by kernel_rfl) rfl) ?_
    refine hl_v rfl rfl rfl (rv_load rfl (by kernel_rfl) rfl (box_cell 1 rfl rfl)) ?_
    refine hl_v rfl rfl rfl (rv_len rfl Try.underlying30 rfl (rd_old ht.mx)) ?_
    refine hl_v rfl rfl rfl (rv_ev rfl) ?_
    refine hl_less (sub_cons (d := 0) rfl (sub_cons (d := 1) rfl (sub_cons (d := 2) rfl (sub_cons (d := 3) rfl (sub_cons (d := 4) rfl (sub_cons (d := 5) rfl (sub_cons (d := 6) rfl (sub_cons (d := 16) rfl (sub_cons (d := 23) rfl (sub_cons (d := 24) rfl (sub_cons (d := 25) rfl (sub_nil _)))))))))))) (.refl _) ?_
    refine hl_nil ?_
    refine hq_then ?_
    refine hc_block ?_
    refine hc_loop2 (α := Nat) (β := List Int) (fun j bs => [wrE b5 (.slice (some ⟨g4, 0, none⟩) ((List.replicate (frW d).toNat (0 : Int)).length) ((List.replicate (frW d).toNat (0 : Int)).length)) (bs.length : Int) (packJ (frW d).toNat bs bs.length), boxE b2 #[t.mv, t.lv, .int .i64 t.pad, .int .i64 t.ram] 39, boxE b1 #[.int .i64 d.W, .int .i64 d.H, .int .i64 d.T, .int .i64 d.R] 25]) (fun j bs => [(0, .agg #[.int .i64 d.W, .int .i64 d.H, .int .i64 d.T, .int .i64 d.R]), (1, .agg #[t.mv, t.lv, .int .i64 t.pad, .int .i64 t.ram]), (2, .pointer (some ⟨b1, 0, none⟩)), (3, .pointer (some ⟨b2, 0, none⟩)), (4, .slice none 0 0), (5, .bool false), (6, .pointer (some ⟨b5, 0, none⟩)), (16, .bool false), (23, t.mv), (24, .int .i64 (t.mx.length : Int)), (25, .int .i64 (j : Int))]) (fun j bs => j ≤ t.mx.length ∧ bs = (t.mx.take j).flatMap (fun x => bitsOf x 5) ∧ bs.length = 5 * j ∧ Bits bs) (fun j bs => t.mx.length - j) 0 [] ⟨by omega, by simp, rfl, bits_nil⟩ (sub_cons (d := 0) rfl (sub_cons (d := 1) rfl (sub_cons (d := 2) rfl (sub_cons (d := 3) rfl (sub_cons (d := 4) rfl (sub_cons (d := 5) rfl (sub_cons (d := 6) rfl (sub_cons (d := 16) rfl (sub_cons (d := 23) rfl (sub_cons (d := 24) rfl (sub_cons (d := 25) rfl (sub_nil _)))))))))))) ((.cons_cons _ (.cons_cons _ (.cons_cons _ .slnil)))) ?_
    intro j bs hi6
    obtain ⟨hj, hbs, hbl, hbb⟩ := hi6
    refine hc_seq ?_
    refine hc_region ?_
    refine hl_lss rfl rfl rfl rfl rfl rfl (fun h7 => ?_) (fun h7 => ?_)
    ·
      refine hl_less (sub_cons (d := 0) rfl (sub_cons (d := 1) rfl (sub_cons (d := 2) rfl (sub_cons (d := 3) rfl (sub_cons (d := 4) rfl (sub_cons (d := 5) rfl (sub_cons (d := 6) rfl (sub_cons (d := 16) rfl (sub_cons (d := 23) rfl (sub_cons (d := 24) rfl (sub_cons (d := 25) rfl (sub_cons (d := 26) rfl (sub_nil _))))))))))))) (.refl _) ?_
      refine hl_nil ?_
      refine hq_then ?_
      refine hc_seq ?_
      refine hc_true rfl ?_
      refine hc_skip ?_
      refine hq_then ?_
      refine hc_seq ?_
      refine hc_block ?_
      refine hc_seq ?_
      refine hc_region ?_
      have hmj := hmxr j (by omega)
      refine hl_v rfl rfl rfl (rv_index (s := 1) rfl Try.underlying30 (by kernel_rfl) rfl rfl (rd_old ht.mx) (by omega) (by first | omega | (simp only [List.length_set]; omega))) ?_
      refine hl_v rfl rfl rfl (rv_loadEl (u := .int .i64 (t.mx.getD j 0)) rfl (by kernel_rfl) rfl (rd_old ht.mx) (ints_at1 (show _ < t.mx.length by first | omega | (simp only [List.length_set]; omega)))) ?_
      refine hl_v rfl rfl rfl (rv_ev rfl) ?_
      refine hl_less (sub_cons (d := 0) rfl (sub_cons (d := 1) rfl (sub_cons (d := 2) rfl (sub_cons (d := 3) rfl (sub_cons (d := 4) rfl (sub_cons (d := 5) rfl (sub_cons (d := 6) rfl (sub_cons (d := 8) rfl (sub_cons (d := 16) rfl (sub_cons (d := 23) rfl (sub_cons (d := 24) rfl (sub_cons (d := 25) rfl (sub_cons (d := 26) rfl (sub_nil _)))))))))))))) (.refl _) ?_
      refine hl_nil ?_
      refine hq_then ?_
      refine hc_region ?_
      refine hl_v rfl rfl rfl (rv_ev rfl) ?_
      refine hl_v rfl rfl rfl (rv_ev rfl) ?_
      refine hl_callM (R := (fun u_ p_ => p_ = wrE b5 (.slice (some ⟨g4, 0, none⟩) ((List.replicate (frW d).toNat (0 : Int)).length) ((List.replicate (frW d).toNat (0 : Int)).length)) ((bs ++ bitsOf (t.mx.getD j 0) 5).length : Int) (packJ (frW d).toNat (bs ++ bitsOf (t.mx.getD j 0) 5) (bs ++ bitsOf (t.mx.getD j 0) 5).length))) 0 rfl rfl (by kernel_rfl) rfl rfl (fun l' w hm => bitPut_to (frW d).toNat bs (.slice (some ⟨g4, 0, none⟩) ((List.replicate (frW d).toNat (0 : Int)).length) ((List.replicate (frW d).toNat (0 : Int)).length)) b5 (t.mx.getD j 0) 5 _ _ w hm hbb (by omega) (by omega) (by first | omega | (simp only [List.length_append, bitsOf_len]; omega)) (by omega)) ?_
      intro v8 p9 hR10
      subst hR10
      refine hl_eqL (l' := [wrE b5 (.slice (some ⟨g4, 0, none⟩) ((List.replicate (frW d).toNat (0 : Int)).length) ((List.replicate (frW d).toNat (0 : Int)).length)) ((bs ++ bitsOf (t.mx.getD j 0) 5).length : Int) (packJ (frW d).toNat (bs ++ bitsOf (t.mx.getD j 0) 5) (bs ++ bitsOf (t.mx.getD j 0) 5).length), boxE b2 #[t.mv, t.lv, .int .i64 t.pad, .int .i64 t.ram] 39, boxE b1 #[.int .i64 d.W, .int .i64 d.H, .int .i64 d.T, .int .i64 d.R] 25]) rfl ?_
      refine hl_less (sub_cons (d := 0) rfl (sub_cons (d := 1) rfl (sub_cons (d := 2) rfl (sub_cons (d := 3) rfl (sub_cons (d := 4) rfl (sub_cons (d := 5) rfl (sub_cons (d := 6) rfl (sub_cons (d := 8) rfl (sub_cons (d := 16) rfl (sub_cons (d := 23) rfl (sub_cons (d := 24) rfl (sub_cons (d := 25) rfl (sub_cons (d := 26) rfl (sub_nil _)))))))))))))) (.refl _) ?_
      refine hl_nil ?_
      refine hq_block_normal ?_
      refine hq_then ?_
      refine hc_region ?_
      refine hl_v rfl rfl rfl (rv_add rfl rfl rfl (by constructor <;> omega)) ?_
      refine hl_v rfl rfl rfl (rv_ev rfl) ?_
      refine hl_less (sub_cons (d := 0) rfl (sub_cons (d := 1) rfl (sub_cons (d := 2) rfl (sub_cons (d := 3) rfl (sub_cons (d := 4) rfl (sub_cons (d := 5) rfl (sub_cons (d := 6) rfl (sub_cons (d := 8) rfl (sub_cons (d := 16) rfl (sub_cons (d := 23) rfl (sub_cons (d := 24) rfl (sub_cons (d := 25) rfl (sub_cons (d := 26) rfl (sub_nil _)))))))))))))) (.refl _) ?_
      refine hl_nil ?_
      exact hq_round2 (j + 1) (bs ++ bitsOf (t.mx.getD j 0) 5) ⟨by omega, by rw [fm_take _ _ 0 j (by omega), ← hbs], by rw [List.length_append, bitsOf_len]; omega, bits_app hbb (bitsOf_bits _ _)⟩ (by omega) (sub_cons (d := 0) rfl (sub_cons (d := 1) rfl (sub_cons (d := 2) rfl (sub_cons (d := 3) rfl (sub_cons (d := 4) rfl (sub_cons (d := 5) rfl (sub_cons (d := 6) rfl (sub_cons (d := 16) rfl (sub_cons (d := 23) rfl (sub_cons (d := 24) rfl (sub_cons (d := 25) rfl (sub_nil _)))))))))))) ((.cons_cons _ (.cons_cons _ (.cons_cons _ .slnil))))
    ·
      refine hl_less (sub_cons (d := 0) rfl (sub_cons (d := 1) rfl (sub_cons (d := 2) rfl (sub_cons (d := 3) rfl (sub_cons (d := 4) rfl (sub_cons (d := 5) rfl (sub_cons (d := 6) rfl (sub_cons (d := 16) rfl (sub_cons (d := 23) rfl (sub_cons (d := 24) rfl (sub_cons (d := 25) rfl (sub_cons (d := 26) rfl (sub_nil _))))))))))))) (.refl _) ?_
      refine hl_nil ?_
      refine hq_then ?_
      refine hc_seq ?_
      refine hc_false rfl ?_
      refine hc_exit ?_
      refine hq_then_exit ?_
      refine hq_then_exit ?_
      refine hq_block_exit ?_
      refine hq_then ?_
      refine hc_seq ?_
      refine hc_seq ?_
      refine hc_region ?_
      refine hl_v rfl rfl rfl (rv_field (k0 := 1) rfl (by kernel_rfl) rfl) ?_
      refine hl_v rfl rfl rfl (rv_load rfl (by kernel_rfl) rfl (box_cell 1 rfl rfl)) ?_
      refine hl_v rfl rfl rfl (rv_len rfl Try.underlying37 rfl (rd_old ht.lv)) ?_
      refine hl_v rfl rfl rfl (rv_ev rfl) ?_
      refine hl_less (sub_cons (d := 0) rfl (sub_cons (d := 1) rfl (sub_cons (d := 2) rfl (sub_cons (d := 3) rfl (sub_cons (d := 4) rfl (sub_cons (d := 5) rfl (sub_cons (d := 6) rfl (sub_cons (d := 16) rfl (sub_cons (d := 23) rfl (sub_cons (d := 24) rfl (sub_cons (d := 25) rfl (sub_cons (d := 26) rfl (sub_cons (d := 34) rfl (sub_cons (d := 35) rfl (sub_cons (d := 36) rfl (sub_nil _)))))))))))))))) (.refl _) ?_
      refine hl_nil ?_
      refine hq_then ?_
      refine hc_block ?_
      refine hc_loop2 (α := Nat) (β := List Int) (fun e cs => [wrE b5 (.slice (some ⟨g4, 0, none⟩) ((List.replicate (frW d).toNat (0 : Int)).length) ((List.replicate (frW d).toNat (0 : Int)).length)) (cs.length : Int) (packJ (frW d).toNat cs cs.length), boxE b2 #[t.mv, t.lv, .int .i64 t.pad, .int .i64 t.ram] 39, boxE b1 #[.int .i64 d.W, .int .i64 d.H, .int .i64 d.T, .int .i64 d.R] 25]) (fun e cs => [(0, .agg #[.int .i64 d.W, .int .i64 d.H, .int .i64 d.T, .int .i64 d.R]), (1, .agg #[t.mv, t.lv, .int .i64 t.pad, .int .i64 t.ram]), (2, .pointer (some ⟨b1, 0, none⟩)), (3, .pointer (some ⟨b2, 0, none⟩)), (4, .slice none 0 0), (5, .bool false), (6, .pointer (some ⟨b5, 0, none⟩)), (16, .bool false), (23, t.mv), (24, .int .i64 (t.mx.length : Int)), (25, .int .i64 (j : Int)), (26, .bool false), (34, t.lv), (35, .int .i64 (t.es.length : Int)), (36, .int .i64 (e : Int))]) (fun e cs => e ≤ t.es.length ∧ cs = t.mx.flatMap (fun x => bitsOf x 5) ++ (t.es.take e).flatMap (fun x => leBits x.val) ∧ cs.length = 5 * t.mx.length + 30 * e ∧ Bits cs) (fun e cs => t.es.length - e) 0 bs ⟨by omega, by rw [hbs, show j = t.mx.length by omega, List.take_length]; simp, by omega, hbb⟩ (sub_cons (d := 0) rfl (sub_cons (d := 1) rfl (sub_cons (d := 2) rfl (sub_cons (d := 3) rfl (sub_cons (d := 4) rfl (sub_cons (d := 5) rfl (sub_cons (d := 6) rfl (sub_cons (d := 16) rfl (sub_cons (d := 23) rfl (sub_cons (d := 24) rfl (sub_cons (d := 25) rfl (sub_cons (d := 26) rfl (sub_cons (d := 34) rfl (sub_cons (d := 35) rfl (sub_cons (d := 36) rfl (sub_nil _)))))))))))))))) ((.cons_cons _ (.cons_cons _ (.cons_cons _ .slnil)))) ?_
      intro e cs hi11
      obtain ⟨he, hcs, hcl, hcb⟩ := hi11
      refine hc_seq ?_
      refine hc_region ?_
      refine hl_lss rfl rfl rfl rfl rfl rfl (fun h12 => ?_) (fun h12 => ?_)
      ·
        refine hl_less (sub_cons (d := 0) rfl (sub_cons (d := 1) rfl (sub_cons (d := 2) rfl (sub_cons (d := 3) rfl (sub_cons (d := 4) rfl (sub_cons (d := 5) rfl (sub_cons (d := 6) rfl (sub_cons (d := 16) rfl (sub_cons (d := 23) rfl (sub_cons (d := 24) rfl (sub_cons (d := 25) rfl (sub_cons (d := 26) rfl (sub_cons (d := 34) rfl (sub_cons (d := 35) rfl (sub_cons (d := 36) rfl (sub_cons (d := 37) rfl (sub_nil _))))))))))))))))) (.refl _) ?_
        refine hl_nil ?_
        refine hq_then ?_
        refine hc_seq ?_
        refine hc_true rfl ?_
        refine hc_skip ?_
        refine hq_then ?_
        refine hc_seq ?_
        refine hc_block ?_
        refine hc_seq ?_
        refine hc_region ?_
        have hrE := ht.es _ (getD_mem' (es := t.es) (i := e) (d := Le0) (by omega))
        have hre := hrE.1
        have hro := hre.one
        obtain ⟨r1, r2, r3, r4, r5⟩ := (leOkV_iff _).1 (hesr e (by omega))
        refine hl_v rfl rfl rfl (rv_index (s := 4) rfl Try.underlying37 (by kernel_rfl) rfl rfl (rd_old ht.lv) (by omega) (by first | omega | (simp only [List.length_set]; omega))) ?_
        refine hl_v rfl rfl rfl (rv_loadElN (us := [(t.es.getD e Le0).v, .int .i64 ((t.es.getD e Le0).m), .int .i64 ((t.es.getD e Le0).f), .int .i64 ((t.es.getD e Le0).i)]) rfl (by kernel_rfl) (by kernel_rfl) rfl (rd_old ht.lv) (by omega) rfl (flat_atN Le.cells 4 (fun _ => rfl) t.es Le0 (show e < _ by first | omega | (simp only [List.length_set]; omega)) rfl)) ?_
        refine hl_box rfl rfl rfl (rq_alloc (z := .agg #[.slice none 0 0, .int .i64 0, .int .i64 0, .int .i64 0]) rfl (by kernel_rfl)) ?_
        intro b13
        refine hl_storeBoxN (i := 0) (off := 0) (us := [(t.es.getD e Le0).v, .int .i64 ((t.es.getD e Le0).m), .int .i64 ((t.es.getD e Le0).f), .int .i64 ((t.es.getD e Le0).i)]) (l' := [boxE b13 #[(t.es.getD e Le0).v, .int .i64 ((t.es.getD e Le0).m), .int .i64 ((t.es.getD e Le0).f), .int .i64 ((t.es.getD e Le0).i)] 87, wrE b5 (.slice (some ⟨g4, 0, none⟩) ((List.replicate (frW d).toNat (0 : Int)).length) ((List.replicate (frW d).toNat (0 : Int)).length)) (cs.length : Int) (packJ (frW d).toNat cs cs.length), boxE b2 #[t.mv, t.lv, .int .i64 t.pad, .int .i64 t.ram] 39, boxE b1 #[.int .i64 d.W, .int .i64 d.H, .int .i64 d.T, .int .i64 d.R] 25]) rfl rfl rfl (by kernel_rfl) rfl rfl rfl (all_cons hro (all_cons rfl (all_cons rfl (all_cons rfl all_nil)))) rfl rfl rfl ?_
        refine hl_less (sub_cons (d := 0) rfl (sub_cons (d := 1) rfl (sub_cons (d := 2) rfl (sub_cons (d := 3) rfl (sub_cons (d := 4) rfl (sub_cons (d := 5) rfl (sub_cons (d := 6) rfl (sub_cons (d := 10) rfl (sub_cons (d := 16) rfl (sub_cons (d := 23) rfl (sub_cons (d := 24) rfl (sub_cons (d := 25) rfl (sub_cons (d := 26) rfl (sub_cons (d := 34) rfl (sub_cons (d := 35) rfl (sub_cons (d := 36) rfl (sub_cons (d := 37) rfl (sub_nil _)))))))))))))))))) (.refl _) ?_
        refine hl_nil ?_
        refine hq_then ?_
        refine hc_seq ?_
        refine hc_seq ?_
        refine hc_region ?_
        refine hl_v rfl rfl rfl (rv_field (k0 := 0) rfl (by kernel_rfl) rfl) ?_
        refine hl_v rfl rfl rfl (rv_load rfl (by kernel_rfl) rfl (box_cell 0 rfl rfl)) ?_
        refine hl_v rfl rfl rfl (rv_len rfl Try.underlying30 rfl (rd_old hre)) ?_
        refine hl_v rfl rfl rfl (rv_ev rfl) ?_
        refine hl_less (sub_cons (d := 0) rfl (sub_cons (d := 1) rfl (sub_cons (d := 2) rfl (sub_cons (d := 3) rfl (sub_cons (d := 4) rfl (sub_cons (d := 5) rfl (sub_cons (d := 6) rfl (sub_cons (d := 10) rfl (sub_cons (d := 16) rfl (sub_cons (d := 23) rfl (sub_cons (d := 24) rfl (sub_cons (d := 25) rfl (sub_cons (d := 26) rfl (sub_cons (d := 34) rfl (sub_cons (d := 35) rfl (sub_cons (d := 36) rfl (sub_cons (d := 37) rfl (sub_cons (d := 41) rfl (sub_cons (d := 42) rfl (sub_cons (d := 43) rfl (sub_nil _))))))))))))))))))))) (.refl _) ?_
        refine hl_nil ?_
        refine hq_then ?_
        refine hc_block ?_
        refine hc_loop2 (α := Nat) (β := List Int) (fun k ds => [boxE b13 #[(t.es.getD e Le0).v, .int .i64 ((t.es.getD e Le0).m), .int .i64 ((t.es.getD e Le0).f), .int .i64 ((t.es.getD e Le0).i)] 87, wrE b5 (.slice (some ⟨g4, 0, none⟩) ((List.replicate (frW d).toNat (0 : Int)).length) ((List.replicate (frW d).toNat (0 : Int)).length)) (ds.length : Int) (packJ (frW d).toNat ds ds.length), boxE b2 #[t.mv, t.lv, .int .i64 t.pad, .int .i64 t.ram] 39, boxE b1 #[.int .i64 d.W, .int .i64 d.H, .int .i64 d.T, .int .i64 d.R] 25]) (fun k ds => [(0, .agg #[.int .i64 d.W, .int .i64 d.H, .int .i64 d.T, .int .i64 d.R]), (1, .agg #[t.mv, t.lv, .int .i64 t.pad, .int .i64 t.ram]), (2, .pointer (some ⟨b1, 0, none⟩)), (3, .pointer (some ⟨b2, 0, none⟩)), (4, .slice none 0 0), (5, .bool false), (6, .pointer (some ⟨b5, 0, none⟩)), (10, .pointer (some ⟨b13, 0, none⟩)), (16, .bool false), (23, t.mv), (24, .int .i64 (t.mx.length : Int)), (25, .int .i64 (j : Int)), (26, .bool false), (34, t.lv), (35, .int .i64 (t.es.length : Int)), (36, .int .i64 (e : Int)), (37, .bool true), (41, (t.es.getD e Le0).v), (42, .int .i64 (((t.es.getD e Le0).xs).length : Int)), (43, .int .i64 (k : Int))]) (fun k ds => k ≤ (t.es.getD e Le0).xs.length ∧ ds = cs ++ ((t.es.getD e Le0).xs.take k).flatMap (fun x => bitsOf x 3) ∧ ds.length = cs.length + 3 * k ∧ Bits ds) (fun k ds => (t.es.getD e Le0).xs.length - k) 0 cs ⟨by omega, by simp, by omega, hcb⟩ (sub_cons (d := 0) rfl (sub_cons (d := 1) rfl (sub_cons (d := 2) rfl (sub_cons (d := 3) rfl (sub_cons (d := 4) rfl (sub_cons (d := 5) rfl (sub_cons (d := 6) rfl (sub_cons (d := 10) rfl (sub_cons (d := 16) rfl (sub_cons (d := 23) rfl (sub_cons (d := 24) rfl (sub_cons (d := 25) rfl (sub_cons (d := 26) rfl (sub_cons (d := 34) rfl (sub_cons (d := 35) rfl (sub_cons (d := 36) rfl (sub_cons (d := 37) rfl (sub_cons (d := 41) rfl (sub_cons (d := 42) rfl (sub_cons (d := 43) rfl (sub_nil _))))))))))))))))))))) ((.cons_cons _ (.cons_cons _ (.cons_cons _ (.cons_cons _ .slnil))))) ?_
        intro k ds hi14
        obtain ⟨hk1, hds, hdl, hdb⟩ := hi14
        refine hc_seq ?_
        refine hc_region ?_
        refine hl_lss rfl rfl rfl rfl rfl rfl (fun h15 => ?_) (fun h15 => ?_)
        ·
          refine hl_less (sub_cons (d := 0) rfl (sub_cons (d := 1) rfl (sub_cons (d := 2) rfl (sub_cons (d := 3) rfl (sub_cons (d := 4) rfl (sub_cons (d := 5) rfl (sub_cons (d := 6) rfl (sub_cons (d := 10) rfl (sub_cons (d := 16) rfl (sub_cons (d := 23) rfl (sub_cons (d := 24) rfl (sub_cons (d := 25) rfl (sub_cons (d := 26) rfl (sub_cons (d := 34) rfl (sub_cons (d := 35) rfl (sub_cons (d := 36) rfl (sub_cons (d := 37) rfl (sub_cons (d := 41) rfl (sub_cons (d := 42) rfl (sub_cons (d := 43) rfl (sub_cons (d := 44) rfl (sub_nil _)))))))))))))))))))))) (.refl _) ?_
          refine hl_nil ?_
          refine hq_then ?_
          refine hc_seq ?_
          refine hc_true rfl ?_
          refine hc_skip ?_
          refine hq_then ?_
          refine hc_seq ?_
          refine hc_block ?_
          refine hc_seq ?_
          refine hc_region ?_
          have hsk := r5 k (by omega)
          refine hl_v rfl rfl rfl (rv_index (s := 1) rfl Try.underlying30 (by kernel_rfl) rfl rfl (rd_old hre) (by omega) (by first | omega | (simp only [List.length_set]; omega))) ?_
          refine hl_v rfl rfl rfl (rv_loadEl (u := .int .i64 (((t.es.getD e Le0).xs).getD k 0)) rfl (by kernel_rfl) rfl (rd_old hre) (ints_at1 (show _ < ((t.es.getD e Le0).xs).length by first | omega | (simp only [List.length_set]; omega)))) ?_
          refine hl_v rfl rfl rfl (rv_ev rfl) ?_
          refine hl_less (sub_cons (d := 0) rfl (sub_cons (d := 1) rfl (sub_cons (d := 2) rfl (sub_cons (d := 3) rfl (sub_cons (d := 4) rfl (sub_cons (d := 5) rfl (sub_cons (d := 6) rfl (sub_cons (d := 10) rfl (sub_cons (d := 12) rfl (sub_cons (d := 16) rfl (sub_cons (d := 23) rfl (sub_cons (d := 24) rfl (sub_cons (d := 25) rfl (sub_cons (d := 26) rfl (sub_cons (d := 34) rfl (sub_cons (d := 35) rfl (sub_cons (d := 36) rfl (sub_cons (d := 37) rfl (sub_cons (d := 41) rfl (sub_cons (d := 42) rfl (sub_cons (d := 43) rfl (sub_cons (d := 44) rfl (sub_nil _))))))))))))))))))))))) (.refl _) ?_
          refine hl_nil ?_
          refine hq_then ?_
          refine hc_region ?_
          refine hl_v rfl rfl rfl (rv_ev rfl) ?_
          refine hl_v rfl rfl rfl (rv_ev rfl) ?_
          refine hl_callM (R := (fun u_ p_ => p_ = wrE b5 (.slice (some ⟨g4, 0, none⟩) ((List.replicate (frW d).toNat (0 : Int)).length) ((List.replicate (frW d).toNat (0 : Int)).length)) ((ds ++ bitsOf (((t.es.getD e Le0).xs).getD k 0) 3).length : Int) (packJ (frW d).toNat (ds ++ bitsOf (((t.es.getD e Le0).xs).getD k 0) 3) (ds ++ bitsOf (((t.es.getD e Le0).xs).getD k 0) 3).length))) 1 rfl rfl (by kernel_rfl) rfl rfl (fun l' w hm => bitPut_to (frW d).toNat ds (.slice (some ⟨g4, 0, none⟩) ((List.replicate (frW d).toNat (0 : Int)).length) ((List.replicate (frW d).toNat (0 : Int)).length)) b5 (((t.es.getD e Le0).xs).getD k 0) 3 _ _ w hm hdb (by omega) (by omega) (by first | omega | (simp only [List.length_append, bitsOf_len]; omega)) (by omega)) ?_
          intro v16 p17 hR18
          subst hR18
          refine hl_eqL (l' := [boxE b13 #[(t.es.getD e Le0).v, .int .i64 ((t.es.getD e Le0).m), .int .i64 ((t.es.getD e Le0).f), .int .i64 ((t.es.getD e Le0).i)] 87, wrE b5 (.slice (some ⟨g4, 0, none⟩) ((List.replicate (frW d).toNat (0 : Int)).length) ((List.replicate (frW d).toNat (0 : Int)).length)) ((ds ++ bitsOf (((t.es.getD e Le0).xs).getD k 0) 3).length : Int) (packJ (frW d).toNat (ds ++ bitsOf (((t.es.getD e Le0).xs).getD k 0) 3) (ds ++ bitsOf (((t.es.getD e Le0).xs).getD k 0) 3).length), boxE b2 #[t.mv, t.lv, .int .i64 t.pad, .int .i64 t.ram] 39, boxE b1 #[.int .i64 d.W, .int .i64 d.H, .int .i64 d.T, .int .i64 d.R] 25]) rfl ?_
          refine hl_less (sub_cons (d := 0) rfl (sub_cons (d := 1) rfl (sub_cons (d := 2) rfl (sub_cons (d := 3) rfl (sub_cons (d := 4) rfl (sub_cons (d := 5) rfl (sub_cons (d := 6) rfl (sub_cons (d := 10) rfl (sub_cons (d := 12) rfl (sub_cons (d := 16) rfl (sub_cons (d := 23) rfl (sub_cons (d := 24) rfl (sub_cons (d := 25) rfl (sub_cons (d := 26) rfl (sub_cons (d := 34) rfl (sub_cons (d := 35) rfl (sub_cons (d := 36) rfl (sub_cons (d := 37) rfl (sub_cons (d := 41) rfl (sub_cons (d := 42) rfl (sub_cons (d := 43) rfl (sub_cons (d := 44) rfl (sub_nil _))))))))))))))))))))))) (.refl _) ?_
          refine hl_nil ?_
          refine hq_block_normal ?_
          refine hq_then ?_
          refine hc_region ?_
          refine hl_v rfl rfl rfl (rv_add rfl rfl rfl (by constructor <;> omega)) ?_
          refine hl_v rfl rfl rfl (rv_ev rfl) ?_
          refine hl_less (sub_cons (d := 0) rfl (sub_cons (d := 1) rfl (sub_cons (d := 2) rfl (sub_cons (d := 3) rfl (sub_cons (d := 4) rfl (sub_cons (d := 5) rfl (sub_cons (d := 6) rfl (sub_cons (d := 10) rfl (sub_cons (d := 12) rfl (sub_cons (d := 16) rfl (sub_cons (d := 23) rfl (sub_cons (d := 24) rfl (sub_cons (d := 25) rfl (sub_cons (d := 26) rfl (sub_cons (d := 34) rfl (sub_cons (d := 35) rfl (sub_cons (d := 36) rfl (sub_cons (d := 37) rfl (sub_cons (d := 41) rfl (sub_cons (d := 42) rfl (sub_cons (d := 43) rfl (sub_cons (d := 44) rfl (sub_nil _))))))))))))))))))))))) (.refl _) ?_
          refine hl_nil ?_
          exact hq_round2 (k + 1) (ds ++ bitsOf ((t.es.getD e Le0).xs.getD k 0) 3) ⟨by omega, by rw [fm_take _ _ 0 k (by omega), ← List.append_assoc, ← hds], by rw [List.length_append, bitsOf_len]; omega, bits_app hdb (bitsOf_bits _ _)⟩ (by omega) (sub_cons (d := 0) rfl (sub_cons (d := 1) rfl (sub_cons (d := 2) rfl (sub_cons (d := 3) rfl (sub_cons (d := 4) rfl (sub_cons (d := 5) rfl (sub_cons (d := 6) rfl (sub_cons (d := 10) rfl (sub_cons (d := 16) rfl (sub_cons (d := 23) rfl (sub_cons (d := 24) rfl (sub_cons (d := 25) rfl (sub_cons (d := 26) rfl (sub_cons (d := 34) rfl (sub_cons (d := 35) rfl (sub_cons (d := 36) rfl (sub_cons (d := 37) rfl (sub_cons (d := 41) rfl (sub_cons (d := 42) rfl (sub_cons (d := 43) rfl (sub_nil _))))))))))))))))))))) ((.cons_cons _ (.cons_cons _ (.cons_cons _ (.cons_cons _ .slnil)))))
        ·
          refine hl_less (sub_cons (d := 0) rfl (sub_cons (d := 1) rfl (sub_cons (d := 2) rfl (sub_cons (d := 3) rfl (sub_cons (d := 4) rfl (sub_cons (d := 5) rfl (sub_cons (d := 6) rfl (sub_cons (d := 10) rfl (sub_cons (d := 16) rfl (sub_cons (d := 23) rfl (sub_cons (d := 24) rfl (sub_cons (d := 25) rfl (sub_cons (d := 26) rfl (sub_cons (d := 34) rfl (sub_cons (d := 35) rfl (sub_cons (d := 36) rfl (sub_cons (d := 37) rfl (sub_cons (d := 41) rfl (sub_cons (d := 42) rfl (sub_cons (d := 43) rfl (sub_cons (d := 44) rfl (sub_nil _)))))))))))))))))))))) (.refl _) ?_
          refine hl_nil ?_
          refine hq_then ?_
          refine hc_seq ?_
          refine hc_false rfl ?_
          refine hc_exit ?_
          refine hq_then_exit ?_
          refine hq_then_exit ?_
          refine hq_block_exit ?_
          refine hq_then ?_
          refine hc_seq ?_
          refine hc_region ?_
          refine hl_v rfl rfl rfl (rv_ev rfl) ?_
          refine hl_v rfl rfl rfl (rv_field (k0 := 1) rfl (by kernel_rfl) rfl) ?_
          refine hl_v rfl rfl rfl (rv_load rfl (by kernel_rfl) rfl (box_cell 0 rfl rfl)) ?_
          refine hl_callM (R := (fun u_ p_ => p_ = wrE b5 (.slice (some ⟨g4, 0, none⟩) ((List.replicate (frW d).toNat (0 : Int)).length) ((List.replicate (frW d).toNat (0 : Int)).length)) ((ds ++ bitsOf ((t.es.getD e Le0).m) 16).length : Int) (packJ (frW d).toNat (ds ++ bitsOf ((t.es.getD e Le0).m) 16) (ds ++ bitsOf ((t.es.getD e Le0).m) 16).length))) 1 rfl rfl (by kernel_rfl) rfl rfl (fun l' w hm => bitPut_to (frW d).toNat ds (.slice (some ⟨g4, 0, none⟩) ((List.replicate (frW d).toNat (0 : Int)).length) ((List.replicate (frW d).toNat (0 : Int)).length)) b5 ((t.es.getD e Le0).m) 16 _ _ w hm hdb (by omega) (by omega) (by first | omega | (simp only [List.length_append, bitsOf_len]; omega)) (by omega)) ?_
          intro v19 p20 hR21
          subst hR21
          refine hl_eqL (l' := [boxE b13 #[(t.es.getD e Le0).v, .int .i64 ((t.es.getD e Le0).m), .int .i64 ((t.es.getD e Le0).f), .int .i64 ((t.es.getD e Le0).i)] 87, wrE b5 (.slice (some ⟨g4, 0, none⟩) ((List.replicate (frW d).toNat (0 : Int)).length) ((List.replicate (frW d).toNat (0 : Int)).length)) ((ds ++ bitsOf ((t.es.getD e Le0).m) 16).length : Int) (packJ (frW d).toNat (ds ++ bitsOf ((t.es.getD e Le0).m) 16) (ds ++ bitsOf ((t.es.getD e Le0).m) 16).length), boxE b2 #[t.mv, t.lv, .int .i64 t.pad, .int .i64 t.ram] 39, boxE b1 #[.int .i64 d.W, .int .i64 d.H, .int .i64 d.T, .int .i64 d.R] 25]) rfl ?_
          refine hl_less (sub_cons (d := 0) rfl (sub_cons (d := 1) rfl (sub_cons (d := 2) rfl (sub_cons (d := 3) rfl (sub_cons (d := 4) rfl (sub_cons (d := 5) rfl (sub_cons (d := 6) rfl (sub_cons (d := 10) rfl (sub_cons (d := 16) rfl (sub_cons (d := 23) rfl (sub_cons (d := 24) rfl (sub_cons (d := 25) rfl (sub_cons (d := 26) rfl (sub_cons (d := 34) rfl (sub_cons (d := 35) rfl (sub_cons (d := 36) rfl (sub_cons (d := 37) rfl (sub_cons (d := 41) rfl (sub_cons (d := 42) rfl (sub_cons (d := 43) rfl (sub_cons (d := 44) rfl (sub_nil _)))))))))))))))))))))) (.refl _) ?_
          refine hl_nil ?_
          refine hq_then ?_
          refine hc_seq ?_
          refine hc_region ?_
          refine hl_v rfl rfl rfl (rv_ev rfl) ?_
          refine hl_v rfl rfl rfl (rv_field (k0 := 2) rfl (by kernel_rfl) rfl) ?_
          refine hl_v rfl rfl rfl (rv_load rfl (by kernel_rfl) rfl (box_cell 0 rfl rfl)) ?_
          refine hl_callM (R := (fun u_ p_ => p_ = wrE b5 (.slice (some ⟨g4, 0, none⟩) ((List.replicate (frW d).toNat (0 : Int)).length) ((List.replicate (frW d).toNat (0 : Int)).length)) (((ds ++ bitsOf ((t.es.getD e Le0).m) 16) ++ bitsOf ((t.es.getD e Le0).f) 1).length : Int) (packJ (frW d).toNat ((ds ++ bitsOf ((t.es.getD e Le0).m) 16) ++ bitsOf ((t.es.getD e Le0).f) 1) ((ds ++ bitsOf ((t.es.getD e Le0).m) 16) ++ bitsOf ((t.es.getD e Le0).f) 1).length))) 1 rfl rfl (by kernel_rfl) rfl rfl (fun l' w hm => bitPut_to (frW d).toNat (ds ++ bitsOf ((t.es.getD e Le0).m) 16) (.slice (some ⟨g4, 0, none⟩) ((List.replicate (frW d).toNat (0 : Int)).length) ((List.replicate (frW d).toNat (0 : Int)).length)) b5 ((t.es.getD e Le0).f) 1 _ _ w hm (bits_app hdb (bitsOf_bits _ _)) (by omega) (by omega) (by first | omega | (simp only [List.length_append, bitsOf_len]; omega)) (by omega)) ?_
          intro v22 p23 hR24
          subst hR24
          refine hl_eqL (l' := [boxE b13 #[(t.es.getD e Le0).v, .int .i64 ((t.es.getD e Le0).m), .int .i64 ((t.es.getD e Le0).f), .int .i64 ((t.es.getD e Le0).i)] 87, wrE b5 (.slice (some ⟨g4, 0, none⟩) ((List.replicate (frW d).toNat (0 : Int)).length) ((List.replicate (frW d).toNat (0 : Int)).length)) (((ds ++ bitsOf ((t.es.getD e Le0).m) 16) ++ bitsOf ((t.es.getD e Le0).f) 1).length : Int) (packJ (frW d).toNat ((ds ++ bitsOf ((t.es.getD e Le0).m) 16) ++ bitsOf ((t.es.getD e Le0).f) 1) ((ds ++ bitsOf ((t.es.getD e Le0).m) 16) ++ bitsOf ((t.es.getD e Le0).f) 1).length), boxE b2 #[t.mv, t.lv, .int .i64 t.pad, .int .i64 t.ram] 39, boxE b1 #[.int .i64 d.W, .int .i64 d.H, .int .i64 d.T, .int .i64 d.R] 25]) rfl ?_
          refine hl_less (sub_cons (d := 0) rfl (sub_cons (d := 1) rfl (sub_cons (d := 2) rfl (sub_cons (d := 3) rfl (sub_cons (d := 4) rfl (sub_cons (d := 5) rfl (sub_cons (d := 6) rfl (sub_cons (d := 10) rfl (sub_cons (d := 16) rfl (sub_cons (d := 23) rfl (sub_cons (d := 24) rfl (sub_cons (d := 25) rfl (sub_cons (d := 26) rfl (sub_cons (d := 34) rfl (sub_cons (d := 35) rfl (sub_cons (d := 36) rfl (sub_cons (d := 37) rfl (sub_cons (d := 41) rfl (sub_cons (d := 42) rfl (sub_cons (d := 43) rfl (sub_cons (d := 44) rfl (sub_nil _)))))))))))))))))))))) (.refl _) ?_
          refine hl_nil ?_
          refine hq_then ?_
          refine hc_region ?_
          refine hl_v rfl rfl rfl (rv_ev rfl) ?_
          refine hl_v rfl rfl rfl (rv_field (k0 := 3) rfl (by kernel_rfl) rfl) ?_
          refine hl_v rfl rfl rfl (rv_load rfl (by kernel_rfl) rfl (box_cell 0 rfl rfl)) ?_
          refine hl_callM (R := (fun u_ p_ => p_ = wrE b5 (.slice (some ⟨g4, 0, none⟩) ((List.replicate (frW d).toNat (0 : Int)).length) ((List.replicate (frW d).toNat (0 : Int)).length)) ((((ds ++ bitsOf ((t.es.getD e Le0).m) 16) ++ bitsOf ((t.es.getD e Le0).f) 1) ++ bitsOf ((t.es.getD e Le0).i) 1).length : Int) (packJ (frW d).toNat (((ds ++ bitsOf ((t.es.getD e Le0).m) 16) ++ bitsOf ((t.es.getD e Le0).f) 1) ++ bitsOf ((t.es.getD e Le0).i) 1) (((ds ++ bitsOf ((t.es.getD e Le0).m) 16) ++ bitsOf ((t.es.getD e Le0).f) 1) ++ bitsOf ((t.es.getD e Le0).i) 1).length))) 1 rfl rfl (by kernel_rfl) rfl rfl (fun l' w hm => bitPut_to (frW d).toNat ((ds ++ bitsOf ((t.es.getD e Le0).m) 16) ++ bitsOf ((t.es.getD e Le0).f) 1) (.slice (some ⟨g4, 0, none⟩) ((List.replicate (frW d).toNat (0 : Int)).length) ((List.replicate (frW d).toNat (0 : Int)).length)) b5 ((t.es.getD e Le0).i) 1 _ _ w hm (bits_app (bits_app hdb (bitsOf_bits _ _)) (bitsOf_bits _ _)) (by omega) (by omega) (by first | omega | (simp only [List.length_append, bitsOf_len]; omega)) (by omega)) ?_
          intro v25 p26 hR27
          subst hR27
          refine hl_eqL (l' := [boxE b13 #[(t.es.getD e Le0).v, .int .i64 ((t.es.getD e Le0).m), .int .i64 ((t.es.getD e Le0).f), .int .i64 ((t.es.getD e Le0).i)] 87, wrE b5 (.slice (some ⟨g4, 0, none⟩) ((List.replicate (frW d).toNat (0 : Int)).length) ((List.replicate (frW d).toNat (0 : Int)).length)) ((((ds ++ bitsOf ((t.es.getD e Le0).m) 16) ++ bitsOf ((t.es.getD e Le0).f) 1) ++ bitsOf ((t.es.getD e Le0).i) 1).length : Int) (packJ (frW d).toNat (((ds ++ bitsOf ((t.es.getD e Le0).m) 16) ++ bitsOf ((t.es.getD e Le0).f) 1) ++ bitsOf ((t.es.getD e Le0).i) 1) (((ds ++ bitsOf ((t.es.getD e Le0).m) 16) ++ bitsOf ((t.es.getD e Le0).f) 1) ++ bitsOf ((t.es.getD e Le0).i) 1).length), boxE b2 #[t.mv, t.lv, .int .i64 t.pad, .int .i64 t.ram] 39, boxE b1 #[.int .i64 d.W, .int .i64 d.H, .int .i64 d.T, .int .i64 d.R] 25]) rfl ?_
          refine hl_less (sub_cons (d := 0) rfl (sub_cons (d := 1) rfl (sub_cons (d := 2) rfl (sub_cons (d := 3) rfl (sub_cons (d := 4) rfl (sub_cons (d := 5) rfl (sub_cons (d := 6) rfl (sub_cons (d := 10) rfl (sub_cons (d := 16) rfl (sub_cons (d := 23) rfl (sub_cons (d := 24) rfl (sub_cons (d := 25) rfl (sub_cons (d := 26) rfl (sub_cons (d := 34) rfl (sub_cons (d := 35) rfl (sub_cons (d := 36) rfl (sub_cons (d := 37) rfl (sub_cons (d := 41) rfl (sub_cons (d := 42) rfl (sub_cons (d := 43) rfl (sub_cons (d := 44) rfl (sub_nil _)))))))))))))))))))))) (.refl _) ?_
          refine hl_nil ?_
          refine hq_block_normal ?_
          refine hq_then ?_
          refine hc_region ?_
          refine hl_v rfl rfl rfl (rv_add rfl rfl rfl (by constructor <;> omega)) ?_
          refine hl_v rfl rfl rfl (rv_ev rfl) ?_
          refine hl_less (sub_cons (d := 0) rfl (sub_cons (d := 1) rfl (sub_cons (d := 2) rfl (sub_cons (d := 3) rfl (sub_cons (d := 4) rfl (sub_cons (d := 5) rfl (sub_cons (d := 6) rfl (sub_cons (d := 10) rfl (sub_cons (d := 16) rfl (sub_cons (d := 23) rfl (sub_cons (d := 24) rfl (sub_cons (d := 25) rfl (sub_cons (d := 26) rfl (sub_cons (d := 34) rfl (sub_cons (d := 35) rfl (sub_cons (d := 36) rfl (sub_cons (d := 37) rfl (sub_cons (d := 41) rfl (sub_cons (d := 42) rfl (sub_cons (d := 43) rfl (sub_cons (d := 44) rfl (sub_nil _)))))))))))))))))))))) (.refl _) ?_
          refine hl_nil ?_
          exact hq_round2 (e + 1) (((ds ++ bitsOf ((t.es.getD e Le0).m) 16) ++ bitsOf ((t.es.getD e Le0).f) 1) ++ bitsOf ((t.es.getD e Le0).i) 1) ⟨by omega, by rw [fm_take _ _ Le0 e (by omega), ← List.append_assoc, ← hcs, hds, show k = (t.es.getD e Le0).xs.length by omega, List.take_length]; simp [leBits, Le.val, List.append_assoc], by simp only [List.length_append, bitsOf_len]; omega, bits_app (bits_app (bits_app hdb (bitsOf_bits _ _)) (bitsOf_bits _ _)) (bitsOf_bits _ _)⟩ (by omega) (sub_cons (d := 0) rfl (sub_cons (d := 1) rfl (sub_cons (d := 2) rfl (sub_cons (d := 3) rfl (sub_cons (d := 4) rfl (sub_cons (d := 5) rfl (sub_cons (d := 6) rfl (sub_cons (d := 16) rfl (sub_cons (d := 23) rfl (sub_cons (d := 24) rfl (sub_cons (d := 25) rfl (sub_cons (d := 26) rfl (sub_cons (d := 34) rfl (sub_cons (d := 35) rfl (sub_cons (d := 36) rfl (sub_nil _)))))))))))))))) ((.cons _ (.cons_cons _ (.cons_cons _ (.cons_cons _ .slnil)))))
      ·
        refine hl_less (sub_cons (d := 0) rfl (sub_cons (d := 1) rfl (sub_cons (d := 2) rfl (sub_cons (d := 3) rfl (sub_cons (d := 4) rfl (sub_cons (d := 5) rfl (sub_cons (d := 6) rfl (sub_cons (d := 16) rfl (sub_cons (d := 23) rfl (sub_cons (d := 24) rfl (sub_cons (d := 25) rfl (sub_cons (d := 26) rfl (sub_cons (d := 34) rfl (sub_cons (d := 35) rfl (sub_cons (d := 36) rfl (sub_cons (d := 37) rfl (sub_nil _))))))))))))))))) (.refl _) ?_
        refine hl_nil ?_
        refine hq_then ?_
        refine hc_seq ?_
        refine hc_false rfl ?_
        refine hc_exit ?_
        refine hq_then_exit ?_
        refine hq_then_exit ?_
        refine hq_block_exit ?_
        refine hq_then ?_
        refine hc_seq ?_
        refine hc_region ?_
        refine hl_v rfl rfl rfl (rv_ev rfl) ?_
        refine hl_v rfl rfl rfl (rv_field (k0 := 2) rfl (by kernel_rfl) rfl) ?_
        refine hl_v rfl rfl rfl (rv_load rfl (by kernel_rfl) rfl (box_cell 1 rfl rfl)) ?_
        refine hl_callM (R := (fun u_ p_ => p_ = wrE b5 (.slice (some ⟨g4, 0, none⟩) ((List.replicate (frW d).toNat (0 : Int)).length) ((List.replicate (frW d).toNat (0 : Int)).length)) ((cs ++ bitsOf t.pad 2).length : Int) (packJ (frW d).toNat (cs ++ bitsOf t.pad 2) (cs ++ bitsOf t.pad 2).length))) 0 rfl rfl (by kernel_rfl) rfl rfl (fun l' w hm => bitPut_to (frW d).toNat cs (.slice (some ⟨g4, 0, none⟩) ((List.replicate (frW d).toNat (0 : Int)).length) ((List.replicate (frW d).toNat (0 : Int)).length)) b5 t.pad 2 _ _ w hm hcb (by omega) (by omega) (by first | omega | (simp only [List.length_append, bitsOf_len]; omega)) (by omega)) ?_
        intro v28 p29 hR30
        subst hR30
        refine hl_eqL (l' := [wrE b5 (.slice (some ⟨g4, 0, none⟩) ((List.replicate (frW d).toNat (0 : Int)).length) ((List.replicate (frW d).toNat (0 : Int)).length)) ((cs ++ bitsOf t.pad 2).length : Int) (packJ (frW d).toNat (cs ++ bitsOf t.pad 2) (cs ++ bitsOf t.pad 2).length), boxE b2 #[t.mv, t.lv, .int .i64 t.pad, .int .i64 t.ram] 39, boxE b1 #[.int .i64 d.W, .int .i64 d.H, .int .i64 d.T, .int .i64 d.R] 25]) rfl ?_
        refine hl_less (sub_cons (d := 0) rfl (sub_cons (d := 1) rfl (sub_cons (d := 2) rfl (sub_cons (d := 3) rfl (sub_cons (d := 4) rfl (sub_cons (d := 5) rfl (sub_cons (d := 6) rfl (sub_cons (d := 16) rfl (sub_cons (d := 23) rfl (sub_cons (d := 24) rfl (sub_cons (d := 25) rfl (sub_cons (d := 26) rfl (sub_cons (d := 34) rfl (sub_cons (d := 35) rfl (sub_cons (d := 36) rfl (sub_cons (d := 37) rfl (sub_nil _))))))))))))))))) (.refl _) ?_
        refine hl_nil ?_
        refine hq_then ?_
        refine hc_seq ?_
        refine hc_region ?_
        refine hl_v rfl rfl rfl (rv_ev rfl) ?_
        refine hl_v rfl rfl rfl (rv_field (k0 := 3) rfl (by kernel_rfl) rfl) ?_
        refine hl_v rfl rfl rfl (rv_load rfl (by kernel_rfl) rfl (box_cell 1 rfl rfl)) ?_
        refine hl_callM (R := (fun u_ p_ => p_ = wrE b5 (.slice (some ⟨g4, 0, none⟩) ((List.replicate (frW d).toNat (0 : Int)).length) ((List.replicate (frW d).toNat (0 : Int)).length)) (((cs ++ bitsOf t.pad 2) ++ bitsOf t.ram 5).length : Int) (packJ (frW d).toNat ((cs ++ bitsOf t.pad 2) ++ bitsOf t.ram 5) ((cs ++ bitsOf t.pad 2) ++ bitsOf t.ram 5).length))) 0 rfl rfl (by kernel_rfl) rfl rfl (fun l' w hm => bitPut_to (frW d).toNat (cs ++ bitsOf t.pad 2) (.slice (some ⟨g4, 0, none⟩) ((List.replicate (frW d).toNat (0 : Int)).length) ((List.replicate (frW d).toNat (0 : Int)).length)) b5 t.ram 5 _ _ w hm (bits_app hcb (bitsOf_bits _ _)) (by omega) (by omega) (by first | omega | (simp only [List.length_append, bitsOf_len]; omega)) (by omega)) ?_
        intro v31 p32 hR33
        subst hR33
        refine hl_eqL (l' := [wrE b5 (.slice (some ⟨g4, 0, none⟩) ((List.replicate (frW d).toNat (0 : Int)).length) ((List.replicate (frW d).toNat (0 : Int)).length)) (((cs ++ bitsOf t.pad 2) ++ bitsOf t.ram 5).length : Int) (packJ (frW d).toNat ((cs ++ bitsOf t.pad 2) ++ bitsOf t.ram 5) ((cs ++ bitsOf t.pad 2) ++ bitsOf t.ram 5).length), boxE b2 #[t.mv, t.lv, .int .i64 t.pad, .int .i64 t.ram] 39, boxE b1 #[.int .i64 d.W, .int .i64 d.H, .int .i64 d.T, .int .i64 d.R] 25]) rfl ?_
        refine hl_less (sub_cons (d := 0) rfl (sub_cons (d := 1) rfl (sub_cons (d := 2) rfl (sub_cons (d := 3) rfl (sub_cons (d := 4) rfl (sub_cons (d := 5) rfl (sub_cons (d := 6) rfl (sub_cons (d := 16) rfl (sub_cons (d := 23) rfl (sub_cons (d := 24) rfl (sub_cons (d := 25) rfl (sub_cons (d := 26) rfl (sub_cons (d := 34) rfl (sub_cons (d := 35) rfl (sub_cons (d := 36) rfl (sub_cons (d := 37) rfl (sub_nil _))))))))))))))))) (.refl _) ?_
        refine hl_nil ?_
        refine hq_then ?_
        refine hc_seq ?_
        refine hc_region ?_
        refine hl_conv [wrE b5 (.slice (some ⟨g4, 0, none⟩) ((List.replicate (frW d).toNat (0 : Int)).length) ((List.replicate (frW d).toNat (0 : Int)).length)) (((cs ++ bitsOf t.pad 2) ++ bitsOf t.ram 5).length : Int) (packJ (frW d).toNat ((cs ++ bitsOf t.pad 2) ++ bitsOf t.ram 5) ((cs ++ bitsOf t.pad 2) ++ bitsOf t.ram 5).length), boxE b2 #[t.mv, t.lv, .int .i64 t.pad, .int .i64 t.ram] 39, boxE b1 #[.int .i64 d.W, .int .i64 d.H, .int .i64 d.T, .int .i64 d.R] 25] (conv_pick (src := [wrE b5 (.slice (some ⟨g4, 0, none⟩) ((List.replicate (frW d).toNat (0 : Int)).length) ((List.replicate (frW d).toNat (0 : Int)).length)) (((cs ++ bitsOf t.pad 2) ++ bitsOf t.ram 5).length : Int) (packJ (frW d).toNat ((cs ++ bitsOf t.pad 2) ++ bitsOf t.ram 5) ((cs ++ bitsOf t.pad 2) ++ bitsOf t.ram 5).length), boxE b2 #[t.mv, t.lv, .int .i64 t.pad, .int .i64 t.ram] 39, boxE b1 #[.int .i64 d.W, .int .i64 d.H, .int .i64 d.T, .int .i64 d.R] 25]) (dst := [wrE b5 (.slice (some ⟨g4, 0, none⟩) ((List.replicate (frW d).toNat (0 : Int)).length) ((List.replicate (frW d).toNat (0 : Int)).length)) (((cs ++ bitsOf t.pad 2) ++ bitsOf t.ram 5).length : Int) (packJ (frW d).toNat ((cs ++ bitsOf t.pad 2) ++ bitsOf t.ram 5) ((cs ++ bitsOf t.pad 2) ++ bitsOf t.ram 5).length), boxE b2 #[t.mv, t.lv, .int .i64 t.pad, .int .i64 t.ram] 39, boxE b1 #[.int .i64 d.W, .int .i64 d.H, .int .i64 d.T, .int .i64 d.R] 25]) (l := []) [0, 1, 2] (by decide) rfl) ?_
        refine hl_conv [boxE b5 #[.slice (some ⟨g4, 0, none⟩) ((List.replicate (frW d).toNat (0 : Int)).length) ((List.replicate (frW d).toNat (0 : Int)).length), .int .i64 (((cs ++ bitsOf t.pad 2) ++ bitsOf t.ram 5).length : Int)] 105, rowE 3 1 (.slice (some ⟨g4, 0, none⟩) ((List.replicate (frW d).toNat (0 : Int)).length) ((List.replicate (frW d).toNat (0 : Int)).length)) ((packJ (frW d).toNat ((cs ++ bitsOf t.pad 2) ++ bitsOf t.ram 5) ((cs ++ bitsOf t.pad 2) ++ bitsOf t.ram 5).length).length) ((packJ (frW d).toNat ((cs ++ bitsOf t.pad 2) ++ bitsOf t.ram 5) ((cs ++ bitsOf t.pad 2) ++ bitsOf t.ram 5).length).map (Value.int .i64)), boxE b2 #[t.mv, t.lv, .int .i64 t.pad, .int .i64 t.ram] 39, boxE b1 #[.int .i64 d.W, .int .i64 d.H, .int .i64 d.T, .int .i64 d.R] 25] conv_unbig ?_
        refine hl_v rfl rfl rfl (rv_ev rfl) ?_
        refine hl_v rfl rfl rfl (rv_nilCheck rfl rfl) ?_
        refine hl_v rfl rfl rfl (rv_field (k0 := 0) rfl (by kernel_rfl) rfl) ?_
        refine hl_v rfl rfl rfl (rv_load rfl (by kernel_rfl) rfl (box_cell 0 rfl rfl)) ?_
        refine hl_v rfl rfl rfl (rv_ev rfl) ?_
        refine hl_v rfl rfl rfl (rv_ev rfl) ?_
        refine hl_less (sub_cons (d := 0) rfl (sub_cons (d := 1) rfl (sub_cons (d := 2) rfl (sub_cons (d := 3) rfl (sub_cons (d := 4) rfl (sub_cons (d := 5) rfl (sub_cons (d := 6) rfl (sub_cons (d := 16) rfl (sub_cons (d := 23) rfl (sub_cons (d := 24) rfl (sub_cons (d := 25) rfl (sub_cons (d := 26) rfl (sub_cons (d := 34) rfl (sub_cons (d := 35) rfl (sub_cons (d := 36) rfl (sub_cons (d := 37) rfl (sub_nil _))))))))))))))))) (.refl _) ?_
        refine hl_nil ?_
        refine hq_then ?_
        refine hc_ret ?_
        have hyes : tcOkV d t.val = true := by assumption
        have htb : ((cs ++ bitsOf t.pad 2) ++ bitsOf t.ram 5) = tcBits t.val := by rw [hcs, show e = t.es.length by omega, List.take_length]; simp [tcBits, Tc.val, List.flatMap_map, List.append_assoc]
        exact hq_retM (rs := [.tmp 4, .tmp 5]) (vs := [.slice (some ⟨g4, 0, none⟩) ((List.replicate (frW d).toNat (0 : Int)).length) ((List.replicate (frW d).toNat (0 : Int)).length), .bool true]) (post := [rowE 3 1 (.slice (some ⟨g4, 0, none⟩) ((List.replicate (frW d).toNat (0 : Int)).length) ((List.replicate (frW d).toNat (0 : Int)).length)) ((packJ (frW d).toNat ((cs ++ bitsOf t.pad 2) ++ bitsOf t.ram 5) ((cs ++ bitsOf t.pad 2) ++ bitsOf t.ram 5).length).length) ((packJ (frW d).toNat ((cs ++ bitsOf t.pad 2) ++ bitsOf t.ram 5) ((cs ++ bitsOf t.pad 2) ++ bitsOf t.ram 5).length).map (Value.int .i64))]) rfl ⟨rfl, rfl, trivial⟩ rfl ((.cons _ (.cons_cons _ (.cons _ (.cons _ .slnil))))) ⟨_, by rw [hyes]; rfl, by unfold encV; rw [if_pos hyes, ← htb]⟩
  ·
    refine hl_v rfl rfl rfl (rv_ev rfl) ?_
    refine hl_less (sub_cons (d := 0) rfl (sub_cons (d := 1) rfl (sub_cons (d := 2) rfl (sub_cons (d := 3) rfl (sub_cons (d := 4) rfl (sub_cons (d := 5) rfl (sub_cons (d := 16) rfl (sub_nil _)))))))) (.refl _) ?_
    refine hl_nil ?_
    refine hq_then ?_
    refine hc_true rfl ?_
    refine hc_seq ?_
    refine hc_region ?_
    refine hl_v rfl rfl rfl (rv_ev rfl) ?_
    refine hl_v rfl rfl rfl (rv_ev rfl) ?_
    refine hl_less (sub_cons (d := 0) rfl (sub_cons (d := 1) rfl (sub_cons (d := 2) rfl (sub_cons (d := 3) rfl (sub_cons (d := 4) rfl (sub_cons (d := 5) rfl (sub_cons (d := 16) rfl (sub_nil _)))))))) (.refl _) ?_
    refine hl_nil ?_
    refine hq_then ?_
    refine hc_ret ?_
    refine hq_then_ret ?_
    refine hq_conv (rowE 3 1 (.slice none 0 0) 0 [] :: [boxE b2 #[t.mv, t.lv, .int .i64 t.pad, .int .i64 t.ram] 39, boxE b1 #[.int .i64 d.W, .int .i64 d.H, .int .i64 d.T, .int .i64 d.R] 25]) (fun w hm => hm.nilRow 3 1) ?_
    have hno : tcOkV d t.val = false := by assumption
    exact hq_retM (rs := [.tmp 4, .tmp 5]) (vs := [.slice none 0 0, .bool false]) (post := [rowE 3 1 (.slice none 0 0) 0 []]) rfl ⟨rfl, rfl, trivial⟩ rfl (.cons_cons _ (List.nil_sublist _)) ⟨_, by rw [hno]; rfl, by unfold encV; rw [hno]; rfl⟩
end Go.Proofs.Ytnnkbpcfjjijbaa
