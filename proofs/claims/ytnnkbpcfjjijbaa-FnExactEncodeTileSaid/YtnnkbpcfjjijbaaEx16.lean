/- EncodeTile of the reference: the walk. -/
import Derived.Test.YtnnkbpcfjjijbaaEx15
set_option linter.unusedVariables false
set_option linter.unusedSimpArgs false
namespace Go.Proofs.Ytnnkbpcfjjijbaa
open Go.RowKit

theorem add_small {a b n : Int} (ha : 0 ≤ a ∧ a < 2 ^ n.toNat) (hb : 0 ≤ b ∧ b ≤ 1) (hn : 0 ≤ n ∧ n ≤ 16) : -9223372036854775808 ≤ a + b * 2 ^ n.toNat ∧ a + b * 2 ^ n.toNat ≤ 9223372036854775807 := by
  have := pow_16 n.toNat (by omega)
  rcases (show b = 0 ∨ b = 1 by omega) with e | e <;> rw [e] <;> omega
theorem flat_bits (f : Int → List Int) (hf : ∀ x, Bits (f x)) : ∀ l : List Int, Bits (l.flatMap f)
  | [] => bits_nil
  | a :: l => by rw [List.flatMap_cons]; exact bits_app (hf a) (flat_bits f hf l)
theorem le_bits (e : List Int × Int × Int × Int) : Bits (leBits e) := bits_app (bits_app (bits_app (flat_bits _ (fun x => bitsOf_bits x 3) _) (bitsOf_bits _ _)) (bitsOf_bits _ _)) (bitsOf_bits _ _)
theorem les_bits : ∀ l : List (List Int × Int × Int × Int), Bits (l.flatMap leBits)
  | [] => bits_nil
  | a :: l => by rw [List.flatMap_cons]; exact bits_app (le_bits a) (les_bits l)
theorem tc_bits (v : List Int × List (List Int × Int × Int × Int) × Int × Int) : Bits (tcBits v) := bits_app (bits_app (bits_app (flat_bits _ (fun x => bitsOf_bits x 5) _) (les_bits _)) (bitsOf_bits _ _)) (bitsOf_bits _ _)
set_option maxHeartbeats 4000000 in
set_option maxRecDepth 100000 in
theorem specPut_mut (bs : List Int) (v : Value) (x n : Int) (w0 : World) (l : List HP) (w : World) (hm0 : Mem w0 (rowE 3 1 v bs.length (bs.map (Value.int .i64)) :: l) w) (hx : 0 ≤ x ∧ x ≤ 65535) (hn : 0 ≤ n ∧ n ≤ 16) (hlen : bs.length ≤ 1000000) :
    Calls Try.prog 107 #[v, .int .i64 x, .int .i64 n] w (fun e_ w_ => ∃ v_ p_, e_ = .returned v_ ∧ (fun u_ p_ => p_ = rowE 3 1 u_ (bs ++ bitsOf x n.toNat).length ((bs ++ bitsOf x n.toNat).map (Value.int .i64))) v_ p_ ∧ Mem w0 (p_ :: l) w_) := by
  refine calls_hcM (N := 21) (args := [v, .int .i64 x, .int .i64 n]) Try.func107 rfl rfl hm0 ?_
  refine hc_less _ (sub_cons (d := 0) rfl (sub_cons (d := 1) rfl (sub_cons (d := 2) rfl (sub_nil _)))) (.refl _) ?_
  refine hc_seq ?_
  refine hc_region ?_
  refine hl_v rfl rfl rfl (rv_ev rfl) ?_
  refine hl_less (sub_cons (d := 0) rfl (sub_cons (d := 1) rfl (sub_cons (d := 2) rfl (sub_cons (d := 6) rfl (sub_nil _))))) (.refl _) ?_
  refine hl_nil ?_
  refine hq_then ?_
  refine hc_seq ?_
  refine hc_seq ?_
  refine hc_region ?_
  refine hl_v rfl rfl rfl (rv_ev rfl) ?_
  refine hl_less (sub_cons (d := 0) rfl (sub_cons (d := 1) rfl (sub_cons (d := 2) rfl (sub_cons (d := 6) rfl (sub_cons (d := 7) rfl (sub_nil _)))))) (.refl _) ?_
  refine hl_nil ?_
  refine hq_then ?_
  refine hc_block ?_
  refine hc_loop3 (α := Nat) (β := Value) (γ := List Int) (fun k u zs => (rowE 3 1 u zs.length (zs.map (Value.int .i64)) :: l)) (fun k u zs => [(0, u), (1, .int .i64 x), (2, .int .i64 n), (6, .slice none 0 0), (7, .int .i64 (k : Int))]) (fun k u zs => (k : Int) ≤ n ∧ zs = bs ++ bitsOf x k) (fun k u zs => n.toNat - k) 0 _ bs ⟨by omega, by simp [bitsOf]⟩ (sub_cons (d := 0) rfl (sub_cons (d := 1) rfl (sub_cons (d := 2) rfl (sub_cons (d := 6) rfl (sub_cons (d := 7) rfl (sub_nil _)))))) ((.cons_cons _ (.refl _))) ?_
  intro k u zs hi1
  obtain ⟨hk, hz⟩ := hi1
  have hzl : zs.length = bs.length + k := by rw [hz, List.length_append, bitsOf_len]
  refine hc_seq ?_
  refine hc_seq ?_
  refine hc_region ?_
  refine hl_v rfl rfl rfl (rv_ev rfl) ?_
  refine hl_v rfl rfl rfl (rv_ev rfl) ?_
  refine hl_lss rfl rfl rfl rfl rfl rfl (fun h2 => ?_) (fun h2 => ?_)
  ·
    refine hl_less (sub_cons (d := 0) rfl (sub_cons (d := 1) rfl (sub_cons (d := 2) rfl (sub_cons (d := 6) rfl (sub_cons (d := 7) rfl (sub_cons (d := 10) rfl (sub_nil _))))))) (.refl _) ?_
    refine hl_nil ?_
    refine hq_then ?_
    refine hc_true rfl ?_
    refine hc_skip ?_
    refine hq_then ?_
    refine hc_seq ?_
    refine hc_block ?_
    refine hc_region ?_
    refine hl_v rfl rfl rfl (rv_ev rfl) ?_
    refine hl_v rfl rfl rfl (rv_ev rfl) ?_
    refine hl_v rfl rfl rfl (rv_ev rfl) ?_
    refine hl_v rfl rfl rfl (rv_shr rfl rfl rfl (by omega)) ?_
    refine hl_v rfl rfl rfl (rv_bits rfl (by decide) rfl rfl (r := (x / 2 ^ ((k : Int)).toNat) % 2) (and1 _ hx)) ?_
    refine hl_row rfl rfl rfl (rq_buildSlice (z := .int .i64 0) (s := 1) (cs := ([(x / 2 ^ ((k : Int)).toNat) % 2].map (Value.int .i64))) rfl Try.underlying30 (by kernel_rfl) (by decide) rfl (by kernel_rfl) rfl) ?_
    intro g3
    refine hl_append (i := 1) (z := .int .i64 0) (bytes := 8) (n' := (zs ++ ([(x / 2 ^ ((k : Int)).toNat) % 2])).length) (xs' := ((zs ++ ([(x / 2 ^ ((k : Int)).toNat) % 2])).map (Value.int .i64))) (L := fun v4 => (rowE 3 1 (.slice (some ⟨g3, 0, none⟩) 1 1) 1 ([(x / 2 ^ ((k : Int)).toNat) % 2].map (Value.int .i64)) :: rowE 3 1 v4 ((zs ++ ([(x / 2 ^ ((k : Int)).toNat) % 2])).length) ((zs ++ ([(x / 2 ^ ((k : Int)).toNat) % 2])).map (Value.int .i64)) :: l)) rfl rfl rfl rfl Try.underlying30 (by kernel_rfl) (by kernel_rfl) rfl rfl rfl (rd_row 0 rfl) (ints_one _) (by simp; omega) (len_app zs ([(x / 2 ^ ((k : Int)).toNat) % 2])) (ints_app zs ([(x / 2 ^ ((k : Int)).toNat) % 2])) (fun _ => rfl) ?_
    intro v4
    refine hl_v rfl rfl rfl (rv_ev rfl) ?_
    refine hl_less (sub_cons (d := 0) rfl (sub_cons (d := 1) rfl (sub_cons (d := 2) rfl (sub_cons (d := 6) rfl (sub_cons (d := 7) rfl (sub_cons (d := 10) rfl (sub_nil _))))))) (.refl _) ?_
    refine hl_nil ?_
    refine hq_block_normal ?_
    refine hq_then ?_
    refine hc_region ?_
    refine hl_v rfl rfl rfl (rv_ev rfl) ?_
    refine hl_v rfl rfl rfl (rv_add rfl rfl rfl (by constructor <;> omega)) ?_
    refine hl_v rfl rfl rfl (rv_ev rfl) ?_
    refine hl_less (sub_cons (d := 0) rfl (sub_cons (d := 1) rfl (sub_cons (d := 2) rfl (sub_cons (d := 6) rfl (sub_cons (d := 7) rfl (sub_cons (d := 10) rfl (sub_nil _))))))) (.refl _) ?_
    refine hl_nil ?_
    exact hq_round3 (k + 1) v4 (zs ++ ([(x / 2 ^ ((k : Int)).toNat) % 2])) ⟨by omega, by rw [bitsOf_succ, ← List.append_assoc, ← hz]; rfl⟩ (by omega) (sub_cons (d := 0) rfl (sub_cons (d := 1) rfl (sub_cons (d := 2) rfl (sub_cons (d := 6) rfl (sub_cons (d := 7) rfl (sub_nil _)))))) ((.cons _ (.cons_cons _ (.refl _))))
  ·
    refine hl_less (sub_cons (d := 0) rfl (sub_cons (d := 1) rfl (sub_cons (d := 2) rfl (sub_cons (d := 6) rfl (sub_cons (d := 7) rfl (sub_cons (d := 10) rfl (sub_nil _))))))) (.refl _) ?_
    refine hl_nil ?_
    refine hq_then ?_
    refine hc_false rfl ?_
    refine hc_exit ?_
    refine hq_then_exit ?_
    refine hq_then_exit ?_
    refine hq_block_exit ?_
    refine hq_then ?_
    refine hc_seq ?_
    refine hc_region ?_
    refine hl_v rfl rfl rfl (rv_ev rfl) ?_
    refine hl_v rfl rfl rfl (rv_ev rfl) ?_
    refine hl_less (sub_cons (d := 0) rfl (sub_cons (d := 1) rfl (sub_cons (d := 2) rfl (sub_cons (d := 6) rfl (sub_cons (d := 7) rfl (sub_cons (d := 10) rfl (sub_nil _))))))) (.refl _) ?_
    refine hl_nil ?_
    refine hq_then ?_
    refine hc_ret ?_
    have hkn : k = n.toNat := by omega
    exact hq_retMut (p' := rowE 3 1 u zs.length (zs.map (Value.int .i64))) rfl rfl (.refl _) (by rw [hz, hkn])
set_option maxHeartbeats 4000000 in
set_option maxRecDepth 100000 in
theorem specEncodeTile_ret (d : Dev) (t : Tc) (w : World) (ht : t.Rds w) :
    Calls Try.prog 52 #[.agg #[.int .i64 d.W, .int .i64 d.H, .int .i64 d.T, .int .i64 d.R], .agg #[t.mv, t.lv, .int .i64 t.pad, .int .i64 t.ram]] w (Ret w (IsEnc d t.val)) := by
  refine calls_hc (N := 110) (args := [.agg #[.int .i64 d.W, .int .i64 d.H, .int .i64 d.T, .int .i64 d.R], .agg #[t.mv, t.lv, .int .i64 t.pad, .int .i64 t.ram]]) Try.func52 rfl rfl ?_
  refine hc_less _ (sub_cons (d := 0) rfl (sub_cons (d := 1) rfl (sub_nil _))) (.refl _) ?_
  refine hc_seq ?_
  refine hc_region ?_
  refine hl_box rfl rfl rfl (rq_box rfl rfl) ?_
  intro b1
  refine hl_box rfl rfl rfl (rq_box rfl rfl) ?_
  intro b2
  refine hl_v rfl rfl rfl (rv_ev rfl) ?_
  refine hl_v rfl rfl rfl (rv_ev rfl) ?_
  refine hl_less (sub_cons (d := 0) rfl (sub_cons (d := 1) rfl (sub_cons (d := 2) rfl (sub_cons (d := 3) rfl (sub_cons (d := 4) rfl (sub_cons (d := 5) rfl (sub_nil _))))))) (.refl _) ?_
  refine hl_nil ?_
  refine hq_then ?_
  refine hc_seq ?_
  refine hc_seq ?_
  refine hc_region ?_
  refine hl_v rfl rfl rfl (rv_loadN (cs := [.int .i64 d.W, .int .i64 d.H, .int .i64 d.T, .int .i64 d.R]) rfl (by kernel_rfl) (by kernel_rfl) rfl rfl (box_part 1 rfl 0 rfl)) ?_
  refine hl_v rfl rfl rfl (rv_loadN (cs := [t.mv, t.lv, .int .i64 t.pad, .int .i64 t.ram]) rfl (by kernel_rfl) (by kernel_rfl) rfl rfl (box_part 0 rfl 0 rfl)) ?_
  refine hl_callV rfl rfl rfl (rq_call (by kernel_rfl) rfl (fun w hm => ret_ans (specTileConfigOk_ans d t w (ht.below hm.bel)))) ?_
  refine hl_bool (fun h3 => ?_) (fun h3 => ?_)
  ·
    obtain ⟨hd, hmx5, hes2, hpad, hram, hmxr, hesr⟩ := (tcOkV_iff d t).1 h3
    obtain ⟨-, -, ⟨l1, l2⟩, -⟩ := (devB_iff d).1 hd
    have hfr : frW d = (5 * (5 + 4 * d.T) + 67 + 15) / 16 := rfl
    have hNN : ((frW d).toNat : Int) = frW d := by omega
    refine hl_v rfl rfl rfl (rv_ev rfl) ?_
    refine hl_less (sub_cons (d := 0) rfl (sub_cons (d := 1) rfl (sub_cons (d := 2) rfl (sub_cons (d := 3) rfl (sub_cons (d := 4) rfl (sub_cons (d := 5) rfl (sub_cons (d := 15) rfl (sub_nil _)))))))) (.refl _) ?_
    refine hl_nil ?_
    refine hq_then ?_
    refine hc_false rfl ?_
    refine hc_skip ?_
    refine hq_then ?_
    refine hc_seq ?_
    refine hc_region ?_
    refine hl_row rfl rfl rfl (rq_slice0 (s := 1) rfl Try.underlying30 (by kernel_rfl)) ?_
    intro g4
    refine hl_v rfl rfl rfl (rv_ev rfl) ?_
    refine hl_less (sub_cons (d := 0) rfl (sub_cons (d := 1) rfl (sub_cons (d := 2) rfl (sub_cons (d := 3) rfl (sub_cons (d := 4) rfl (sub_cons (d := 5) rfl (sub_cons (d := 6) rfl (sub_cons (d := 15) rfl (sub_nil _))))))))) (.refl _) ?_
    refine hl_nil ?_
    refine hq_then ?_
    refine hc_seq ?_
    refine hc_seq ?_
    refine hc_region ?_
    refine hl_v rfl rfl rfl (rv_ev rfl) ?_
    refine hl_less (sub_cons (d := 0) rfl (sub_cons (d := 1) rfl (sub_cons (d := 2) rfl (sub_cons (d := 3) rfl (sub_cons (d := 4) rfl (sub_cons (d := 5) rfl (sub_cons (d := 6) rfl (sub_cons (d := 7) rfl (sub_cons (d := 15) rfl (sub_nil _)))))))))) (.refl _) ?_
    refine hl_nil ?_
    refine hq_then ?_
    refine hc_block ?_
    refine hc_loop3 (α := Nat) (β := Value) (γ := List Int) (fun j u1 bs => [rowE 3 1 u1 bs.length (bs.map (Value.int .i64)), boxE b2 #[t.mv, t.lv, .int .i64 t.pad, .int .i64 t.ram] 39, boxE b1 #[.int .i64 d.W, .int .i64 d.H, .int .i64 d.T, .int .i64 d.R] 25]) (fun j u1 bs => [(0, .agg #[.int .i64 d.W, .int .i64 d.H, .int .i64 d.T, .int .i64 d.R]), (1, .agg #[t.mv, t.lv, .int .i64 t.pad, .int .i64 t.ram]), (2, .pointer (some ⟨b1, 0, none⟩)), (3, .pointer (some ⟨b2, 0, none⟩)), (4, .slice none 0 0), (5, .bool false), (6, u1), (7, .int .i64 (j : Int)), (15, .bool false)]) (fun j u1 bs => j ≤ t.mx.length ∧ bs = (t.mx.take j).flatMap (fun x => bitsOf x 5) ∧ bs.length = 5 * j) (fun j u1 bs => t.mx.length - j) 0 _ [] ⟨by omega, by simp, rfl⟩ (sub_cons (d := 0) rfl (sub_cons (d := 1) rfl (sub_cons (d := 2) rfl (sub_cons (d := 3) rfl (sub_cons (d := 4) rfl (sub_cons (d := 5) rfl (sub_cons (d := 6) rfl (sub_cons (d := 7) rfl (sub_cons (d := 15) rfl (sub_nil _)))))))))) ((.cons_cons _ (.cons_cons _ (.cons_cons _ .slnil)))) ?_
    intro j u1 bs hi5
    obtain ⟨hj, hbs, hbl⟩ := hi5
    refine hc_seq ?_
    refine hc_seq ?_
    refine hc_region ?_
    refine hl_v rfl rfl rfl (rv_ev rfl) ?_
    refine hl_v rfl rfl rfl (rv_field (k0 := 0) rfl (by kernel_rfl) rfl) ?_
    refine hl_v rfl rfl rfl (rv_load rfl (by kernel_rfl) rfl (box_cell 1 rfl rfl)) ?_
    refine hl_v rfl rfl rfl (rv_len rfl Try.underlying30 rfl (rd_old ht.mx)) ?_
    refine hl_lss rfl rfl rfl rfl rfl rfl (fun h6 => ?_) (fun h6 => ?_)
    ·
      refine hl_less (sub_cons (d := 0) rfl (sub_cons (d := 1) rfl (sub_cons (d := 2) rfl (sub_cons (d := 3) rfl (sub_cons (d := 4) rfl (sub_cons (d := 5) rfl (sub_cons (d := 6) rfl (sub_cons (d := 7) rfl (sub_cons (d := 15) rfl (sub_cons (d := 22) rfl (sub_nil _))))))))))) (.refl _) ?_
      refine hl_nil ?_
      refine hq_then ?_
      refine hc_true rfl ?_
      refine hc_skip ?_
      refine hq_then ?_
      refine hc_seq ?_
      refine hc_block ?_
      refine hc_region ?_
      have hmj := hmxr j (by omega)
      refine hl_v rfl rfl rfl (rv_ev rfl) ?_
      refine hl_v rfl rfl rfl (rv_field (k0 := 0) rfl (by kernel_rfl) rfl) ?_
      refine hl_v rfl rfl rfl (rv_load rfl (by kernel_rfl) rfl (box_cell 1 rfl rfl)) ?_
      refine hl_v rfl rfl rfl (rv_ev rfl) ?_
      refine hl_v rfl rfl rfl (rv_index (s := 1) rfl Try.underlying30 (by kernel_rfl) rfl rfl (rd_old ht.mx) (by omega) (by first | omega | (simp only [List.length_set]; omega))) ?_
      refine hl_v rfl rfl rfl (rv_loadEl (u := .int .i64 (t.mx.getD j 0)) rfl (by kernel_rfl) rfl (rd_old ht.mx) (ints_at1 (show _ < t.mx.length by first | omega | (simp only [List.length_set]; omega)))) ?_
      refine hl_callM (R := (fun u_ p_ => p_ = rowE 3 1 u_ (bs ++ bitsOf (t.mx.getD j 0) 5).length ((bs ++ bitsOf (t.mx.getD j 0) 5).map (Value.int .i64)))) 0 rfl rfl (by kernel_rfl) rfl rfl (fun l' w hm => specPut_mut bs u1 (t.mx.getD j 0) 5 _ _ w hm (by omega) (by omega) (by first | omega | (simp only [List.length_append, bitsOf_len]; omega))) ?_
      intro v7 p8 hR9
      subst hR9
      refine hl_eqL (l' := [rowE 3 1 v7 ((bs ++ bitsOf (t.mx.getD j 0) 5).length) ((bs ++ bitsOf (t.mx.getD j 0) 5).map (Value.int .i64)), boxE b2 #[t.mv, t.lv, .int .i64 t.pad, .int .i64 t.ram] 39, boxE b1 #[.int .i64 d.W, .int .i64 d.H, .int .i64 d.T, .int .i64 d.R] 25]) rfl ?_
      refine hl_v rfl rfl rfl (rv_ev rfl) ?_
      refine hl_less (sub_cons (d := 0) rfl (sub_cons (d := 1) rfl (sub_cons (d := 2) rfl (sub_cons (d := 3) rfl (sub_cons (d := 4) rfl (sub_cons (d := 5) rfl (sub_cons (d := 6) rfl (sub_cons (d := 7) rfl (sub_cons (d := 15) rfl (sub_cons (d := 22) rfl (sub_nil _))))))))))) (.refl _) ?_
      refine hl_nil ?_
      refine hq_block_normal ?_
      refine hq_then ?_
      refine hc_region ?_
      refine hl_v rfl rfl rfl (rv_ev rfl) ?_
      refine hl_v rfl rfl rfl (rv_add rfl rfl rfl (by constructor <;> omega)) ?_
      refine hl_v rfl rfl rfl (rv_ev rfl) ?_
      refine hl_less (sub_cons (d := 0) rfl (sub_cons (d := 1) rfl (sub_cons (d := 2) rfl (sub_cons (d := 3) rfl (sub_cons (d := 4) rfl (sub_cons (d := 5) rfl (sub_cons (d := 6) rfl (sub_cons (d := 7) rfl (sub_cons (d := 15) rfl (sub_cons (d := 22) rfl (sub_nil _))))))))))) (.refl _) ?_
      refine hl_nil ?_
      exact hq_round3 (j + 1) v7 (bs ++ bitsOf (t.mx.getD j 0) 5) ⟨by omega, by rw [fm_take _ _ 0 j (by omega), ← hbs], by rw [List.length_append, bitsOf_len]; omega⟩ (by omega) (sub_cons (d := 0) rfl (sub_cons (d := 1) rfl (sub_cons (d := 2) rfl (sub_cons (d := 3) rfl (sub_cons (d := 4) rfl (sub_cons (d := 5) rfl (sub_cons (d := 6) rfl (sub_cons (d := 7) rfl (sub_cons (d := 15) rfl (sub_nil _)))))))))) ((.cons_cons _ (.cons_cons _ (.cons_cons _ .slnil))))
    ·
      refine hl_less (sub_cons (d := 0) rfl (sub_cons (d := 1) rfl (sub_cons (d := 2) rfl (sub_cons (d := 3) rfl (sub_cons (d := 4) rfl (sub_cons (d := 5) rfl (sub_cons (d := 6) rfl (sub_cons (d := 7) rfl (sub_cons (d := 15) rfl (sub_cons (d := 22) rfl (sub_nil _))))))))))) (.refl _) ?_
      refine hl_nil ?_
      refine hq_then ?_
      refine hc_false rfl ?_
      refine hc_exit ?_
      refine hq_then_exit ?_
      refine hq_then_exit ?_
      refine hq_block_exit ?_
      refine hq_then ?_
      refine hc_seq ?_
      refine hc_seq ?_
      refine hc_region ?_
      refine hl_v rfl rfl rfl (rv_ev rfl) ?_
      refine hl_less (sub_cons (d := 0) rfl (sub_cons (d := 1) rfl (sub_cons (d := 2) rfl (sub_cons (d := 3) rfl (sub_cons (d := 4) rfl (sub_cons (d := 5) rfl (sub_cons (d := 6) rfl (sub_cons (d := 7) rfl (sub_cons (d := 8) rfl (sub_cons (d := 15) rfl (sub_cons (d := 22) rfl (sub_nil _)))))))))))) (.refl _) ?_
      refine hl_nil ?_
      refine hq_then ?_
      refine hc_block ?_
      refine hc_loop3 (α := Nat) (β := Value) (γ := List Int) (fun e u2 cs => [rowE 3 1 u2 cs.length (cs.map (Value.int .i64)), boxE b2 #[t.mv, t.lv, .int .i64 t.pad, .int .i64 t.ram] 39, boxE b1 #[.int .i64 d.W, .int .i64 d.H, .int .i64 d.T, .int .i64 d.R] 25]) (fun e u2 cs => [(0, .agg #[.int .i64 d.W, .int .i64 d.H, .int .i64 d.T, .int .i64 d.R]), (1, .agg #[t.mv, t.lv, .int .i64 t.pad, .int .i64 t.ram]), (2, .pointer (some ⟨b1, 0, none⟩)), (3, .pointer (some ⟨b2, 0, none⟩)), (4, .slice none 0 0), (5, .bool false), (6, u2), (7, .int .i64 (j : Int)), (8, .int .i64 (e : Int)), (15, .bool false), (22, .bool false)]) (fun e u2 cs => e ≤ t.es.length ∧ cs = t.mx.flatMap (fun x => bitsOf x 5) ++ (t.es.take e).flatMap (fun x => leBits x.val) ∧ cs.length = 5 * t.mx.length + 30 * e) (fun e u2 cs => t.es.length - e) 0 _ bs ⟨by omega, by rw [hbs, show j = t.mx.length by omega, List.take_length]; simp, by omega⟩ (sub_cons (d := 0) rfl (sub_cons (d := 1) rfl (sub_cons (d := 2) rfl (sub_cons (d := 3) rfl (sub_cons (d := 4) rfl (sub_cons (d := 5) rfl (sub_cons (d := 6) rfl (sub_cons (d := 7) rfl (sub_cons (d := 8) rfl (sub_cons (d := 15) rfl (sub_cons (d := 22) rfl (sub_nil _)))))))))))) ((.cons_cons _ (.cons_cons _ (.cons_cons _ .slnil)))) ?_
      intro e u2 cs hi10
      obtain ⟨he, hcs, hcl⟩ := hi10
      refine hc_seq ?_
      refine hc_seq ?_
      refine hc_region ?_
      refine hl_v rfl rfl rfl (rv_ev rfl) ?_
      refine hl_lss rfl rfl rfl rfl rfl rfl (fun h11 => ?_) (fun h11 => ?_)
      ·
        refine hl_less (sub_cons (d := 0) rfl (sub_cons (d := 1) rfl (sub_cons (d := 2) rfl (sub_cons (d := 3) rfl (sub_cons (d := 4) rfl (sub_cons (d := 5) rfl (sub_cons (d := 6) rfl (sub_cons (d := 7) rfl (sub_cons (d := 8) rfl (sub_cons (d := 15) rfl (sub_cons (d := 22) rfl (sub_cons (d := 33) rfl (sub_nil _))))))))))))) (.refl _) ?_
        refine hl_nil ?_
        refine hq_then ?_
        refine hc_true rfl ?_
        refine hc_skip ?_
        refine hq_then ?_
        refine hc_seq ?_
        refine hc_block ?_
        refine hc_seq ?_
        refine hc_seq ?_
        refine hc_region ?_
        have hrE := ht.es _ (getD_mem' (es := t.es) (i := e) (d := Le0) (by omega))
        have hre := hrE.1
        have hro := hre.one
        obtain ⟨r1, r2, r3, r4, r5⟩ := (leOkV_iff _).1 (hesr e (by omega))
        refine hl_v rfl rfl rfl (rv_ev rfl) ?_
        refine hl_less (sub_cons (d := 0) rfl (sub_cons (d := 1) rfl (sub_cons (d := 2) rfl (sub_cons (d := 3) rfl (sub_cons (d := 4) rfl (sub_cons (d := 5) rfl (sub_cons (d := 6) rfl (sub_cons (d := 7) rfl (sub_cons (d := 8) rfl (sub_cons (d := 9) rfl (sub_cons (d := 15) rfl (sub_cons (d := 22) rfl (sub_cons (d := 33) rfl (sub_nil _)))))))))))))) (.refl _) ?_
        refine hl_nil ?_
        refine hq_then ?_
        refine hc_block ?_
        refine hc_loop3 (α := Nat) (β := Value) (γ := List Int) (fun k u3 ds => [rowE 3 1 u3 ds.length (ds.map (Value.int .i64)), boxE b2 #[t.mv, t.lv, .int .i64 t.pad, .int .i64 t.ram] 39, boxE b1 #[.int .i64 d.W, .int .i64 d.H, .int .i64 d.T, .int .i64 d.R] 25]) (fun k u3 ds => [(0, .agg #[.int .i64 d.W, .int .i64 d.H, .int .i64 d.T, .int .i64 d.R]), (1, .agg #[t.mv, t.lv, .int .i64 t.pad, .int .i64 t.ram]), (2, .pointer (some ⟨b1, 0, none⟩)), (3, .pointer (some ⟨b2, 0, none⟩)), (4, .slice none 0 0), (5, .bool false), (6, u3), (7, .int .i64 (j : Int)), (8, .int .i64 (e : Int)), (9, .int .i64 (k : Int)), (15, .bool false), (22, .bool false), (33, .bool true)]) (fun k u3 ds => k ≤ (t.es.getD e Le0).xs.length ∧ ds = cs ++ ((t.es.getD e Le0).xs.take k).flatMap (fun x => bitsOf x 3) ∧ ds.length = cs.length + 3 * k) (fun k u3 ds => (t.es.getD e Le0).xs.length - k) 0 _ cs ⟨by omega, by simp, by omega⟩ (sub_cons (d := 0) rfl (sub_cons (d := 1) rfl (sub_cons (d := 2) rfl (sub_cons (d := 3) rfl (sub_cons (d := 4) rfl (sub_cons (d := 5) rfl (sub_cons (d := 6) rfl (sub_cons (d := 7) rfl (sub_cons (d := 8) rfl (sub_cons (d := 9) rfl (sub_cons (d := 15) rfl (sub_cons (d := 22) rfl (sub_cons (d := 33) rfl (sub_nil _)))))))))))))) ((.cons_cons _ (.cons_cons _ (.cons_cons _ .slnil)))) ?_
        intro k u3 ds hi12
        obtain ⟨hk1, hds, hdl⟩ := hi12
        refine hc_seq ?_
        refine hc_seq ?_
        refine hc_region ?_
        refine hl_v rfl rfl rfl (rv_ev rfl) ?_
        refine hl_lss rfl rfl rfl rfl rfl rfl (fun h13 => ?_) (fun h13 => ?_)
        ·
          refine hl_less (sub_cons (d := 0) rfl (sub_cons (d := 1) rfl (sub_cons (d := 2) rfl (sub_cons (d := 3) rfl (sub_cons (d := 4) rfl (sub_cons (d := 5) rfl (sub_cons (d := 6) rfl (sub_cons (d := 7) rfl (sub_cons (d := 8) rfl (sub_cons (d := 9) rfl (sub_cons (d := 15) rfl (sub_cons (d := 22) rfl (sub_cons (d := 33) rfl (sub_cons (d := 37) rfl (sub_nil _))))))))))))))) (.refl _) ?_
          refine hl_nil ?_
          refine hq_then ?_
          refine hc_true rfl ?_
          refine hc_skip ?_
          refine hq_then ?_
          refine hc_seq ?_
          refine hc_block ?_
          refine hc_region ?_
          have hsk := r5 k (by omega)
          refine hl_v rfl rfl rfl (rv_ev rfl) ?_
          refine hl_v rfl rfl rfl (rv_field (k0 := 1) rfl (by kernel_rfl) rfl) ?_
          refine hl_v rfl rfl rfl (rv_load rfl (by kernel_rfl) rfl (box_cell 1 rfl rfl)) ?_
          refine hl_v rfl rfl rfl (rv_ev rfl) ?_
          refine hl_v rfl rfl rfl (rv_index (s := 4) rfl Try.underlying37 (by kernel_rfl) rfl rfl (rd_old ht.lv) (by omega) (by first | omega | (simp only [List.length_set]; omega))) ?_
          refine hl_v rfl rfl rfl (rv_fieldEl (k0 := 0) rfl (by kernel_rfl) rfl (rd_old ht.lv) (by first | omega | (simp only [List.length_set]; omega))) ?_
          refine hl_v rfl rfl rfl (rv_loadEl (u := (t.es.getD e Le0).v) rfl (by kernel_rfl) rfl (rd_old ht.lv) ((flat_at Le.cells 4 (fun _ => rfl) t.es Le0 (show e < _ by first | omega | (simp only [List.length_set]; omega)) (by decide)).trans rfl)) ?_
          refine hl_v rfl rfl rfl (rv_ev rfl) ?_
          refine hl_v rfl rfl rfl (rv_index (s := 1) rfl Try.underlying30 (by kernel_rfl) rfl rfl (rd_old hre) (by omega) (by first | omega | (simp only [List.length_set]; omega))) ?_
          refine hl_v rfl rfl rfl (rv_loadEl (u := .int .i64 (((t.es.getD e Le0).xs).getD k 0)) rfl (by kernel_rfl) rfl (rd_old hre) (ints_at1 (show _ < ((t.es.getD e Le0).xs).length by first | omega | (simp only [List.length_set]; omega)))) ?_
          refine hl_callM (R := (fun u_ p_ => p_ = rowE 3 1 u_ (ds ++ bitsOf (((t.es.getD e Le0).xs).getD k 0) 3).length ((ds ++ bitsOf (((t.es.getD e Le0).xs).getD k 0) 3).map (Value.int .i64)))) 0 rfl rfl (by kernel_rfl) rfl rfl (fun l' w hm => specPut_mut ds u3 (((t.es.getD e Le0).xs).getD k 0) 3 _ _ w hm (by omega) (by omega) (by first | omega | (simp only [List.length_append, bitsOf_len]; omega))) ?_
          intro v14 p15 hR16
          subst hR16
          refine hl_eqL (l' := [rowE 3 1 v14 ((ds ++ bitsOf (((t.es.getD e Le0).xs).getD k 0) 3).length) ((ds ++ bitsOf (((t.es.getD e Le0).xs).getD k 0) 3).map (Value.int .i64)), boxE b2 #[t.mv, t.lv, .int .i64 t.pad, .int .i64 t.ram] 39, boxE b1 #[.int .i64 d.W, .int .i64 d.H, .int .i64 d.T, .int .i64 d.R] 25]) rfl ?_
          refine hl_v rfl rfl rfl (rv_ev rfl) ?_
          refine hl_less (sub_cons (d := 0) rfl (sub_cons (d := 1) rfl (sub_cons (d := 2) rfl (sub_cons (d := 3) rfl (sub_cons (d := 4) rfl (sub_cons (d := 5) rfl (sub_cons (d := 6) rfl (sub_cons (d := 7) rfl (sub_cons (d := 8) rfl (sub_cons (d := 9) rfl (sub_cons (d := 15) rfl (sub_cons (d := 22) rfl (sub_cons (d := 33) rfl (sub_cons (d := 37) rfl (sub_nil _))))))))))))))) (.refl _) ?_
          refine hl_nil ?_
          refine hq_block_normal ?_
          refine hq_then ?_
          refine hc_region ?_
          refine hl_v rfl rfl rfl (rv_ev rfl) ?_
          refine hl_v rfl rfl rfl (rv_add rfl rfl rfl (by constructor <;> omega)) ?_
          have hrE := ht.es _ (getD_mem' (es := t.es) (i := e) (d := Le0) (by omega))
          have hre := hrE.1
          have hro := hre.one
          obtain ⟨r1, r2, r3, r4, r5⟩ := (leOkV_iff _).1 (hesr e (by omega))
          refine hl_v rfl rfl rfl (rv_ev rfl) ?_
          refine hl_less (sub_cons (d := 0) rfl (sub_cons (d := 1) rfl (sub_cons (d := 2) rfl (sub_cons (d := 3) rfl (sub_cons (d := 4) rfl (sub_cons (d := 5) rfl (sub_cons (d := 6) rfl (sub_cons (d := 7) rfl (sub_cons (d := 8) rfl (sub_cons (d := 9) rfl (sub_cons (d := 15) rfl (sub_cons (d := 22) rfl (sub_cons (d := 33) rfl (sub_cons (d := 37) rfl (sub_nil _))))))))))))))) (.refl _) ?_
          refine hl_nil ?_
          exact hq_round3 (k + 1) v14 (ds ++ bitsOf ((t.es.getD e Le0).xs.getD k 0) 3) ⟨by omega, by rw [fm_take _ _ 0 k (by omega), ← List.append_assoc, ← hds], by rw [List.length_append, bitsOf_len]; omega⟩ (by omega) (sub_cons (d := 0) rfl (sub_cons (d := 1) rfl (sub_cons (d := 2) rfl (sub_cons (d := 3) rfl (sub_cons (d := 4) rfl (sub_cons (d := 5) rfl (sub_cons (d := 6) rfl (sub_cons (d := 7) rfl (sub_cons (d := 8) rfl (sub_cons (d := 9) rfl (sub_cons (d := 15) rfl (sub_cons (d := 22) rfl (sub_cons (d := 33) rfl (sub_nil _)))))))))))))) ((.cons_cons _ (.cons_cons _ (.cons_cons _ .slnil))))
        ·
          refine hl_less (sub_cons (d := 0) rfl (sub_cons (d := 1) rfl (sub_cons (d := 2) rfl (sub_cons (d := 3) rfl (sub_cons (d := 4) rfl (sub_cons (d := 5) rfl (sub_cons (d := 6) rfl (sub_cons (d := 7) rfl (sub_cons (d := 8) rfl (sub_cons (d := 9) rfl (sub_cons (d := 15) rfl (sub_cons (d := 22) rfl (sub_cons (d := 33) rfl (sub_cons (d := 37) rfl (sub_nil _))))))))))))))) (.refl _) ?_
          refine hl_nil ?_
          refine hq_then ?_
          refine hc_false rfl ?_
          refine hc_exit ?_
          refine hq_then_exit ?_
          refine hq_then_exit ?_
          refine hq_block_exit ?_
          refine hq_then ?_
          refine hc_seq ?_
          refine hc_region ?_
          refine hl_v rfl rfl rfl (rv_ev rfl) ?_
          refine hl_v rfl rfl rfl (rv_field (k0 := 1) rfl (by kernel_rfl) rfl) ?_
          refine hl_v rfl rfl rfl (rv_load rfl (by kernel_rfl) rfl (box_cell 1 rfl rfl)) ?_
          refine hl_v rfl rfl rfl (rv_ev rfl) ?_
          refine hl_v rfl rfl rfl (rv_index (s := 4) rfl Try.underlying37 (by kernel_rfl) rfl rfl (rd_old ht.lv) (by omega) (by first | omega | (simp only [List.length_set]; omega))) ?_
          refine hl_v rfl rfl rfl (rv_fieldEl (k0 := 1) rfl (by kernel_rfl) rfl (rd_old ht.lv) (by first | omega | (simp only [List.length_set]; omega))) ?_
          refine hl_v rfl rfl rfl (rv_loadEl (u := .int .i64 ((t.es.getD e Le0).m)) rfl (by kernel_rfl) rfl (rd_old ht.lv) ((flat_at Le.cells 4 (fun _ => rfl) t.es Le0 (show e < _ by first | omega | (simp only [List.length_set]; omega)) (by decide)).trans rfl)) ?_
          refine hl_callM (R := (fun u_ p_ => p_ = rowE 3 1 u_ (ds ++ bitsOf ((t.es.getD e Le0).m) 16).length ((ds ++ bitsOf ((t.es.getD e Le0).m) 16).map (Value.int .i64)))) 0 rfl rfl (by kernel_rfl) rfl rfl (fun l' w hm => specPut_mut ds u3 ((t.es.getD e Le0).m) 16 _ _ w hm (by omega) (by omega) (by first | omega | (simp only [List.length_append, bitsOf_len]; omega))) ?_
          intro v17 p18 hR19
          subst hR19
          refine hl_eqL (l' := [rowE 3 1 v17 ((ds ++ bitsOf ((t.es.getD e Le0).m) 16).length) ((ds ++ bitsOf ((t.es.getD e Le0).m) 16).map (Value.int .i64)), boxE b2 #[t.mv, t.lv, .int .i64 t.pad, .int .i64 t.ram] 39, boxE b1 #[.int .i64 d.W, .int .i64 d.H, .int .i64 d.T, .int .i64 d.R] 25]) rfl ?_
          refine hl_v rfl rfl rfl (rv_ev rfl) ?_
          refine hl_less (sub_cons (d := 0) rfl (sub_cons (d := 1) rfl (sub_cons (d := 2) rfl (sub_cons (d := 3) rfl (sub_cons (d := 4) rfl (sub_cons (d := 5) rfl (sub_cons (d := 6) rfl (sub_cons (d := 7) rfl (sub_cons (d := 8) rfl (sub_cons (d := 9) rfl (sub_cons (d := 15) rfl (sub_cons (d := 22) rfl (sub_cons (d := 33) rfl (sub_cons (d := 37) rfl (sub_nil _))))))))))))))) (.refl _) ?_
          refine hl_nil ?_
          refine hq_then ?_
          refine hc_seq ?_
          refine hc_region ?_
          refine hl_v rfl rfl rfl (rv_ev rfl) ?_
          refine hl_v rfl rfl rfl (rv_field (k0 := 1) rfl (by kernel_rfl) rfl) ?_
          refine hl_v rfl rfl rfl (rv_load rfl (by kernel_rfl) rfl (box_cell 1 rfl rfl)) ?_
          refine hl_v rfl rfl rfl (rv_ev rfl) ?_
          refine hl_v rfl rfl rfl (rv_index (s := 4) rfl Try.underlying37 (by kernel_rfl) rfl rfl (rd_old ht.lv) (by omega) (by first | omega | (simp only [List.length_set]; omega))) ?_
          refine hl_v rfl rfl rfl (rv_fieldEl (k0 := 2) rfl (by kernel_rfl) rfl (rd_old ht.lv) (by first | omega | (simp only [List.length_set]; omega))) ?_
          refine hl_v rfl rfl rfl (rv_loadEl (u := .int .i64 ((t.es.getD e Le0).f)) rfl (by kernel_rfl) rfl (rd_old ht.lv) ((flat_at Le.cells 4 (fun _ => rfl) t.es Le0 (show e < _ by first | omega | (simp only [List.length_set]; omega)) (by decide)).trans rfl)) ?_
          refine hl_callM (R := (fun u_ p_ => p_ = rowE 3 1 u_ ((ds ++ bitsOf ((t.es.getD e Le0).m) 16) ++ bitsOf ((t.es.getD e Le0).f) 1).length (((ds ++ bitsOf ((t.es.getD e Le0).m) 16) ++ bitsOf ((t.es.getD e Le0).f) 1).map (Value.int .i64)))) 0 rfl rfl (by kernel_rfl) rfl rfl (fun l' w hm => specPut_mut (ds ++ bitsOf ((t.es.getD e Le0).m) 16) v17 ((t.es.getD e Le0).f) 1 _ _ w hm (by omega) (by omega) (by first | omega | (simp only [List.length_append, bitsOf_len]; omega))) ?_
          intro v20 p21 hR22
          subst hR22
          refine hl_eqL (l' := [rowE 3 1 v20 (((ds ++ bitsOf ((t.es.getD e Le0).m) 16) ++ bitsOf ((t.es.getD e Le0).f) 1).length) (((ds ++ bitsOf ((t.es.getD e Le0).m) 16) ++ bitsOf ((t.es.getD e Le0).f) 1).map (Value.int .i64)), boxE b2 #[t.mv, t.lv, .int .i64 t.pad, .int .i64 t.ram] 39, boxE b1 #[.int .i64 d.W, .int .i64 d.H, .int .i64 d.T, .int .i64 d.R] 25]) rfl ?_
          refine hl_v rfl rfl rfl (rv_ev rfl) ?_
          refine hl_less (sub_cons (d := 0) rfl (sub_cons (d := 1) rfl (sub_cons (d := 2) rfl (sub_cons (d := 3) rfl (sub_cons (d := 4) rfl (sub_cons (d := 5) rfl (sub_cons (d := 6) rfl (sub_cons (d := 7) rfl (sub_cons (d := 8) rfl (sub_cons (d := 9) rfl (sub_cons (d := 15) rfl (sub_cons (d := 22) rfl (sub_cons (d := 33) rfl (sub_cons (d := 37) rfl (sub_nil _))))))))))))))) (.refl _) ?_
          refine hl_nil ?_
          refine hq_then ?_
          refine hc_region ?_
          refine hl_v rfl rfl rfl (rv_ev rfl) ?_
          refine hl_v rfl rfl rfl (rv_field (k0 := 1) rfl (by kernel_rfl) rfl) ?_
          refine hl_v rfl rfl rfl (rv_load rfl (by kernel_rfl) rfl (box_cell 1 rfl rfl)) ?_
          refine hl_v rfl rfl rfl (rv_ev rfl) ?_
          refine hl_v rfl rfl rfl (rv_index (s := 4) rfl Try.underlying37 (by kernel_rfl) rfl rfl (rd_old ht.lv) (by omega) (by first | omega | (simp only [List.length_set]; omega))) ?_
          refine hl_v rfl rfl rfl (rv_fieldEl (k0 := 3) rfl (by kernel_rfl) rfl (rd_old ht.lv) (by first | omega | (simp only [List.length_set]; omega))) ?_
          refine hl_v rfl rfl rfl (rv_loadEl (u := .int .i64 ((t.es.getD e Le0).i)) rfl (by kernel_rfl) rfl (rd_old ht.lv) ((flat_at Le.cells 4 (fun _ => rfl) t.es Le0 (show e < _ by first | omega | (simp only [List.length_set]; omega)) (by decide)).trans rfl)) ?_
          refine hl_callM (R := (fun u_ p_ => p_ = rowE 3 1 u_ (((ds ++ bitsOf ((t.es.getD e Le0).m) 16) ++ bitsOf ((t.es.getD e Le0).f) 1) ++ bitsOf ((t.es.getD e Le0).i) 1).length ((((ds ++ bitsOf ((t.es.getD e Le0).m) 16) ++ bitsOf ((t.es.getD e Le0).f) 1) ++ bitsOf ((t.es.getD e Le0).i) 1).map (Value.int .i64)))) 0 rfl rfl (by kernel_rfl) rfl rfl (fun l' w hm => specPut_mut ((ds ++ bitsOf ((t.es.getD e Le0).m) 16) ++ bitsOf ((t.es.getD e Le0).f) 1) v20 ((t.es.getD e Le0).i) 1 _ _ w hm (by omega) (by omega) (by first | omega | (simp only [List.length_append, bitsOf_len]; omega))) ?_
          intro v23 p24 hR25
          subst hR25
          refine hl_eqL (l' := [rowE 3 1 v23 ((((ds ++ bitsOf ((t.es.getD e Le0).m) 16) ++ bitsOf ((t.es.getD e Le0).f) 1) ++ bitsOf ((t.es.getD e Le0).i) 1).length) ((((ds ++ bitsOf ((t.es.getD e Le0).m) 16) ++ bitsOf ((t.es.getD e Le0).f) 1) ++ bitsOf ((t.es.getD e Le0).i) 1).map (Value.int .i64)), boxE b2 #[t.mv, t.lv, .int .i64 t.pad, .int .i64 t.ram] 39, boxE b1 #[.int .i64 d.W, .int .i64 d.H, .int .i64 d.T, .int .i64 d.R] 25]) rfl ?_
          refine hl_v rfl rfl rfl (rv_ev rfl) ?_
          refine hl_less (sub_cons (d := 0) rfl (sub_cons (d := 1) rfl (sub_cons (d := 2) rfl (sub_cons (d := 3) rfl (sub_cons (d := 4) rfl (sub_cons (d := 5) rfl (sub_cons (d := 6) rfl (sub_cons (d := 7) rfl (sub_cons (d := 8) rfl (sub_cons (d := 9) rfl (sub_cons (d := 15) rfl (sub_cons (d := 22) rfl (sub_cons (d := 33) rfl (sub_cons (d := 37) rfl (sub_nil _))))))))))))))) (.refl _) ?_
          refine hl_nil ?_
          refine hq_block_normal ?_
          refine hq_then ?_
          refine hc_region ?_
          refine hl_v rfl rfl rfl (rv_ev rfl) ?_
          refine hl_v rfl rfl rfl (rv_add rfl rfl rfl (by constructor <;> omega)) ?_
          refine hl_v rfl rfl rfl (rv_ev rfl) ?_
          refine hl_less (sub_cons (d := 0) rfl (sub_cons (d := 1) rfl (sub_cons (d := 2) rfl (sub_cons (d := 3) rfl (sub_cons (d := 4) rfl (sub_cons (d := 5) rfl (sub_cons (d := 6) rfl (sub_cons (d := 7) rfl (sub_cons (d := 8) rfl (sub_cons (d := 9) rfl (sub_cons (d := 15) rfl (sub_cons (d := 22) rfl (sub_cons (d := 33) rfl (sub_cons (d := 37) rfl (sub_nil _))))))))))))))) (.refl _) ?_
          refine hl_nil ?_
          exact hq_round3 (e + 1) v23 (((ds ++ bitsOf ((t.es.getD e Le0).m) 16) ++ bitsOf ((t.es.getD e Le0).f) 1) ++ bitsOf ((t.es.getD e Le0).i) 1) ⟨by omega, by rw [fm_take _ _ Le0 e (by omega), ← List.append_assoc, ← hcs, hds, show k = (t.es.getD e Le0).xs.length by omega, List.take_length]; simp [leBits, Le.val, List.append_assoc], by simp only [List.length_append, bitsOf_len]; omega⟩ (by omega) (sub_cons (d := 0) rfl (sub_cons (d := 1) rfl (sub_cons (d := 2) rfl (sub_cons (d := 3) rfl (sub_cons (d := 4) rfl (sub_cons (d := 5) rfl (sub_cons (d := 6) rfl (sub_cons (d := 7) rfl (sub_cons (d := 8) rfl (sub_cons (d := 15) rfl (sub_cons (d := 22) rfl (sub_nil _)))))))))))) ((.cons_cons _ (.cons_cons _ (.cons_cons _ .slnil))))
      ·
        refine hl_less (sub_cons (d := 0) rfl (sub_cons (d := 1) rfl (sub_cons (d := 2) rfl (sub_cons (d := 3) rfl (sub_cons (d := 4) rfl (sub_cons (d := 5) rfl (sub_cons (d := 6) rfl (sub_cons (d := 7) rfl (sub_cons (d := 8) rfl (sub_cons (d := 15) rfl (sub_cons (d := 22) rfl (sub_cons (d := 33) rfl (sub_nil _))))))))))))) (.refl _) ?_
        refine hl_nil ?_
        refine hq_then ?_
        refine hc_false rfl ?_
        refine hc_exit ?_
        refine hq_then_exit ?_
        refine hq_then_exit ?_
        refine hq_block_exit ?_
        refine hq_then ?_
        refine hc_seq ?_
        refine hc_region ?_
        refine hl_v rfl rfl rfl (rv_ev rfl) ?_
        refine hl_v rfl rfl rfl (rv_field (k0 := 2) rfl (by kernel_rfl) rfl) ?_
        refine hl_v rfl rfl rfl (rv_load rfl (by kernel_rfl) rfl (box_cell 1 rfl rfl)) ?_
        refine hl_callM (R := (fun u_ p_ => p_ = rowE 3 1 u_ (cs ++ bitsOf t.pad 2).length ((cs ++ bitsOf t.pad 2).map (Value.int .i64)))) 0 rfl rfl (by kernel_rfl) rfl rfl (fun l' w hm => specPut_mut cs u2 t.pad 2 _ _ w hm (by omega) (by omega) (by first | omega | (simp only [List.length_append, bitsOf_len]; omega))) ?_
        intro v26 p27 hR28
        subst hR28
        refine hl_eqL (l' := [rowE 3 1 v26 ((cs ++ bitsOf t.pad 2).length) ((cs ++ bitsOf t.pad 2).map (Value.int .i64)), boxE b2 #[t.mv, t.lv, .int .i64 t.pad, .int .i64 t.ram] 39, boxE b1 #[.int .i64 d.W, .int .i64 d.H, .int .i64 d.T, .int .i64 d.R] 25]) rfl ?_
        refine hl_v rfl rfl rfl (rv_ev rfl) ?_
        refine hl_less (sub_cons (d := 0) rfl (sub_cons (d := 1) rfl (sub_cons (d := 2) rfl (sub_cons (d := 3) rfl (sub_cons (d := 4) rfl (sub_cons (d := 5) rfl (sub_cons (d := 6) rfl (sub_cons (d := 7) rfl (sub_cons (d := 8) rfl (sub_cons (d := 15) rfl (sub_cons (d := 22) rfl (sub_cons (d := 33) rfl (sub_nil _))))))))))))) (.refl _) ?_
        refine hl_nil ?_
        refine hq_then ?_
        refine hc_seq ?_
        refine hc_region ?_
        refine hl_v rfl rfl rfl (rv_ev rfl) ?_
        refine hl_v rfl rfl rfl (rv_field (k0 := 3) rfl (by kernel_rfl) rfl) ?_
        refine hl_v rfl rfl rfl (rv_load rfl (by kernel_rfl) rfl (box_cell 1 rfl rfl)) ?_
        refine hl_callM (R := (fun u_ p_ => p_ = rowE 3 1 u_ ((cs ++ bitsOf t.pad 2) ++ bitsOf t.ram 5).length (((cs ++ bitsOf t.pad 2) ++ bitsOf t.ram 5).map (Value.int .i64)))) 0 rfl rfl (by kernel_rfl) rfl rfl (fun l' w hm => specPut_mut (cs ++ bitsOf t.pad 2) v26 t.ram 5 _ _ w hm (by omega) (by omega) (by first | omega | (simp only [List.length_append, bitsOf_len]; omega))) ?_
        intro v29 p30 hR31
        subst hR31
        refine hl_eqL (l' := [rowE 3 1 v29 (((cs ++ bitsOf t.pad 2) ++ bitsOf t.ram 5).length) (((cs ++ bitsOf t.pad 2) ++ bitsOf t.ram 5).map (Value.int .i64)), boxE b2 #[t.mv, t.lv, .int .i64 t.pad, .int .i64 t.ram] 39, boxE b1 #[.int .i64 d.W, .int .i64 d.H, .int .i64 d.T, .int .i64 d.R] 25]) rfl ?_
        refine hl_v rfl rfl rfl (rv_ev rfl) ?_
        refine hl_less (sub_cons (d := 0) rfl (sub_cons (d := 1) rfl (sub_cons (d := 2) rfl (sub_cons (d := 3) rfl (sub_cons (d := 4) rfl (sub_cons (d := 5) rfl (sub_cons (d := 6) rfl (sub_cons (d := 7) rfl (sub_cons (d := 8) rfl (sub_cons (d := 15) rfl (sub_cons (d := 22) rfl (sub_cons (d := 33) rfl (sub_nil _))))))))))))) (.refl _) ?_
        refine hl_nil ?_
        refine hq_then ?_
        refine hc_seq ?_
        refine hc_region ?_
        refine hl_v rfl rfl rfl (rv_loadN (cs := [.int .i64 d.W, .int .i64 d.H, .int .i64 d.T, .int .i64 d.R]) rfl (by kernel_rfl) (by kernel_rfl) rfl rfl (box_part 2 rfl 0 rfl)) ?_
        refine hl_callV rfl rfl rfl (rq_call (by kernel_rfl) rfl (fun w hm => ret_ans (specFrameWords_yes d hd w))) ?_
        refine hl_row rfl rfl rfl (rq_make (z := .int .i64 0) (s := 1) (bytes := 8) (n := (List.replicate (frW d).toNat (0 : Int)).length) (cs := ((List.replicate (frW d).toNat (0 : Int)).map (Value.int .i64))) rfl Try.underlying30 (by kernel_rfl) (by decide) rfl rfl (by first | (rw [List.length_replicate]; done) | (rw [List.length_replicate]; omega)) (by first | (rw [List.length_replicate]; done) | (rw [List.length_replicate]; omega)) (by rw [List.length_replicate]; omega) (ints_make _)) ?_
        intro g32
        refine hl_v rfl rfl rfl (rv_ev rfl) ?_
        refine hl_less (sub_cons (d := 0) rfl (sub_cons (d := 1) rfl (sub_cons (d := 2) rfl (sub_cons (d := 3) rfl (sub_cons (d := 4) rfl (sub_cons (d := 5) rfl (sub_cons (d := 6) rfl (sub_cons (d := 7) rfl (sub_cons (d := 8) rfl (sub_cons (d := 10) rfl (sub_cons (d := 15) rfl (sub_cons (d := 22) rfl (sub_cons (d := 33) rfl (sub_nil _)))))))))))))) (.refl _) ?_
        refine hl_nil ?_
        refine hq_then ?_
        refine hc_seq ?_
        refine hc_seq ?_
        refine hc_region ?_
        refine hl_v rfl rfl rfl (rv_ev rfl) ?_
        refine hl_less (sub_cons (d := 0) rfl (sub_cons (d := 1) rfl (sub_cons (d := 2) rfl (sub_cons (d := 3) rfl (sub_cons (d := 4) rfl (sub_cons (d := 5) rfl (sub_cons (d := 6) rfl (sub_cons (d := 7) rfl (sub_cons (d := 8) rfl (sub_cons (d := 10) rfl (sub_cons (d := 11) rfl (sub_cons (d := 15) rfl (sub_cons (d := 22) rfl (sub_cons (d := 33) rfl (sub_nil _))))))))))))))) (.refl _) ?_
        refine hl_nil ?_
        refine hq_then ?_
        refine hc_block ?_
        have htb : ((cs ++ bitsOf t.pad 2) ++ bitsOf t.ram 5) = tcBits t.val := by rw [hcs, show e = t.es.length by omega, List.take_length]; simp [tcBits, Tc.val, List.flatMap_map, List.append_assoc]
        have htl : ((cs ++ bitsOf t.pad 2) ++ bitsOf t.ram 5).length = 5 * t.mx.length + 67 := by simp only [List.length_append, bitsOf_len]; omega
        rw [htb] at htl
        refine hc_conv [rowE 3 1 (.slice (some ⟨g32, 0, none⟩) ((List.replicate (frW d).toNat (0 : Int)).length) ((List.replicate (frW d).toNat (0 : Int)).length)) ((List.replicate (frW d).toNat (0 : Int)).length) ((List.replicate (frW d).toNat (0 : Int)).map (Value.int .i64)), rowE 3 1 v29 ((tcBits t.val).length) ((tcBits t.val).map (Value.int .i64)), boxE b2 #[t.mv, t.lv, .int .i64 t.pad, .int .i64 t.ram] 39, boxE b1 #[.int .i64 d.W, .int .i64 d.H, .int .i64 d.T, .int .i64 d.R] 25] (fun w hm => by rw [← htb]; exact hm) ?_
        refine hc_loop2 (α := Nat) (β := List Int) (fun b zs => [rowE 3 1 (.slice (some ⟨g32, 0, none⟩) ((List.replicate (frW d).toNat (0 : Int)).length) ((List.replicate (frW d).toNat (0 : Int)).length)) zs.length (zs.map (Value.int .i64)), rowE 3 1 v29 ((tcBits t.val).length) ((tcBits t.val).map (Value.int .i64)), boxE b2 #[t.mv, t.lv, .int .i64 t.pad, .int .i64 t.ram] 39, boxE b1 #[.int .i64 d.W, .int .i64 d.H, .int .i64 d.T, .int .i64 d.R] 25]) (fun b zs => [(0, .agg #[.int .i64 d.W, .int .i64 d.H, .int .i64 d.T, .int .i64 d.R]), (1, .agg #[t.mv, t.lv, .int .i64 t.pad, .int .i64 t.ram]), (2, .pointer (some ⟨b1, 0, none⟩)), (3, .pointer (some ⟨b2, 0, none⟩)), (4, .slice none 0 0), (5, .bool false), (6, v29), (7, .int .i64 (j : Int)), (8, .int .i64 (e : Int)), (10, .slice (some ⟨g32, 0, none⟩) ((List.replicate (frW d).toNat (0 : Int)).length) ((List.replicate (frW d).toNat (0 : Int)).length)), (11, .int .i64 (b : Int)), (15, .bool false), (22, .bool false), (33, .bool false)]) (fun b zs => b ≤ (tcBits t.val).length ∧ zs = packJ (frW d).toNat (tcBits t.val) b ∧ zs.length = (frW d).toNat) (fun b zs => (tcBits t.val).length - b) 0 (List.replicate (frW d).toNat 0) ⟨by omega, rfl, List.length_replicate⟩ (sub_cons (d := 0) rfl (sub_cons (d := 1) rfl (sub_cons (d := 2) rfl (sub_cons (d := 3) rfl (sub_cons (d := 4) rfl (sub_cons (d := 5) rfl (sub_cons (d := 6) rfl (sub_cons (d := 7) rfl (sub_cons (d := 8) rfl (sub_cons (d := 10) rfl (sub_cons (d := 11) rfl (sub_cons (d := 15) rfl (sub_cons (d := 22) rfl (sub_cons (d := 33) rfl (sub_nil _))))))))))))))) ((.cons_cons _ (.cons_cons _ (.cons_cons _ (.cons_cons _ .slnil))))) ?_
        intro b zs hi33
        obtain ⟨hb1, hbz, hbl2⟩ := hi33
        refine hc_seq ?_
        refine hc_seq ?_
        refine hc_region ?_
        refine hl_v rfl rfl rfl (rv_ev rfl) ?_
        refine hl_v rfl rfl rfl (rv_ev rfl) ?_
        refine hl_v rfl rfl rfl (rv_len rfl Try.underlying30 rfl (rd_row 1 rfl)) ?_
        refine hl_lss rfl rfl rfl rfl rfl rfl (fun h34 => ?_) (fun h34 => ?_)
        ·
          refine hl_less (sub_cons (d := 0) rfl (sub_cons (d := 1) rfl (sub_cons (d := 2) rfl (sub_cons (d := 3) rfl (sub_cons (d := 4) rfl (sub_cons (d := 5) rfl (sub_cons (d := 6) rfl (sub_cons (d := 7) rfl (sub_cons (d := 8) rfl (sub_cons (d := 10) rfl (sub_cons (d := 11) rfl (sub_cons (d := 15) rfl (sub_cons (d := 22) rfl (sub_cons (d := 33) rfl (sub_cons (d := 89) rfl (sub_nil _)))))))))))))))) (.refl _) ?_
          refine hl_nil ?_
          refine hq_then ?_
          refine hc_true rfl ?_
          refine hc_skip ?_
          refine hq_then ?_
          refine hc_seq ?_
          refine hc_block ?_
          have he1 : ((b : Int) / 16).toNat = b / 16 := by omega
          have he2 : ((b : Int) % 16).toNat = b % 16 := by omega
          have hlow := (packJ_low (frW d).toNat _ (tc_bits t.val) b (by omega) (b / 16) (by omega)).2.1 rfl
          rw [← hbz, ← he1, ← he2] at hlow
          have hbt := tc_bits t.val b
          refine hc_draw (by kernel_rfl) 17 [0, 1, 2, 3, 4, 5, 6, 7, 8, 9, 10, 11, 12, 13, 14, 15, 16] (List.take 17 _) (List.drop 17 _) [[], [], [1], [], [], [4], [3, 5], [6], [], [], [8, 9], [10], [], [12], [11, 13], [7, 14], [0, 2]] [92, 93, 94, 95, 96, 97, 98, 99, 100, 101, 102, 103, 104, 105, 106, 107, 108] (fun i vs_ v_ p_ => match i with | 0 => v_ = .slice (some ⟨g32, 0, none⟩) ((List.replicate (frW d).toNat (0 : Int)).length) ((List.replicate (frW d).toNat (0 : Int)).length) ∧ p_ = [] | 1 => v_ = .int .i64 (b : Int) ∧ p_ = [] | 2 => v_ = .int .i64 ((b : Int) / 16) ∧ p_ = [] | 3 => v_ = .slice (some ⟨g32, 0, none⟩) ((List.replicate (frW d).toNat (0 : Int)).length) ((List.replicate (frW d).toNat (0 : Int)).length) ∧ p_ = [] | 4 => v_ = .int .i64 (b : Int) ∧ p_ = [] | 5 => v_ = .int .i64 ((b : Int) / 16) ∧ p_ = [] | 6 => v_ = elP (.slice (some ⟨g32, 0, none⟩) ((List.replicate (frW d).toNat (0 : Int)).length) ((List.replicate (frW d).toNat (0 : Int)).length)) (((b : Int) / 16).toNat * 1) ∧ p_ = [] | 7 => v_ = .int .i64 (zs.getD (((b : Int) / 16).toNat) 0) ∧ p_ = [] | 8 => v_ = v29 ∧ p_ = [] | 9 => v_ = .int .i64 (b : Int) ∧ p_ = [] | 10 => v_ = elP v29 (((b : Int)).toNat * 1) ∧ p_ = [] | 11 => v_ = .int .i64 ((tcBits t.val).getD b 0) ∧ p_ = [] | 12 => v_ = .int .i64 (b : Int) ∧ p_ = [] | 13 => v_ = .int .i64 ((b : Int) % 16) ∧ p_ = [] | 14 => v_ = .int .i64 (((tcBits t.val).getD b 0) * 2 ^ ((b : Int) % 16).toNat) ∧ p_ = [] | 15 => v_ = .int .i64 ((zs.getD (((b : Int) / 16).toNat) 0) + (((tcBits t.val).getD b 0) * 2 ^ ((b : Int) % 16).toNat)) ∧ p_ = [] | 16 => v_ = elP (.slice (some ⟨g32, 0, none⟩) ((List.replicate (frW d).toNat (0 : Int)).length) ((List.replicate (frW d).toNat (0 : Int)).length)) (((b : Int) / 16).toNat * 1) ∧ p_ = [] | _ => True) (List.take_append_drop 17 _).symm (by kernel_rfl) (by kernel_rfl) rfl rfl ?_ ?_
          ·
            refine ⟨?_, ?_, ?_, ?_, ?_, ?_, ?_, ?_, ?_, ?_, ?_, ?_, ?_, ?_, ?_, ?_, ?_, trivial⟩
            ·
              intro vf pf hR
              refine Or.inl ⟨rfl, ?_⟩
              refine rq_less (l' := [rowE 3 1 (.slice (some ⟨g32, 0, none⟩) ((List.replicate (frW d).toNat (0 : Int)).length) ((List.replicate (frW d).toNat (0 : Int)).length)) zs.length (zs.map (Value.int .i64)), rowE 3 1 v29 ((tcBits t.val).length) ((tcBits t.val).map (Value.int .i64)), boxE b2 #[t.mv, t.lv, .int .i64 t.pad, .int .i64 t.ram] 39, boxE b1 #[.int .i64 d.W, .int .i64 d.H, .int .i64 d.T, .int .i64 d.R] 25]) (sub_cons (d := 10) rfl (sub_nil _)) (List.sublist_append_right _ _) ?_
              exact rq_v (rv_ev rfl)
            ·
              intro vf pf hR
              refine Or.inl ⟨rfl, ?_⟩
              refine rq_less (l' := [rowE 3 1 (.slice (some ⟨g32, 0, none⟩) ((List.replicate (frW d).toNat (0 : Int)).length) ((List.replicate (frW d).toNat (0 : Int)).length)) zs.length (zs.map (Value.int .i64)), rowE 3 1 v29 ((tcBits t.val).length) ((tcBits t.val).map (Value.int .i64)), boxE b2 #[t.mv, t.lv, .int .i64 t.pad, .int .i64 t.ram] 39, boxE b1 #[.int .i64 d.W, .int .i64 d.H, .int .i64 d.T, .int .i64 d.R] 25]) (sub_cons (d := 11) rfl (sub_nil _)) (List.sublist_append_right _ _) ?_
              exact rq_v (rv_ev rfl)
            ·
              intro vf pf hR
              have e1 : (vf 1) = .int .i64 (b : Int) ∧ (pf 1) = [] := hR 1 (by decide)
              refine Or.inl ⟨rfl, ?_⟩
              refine rq_less (l' := [rowE 3 1 (.slice (some ⟨g32, 0, none⟩) ((List.replicate (frW d).toNat (0 : Int)).length) ((List.replicate (frW d).toNat (0 : Int)).length)) zs.length (zs.map (Value.int .i64)), rowE 3 1 v29 ((tcBits t.val).length) ((tcBits t.val).map (Value.int .i64)), boxE b2 #[t.mv, t.lv, .int .i64 t.pad, .int .i64 t.ram] 39, boxE b1 #[.int .i64 d.W, .int .i64 d.H, .int .i64 d.T, .int .i64 d.R] 25]) (sub_cons (d := 93) (congrArg some e1.1) (sub_nil _)) (List.sublist_append_right _ _) ?_
              exact rq_v (rv_quo rfl rfl rfl (by refine ⟨?_, ?_, ?_⟩ <;> omega))
            ·
              intro vf pf hR
              refine Or.inl ⟨rfl, ?_⟩
              refine rq_less (l' := [rowE 3 1 (.slice (some ⟨g32, 0, none⟩) ((List.replicate (frW d).toNat (0 : Int)).length) ((List.replicate (frW d).toNat (0 : Int)).length)) zs.length (zs.map (Value.int .i64)), rowE 3 1 v29 ((tcBits t.val).length) ((tcBits t.val).map (Value.int .i64)), boxE b2 #[t.mv, t.lv, .int .i64 t.pad, .int .i64 t.ram] 39, boxE b1 #[.int .i64 d.W, .int .i64 d.H, .int .i64 d.T, .int .i64 d.R] 25]) (sub_cons (d := 10) rfl (sub_nil _)) (List.sublist_append_right _ _) ?_
              exact rq_v (rv_ev rfl)
            ·
              intro vf pf hR
              refine Or.inl ⟨rfl, ?_⟩
              refine rq_less (l' := [rowE 3 1 (.slice (some ⟨g32, 0, none⟩) ((List.replicate (frW d).toNat (0 : Int)).length) ((List.replicate (frW d).toNat (0 : Int)).length)) zs.length (zs.map (Value.int .i64)), rowE 3 1 v29 ((tcBits t.val).length) ((tcBits t.val).map (Value.int .i64)), boxE b2 #[t.mv, t.lv, .int .i64 t.pad, .int .i64 t.ram] 39, boxE b1 #[.int .i64 d.W, .int .i64 d.H, .int .i64 d.T, .int .i64 d.R] 25]) (sub_cons (d := 11) rfl (sub_nil _)) (List.sublist_append_right _ _) ?_
              exact rq_v (rv_ev rfl)
            ·
              intro vf pf hR
              have e4 : (vf 4) = .int .i64 (b : Int) ∧ (pf 4) = [] := hR 4 (by decide)
              refine Or.inl ⟨rfl, ?_⟩
              refine rq_less (l' := [rowE 3 1 (.slice (some ⟨g32, 0, none⟩) ((List.replicate (frW d).toNat (0 : Int)).length) ((List.replicate (frW d).toNat (0 : Int)).length)) zs.length (zs.map (Value.int .i64)), rowE 3 1 v29 ((tcBits t.val).length) ((tcBits t.val).map (Value.int .i64)), boxE b2 #[t.mv, t.lv, .int .i64 t.pad, .int .i64 t.ram] 39, boxE b1 #[.int .i64 d.W, .int .i64 d.H, .int .i64 d.T, .int .i64 d.R] 25]) (sub_cons (d := 96) (congrArg some e4.1) (sub_nil _)) (List.sublist_append_right _ _) ?_
              exact rq_v (rv_quo rfl rfl rfl (by refine ⟨?_, ?_, ?_⟩ <;> omega))
            ·
              intro vf pf hR
              have e3 : (vf 3) = .slice (some ⟨g32, 0, none⟩) ((List.replicate (frW d).toNat (0 : Int)).length) ((List.replicate (frW d).toNat (0 : Int)).length) ∧ (pf 3) = [] := hR 3 (by decide)
              have e5 : (vf 5) = .int .i64 ((b : Int) / 16) ∧ (pf 5) = [] := hR 5 (by decide)
              refine Or.inl ⟨rfl, ?_⟩
              refine rq_less (l' := [rowE 3 1 (.slice (some ⟨g32, 0, none⟩) ((List.replicate (frW d).toNat (0 : Int)).length) ((List.replicate (frW d).toNat (0 : Int)).length)) zs.length (zs.map (Value.int .i64)), rowE 3 1 v29 ((tcBits t.val).length) ((tcBits t.val).map (Value.int .i64)), boxE b2 #[t.mv, t.lv, .int .i64 t.pad, .int .i64 t.ram] 39, boxE b1 #[.int .i64 d.W, .int .i64 d.H, .int .i64 d.T, .int .i64 d.R] 25]) (sub_cons (d := 95) (congrArg some e3.1) (sub_cons (d := 97) (congrArg some e5.1) (sub_nil _))) (List.sublist_append_right _ _) ?_
              exact rq_v (rv_index (s := 1) rfl Try.underlying30 (by kernel_rfl) rfl rfl (rd_row 0 rfl) (by omega) (by first | omega | (simp only [List.length_set]; omega)))
            ·
              intro vf pf hR
              have e6 : (vf 6) = elP (.slice (some ⟨g32, 0, none⟩) ((List.replicate (frW d).toNat (0 : Int)).length) ((List.replicate (frW d).toNat (0 : Int)).length)) (((b : Int) / 16).toNat * 1) ∧ (pf 6) = [] := hR 6 (by decide)
              refine Or.inl ⟨rfl, ?_⟩
              refine rq_less (l' := [rowE 3 1 (.slice (some ⟨g32, 0, none⟩) ((List.replicate (frW d).toNat (0 : Int)).length) ((List.replicate (frW d).toNat (0 : Int)).length)) zs.length (zs.map (Value.int .i64)), rowE 3 1 v29 ((tcBits t.val).length) ((tcBits t.val).map (Value.int .i64)), boxE b2 #[t.mv, t.lv, .int .i64 t.pad, .int .i64 t.ram] 39, boxE b1 #[.int .i64 d.W, .int .i64 d.H, .int .i64 d.T, .int .i64 d.R] 25]) (sub_cons (d := 98) (congrArg some e6.1) (sub_nil _)) (List.sublist_append_right _ _) ?_
              exact rq_v (rv_loadEl (u := .int .i64 (zs.getD (((b : Int) / 16).toNat) 0)) rfl (by kernel_rfl) rfl (rd_row 0 rfl) (ints_at1 (show _ < zs.length by first | omega | (simp only [List.length_set]; omega))))
            ·
              intro vf pf hR
              refine Or.inl ⟨rfl, ?_⟩
              refine rq_less (l' := [rowE 3 1 (.slice (some ⟨g32, 0, none⟩) ((List.replicate (frW d).toNat (0 : Int)).length) ((List.replicate (frW d).toNat (0 : Int)).length)) zs.length (zs.map (Value.int .i64)), rowE 3 1 v29 ((tcBits t.val).length) ((tcBits t.val).map (Value.int .i64)), boxE b2 #[t.mv, t.lv, .int .i64 t.pad, .int .i64 t.ram] 39, boxE b1 #[.int .i64 d.W, .int .i64 d.H, .int .i64 d.T, .int .i64 d.R] 25]) (sub_cons (d := 6) rfl (sub_nil _)) (List.sublist_append_right _ _) ?_
              exact rq_v (rv_ev rfl)
            ·
              intro vf pf hR
              refine Or.inl ⟨rfl, ?_⟩
              refine rq_less (l' := [rowE 3 1 (.slice (some ⟨g32, 0, none⟩) ((List.replicate (frW d).toNat (0 : Int)).length) ((List.replicate (frW d).toNat (0 : Int)).length)) zs.length (zs.map (Value.int .i64)), rowE 3 1 v29 ((tcBits t.val).length) ((tcBits t.val).map (Value.int .i64)), boxE b2 #[t.mv, t.lv, .int .i64 t.pad, .int .i64 t.ram] 39, boxE b1 #[.int .i64 d.W, .int .i64 d.H, .int .i64 d.T, .int .i64 d.R] 25]) (sub_cons (d := 11) rfl (sub_nil _)) (List.sublist_append_right _ _) ?_
              exact rq_v (rv_ev rfl)
            ·
              intro vf pf hR
              have e8 : (vf 8) = v29 ∧ (pf 8) = [] := hR 8 (by decide)
              have e9 : (vf 9) = .int .i64 (b : Int) ∧ (pf 9) = [] := hR 9 (by decide)
              refine Or.inl ⟨rfl, ?_⟩
              refine rq_less (l' := [rowE 3 1 (.slice (some ⟨g32, 0, none⟩) ((List.replicate (frW d).toNat (0 : Int)).length) ((List.replicate (frW d).toNat (0 : Int)).length)) zs.length (zs.map (Value.int .i64)), rowE 3 1 v29 ((tcBits t.val).length) ((tcBits t.val).map (Value.int .i64)), boxE b2 #[t.mv, t.lv, .int .i64 t.pad, .int .i64 t.ram] 39, boxE b1 #[.int .i64 d.W, .int .i64 d.H, .int .i64 d.T, .int .i64 d.R] 25]) (sub_cons (d := 100) (congrArg some e8.1) (sub_cons (d := 101) (congrArg some e9.1) (sub_nil _))) (List.sublist_append_right _ _) ?_
              exact rq_v (rv_index (s := 1) rfl Try.underlying30 (by kernel_rfl) rfl rfl (rd_row 1 rfl) (by omega) (by first | omega | (simp only [List.length_set]; omega)))
            ·
              intro vf pf hR
              have e10 : (vf 10) = elP v29 (((b : Int)).toNat * 1) ∧ (pf 10) = [] := hR 10 (by decide)
              refine Or.inl ⟨rfl, ?_⟩
              refine rq_less (l' := [rowE 3 1 (.slice (some ⟨g32, 0, none⟩) ((List.replicate (frW d).toNat (0 : Int)).length) ((List.replicate (frW d).toNat (0 : Int)).length)) zs.length (zs.map (Value.int .i64)), rowE 3 1 v29 ((tcBits t.val).length) ((tcBits t.val).map (Value.int .i64)), boxE b2 #[t.mv, t.lv, .int .i64 t.pad, .int .i64 t.ram] 39, boxE b1 #[.int .i64 d.W, .int .i64 d.H, .int .i64 d.T, .int .i64 d.R] 25]) (sub_cons (d := 102) (congrArg some e10.1) (sub_nil _)) (List.sublist_append_right _ _) ?_
              exact rq_v (rv_loadEl (u := .int .i64 ((tcBits t.val).getD b 0)) rfl (by kernel_rfl) rfl (rd_row 1 rfl) (ints_at1 (show _ < (tcBits t.val).length by first | omega | (simp only [List.length_set]; omega))))
            ·
              intro vf pf hR
              refine Or.inl ⟨rfl, ?_⟩
              refine rq_less (l' := [rowE 3 1 (.slice (some ⟨g32, 0, none⟩) ((List.replicate (frW d).toNat (0 : Int)).length) ((List.replicate (frW d).toNat (0 : Int)).length)) zs.length (zs.map (Value.int .i64)), rowE 3 1 v29 ((tcBits t.val).length) ((tcBits t.val).map (Value.int .i64)), boxE b2 #[t.mv, t.lv, .int .i64 t.pad, .int .i64 t.ram] 39, boxE b1 #[.int .i64 d.W, .int .i64 d.H, .int .i64 d.T, .int .i64 d.R] 25]) (sub_cons (d := 11) rfl (sub_nil _)) (List.sublist_append_right _ _) ?_
              exact rq_v (rv_ev rfl)
            ·
              intro vf pf hR
              have e12 : (vf 12) = .int .i64 (b : Int) ∧ (pf 12) = [] := hR 12 (by decide)
              refine Or.inl ⟨rfl, ?_⟩
              refine rq_less (l' := [rowE 3 1 (.slice (some ⟨g32, 0, none⟩) ((List.replicate (frW d).toNat (0 : Int)).length) ((List.replicate (frW d).toNat (0 : Int)).length)) zs.length (zs.map (Value.int .i64)), rowE 3 1 v29 ((tcBits t.val).length) ((tcBits t.val).map (Value.int .i64)), boxE b2 #[t.mv, t.lv, .int .i64 t.pad, .int .i64 t.ram] 39, boxE b1 #[.int .i64 d.W, .int .i64 d.H, .int .i64 d.T, .int .i64 d.R] 25]) (sub_cons (d := 104) (congrArg some e12.1) (sub_nil _)) (List.sublist_append_right _ _) ?_
              exact rq_v (rv_rem rfl rfl rfl (by constructor <;> omega))
            ·
              intro vf pf hR
              have e11 : (vf 11) = .int .i64 ((tcBits t.val).getD b 0) ∧ (pf 11) = [] := hR 11 (by decide)
              have e13 : (vf 13) = .int .i64 ((b : Int) % 16) ∧ (pf 13) = [] := hR 13 (by decide)
              refine Or.inl ⟨rfl, ?_⟩
              refine rq_less (l' := [rowE 3 1 (.slice (some ⟨g32, 0, none⟩) ((List.replicate (frW d).toNat (0 : Int)).length) ((List.replicate (frW d).toNat (0 : Int)).length)) zs.length (zs.map (Value.int .i64)), rowE 3 1 v29 ((tcBits t.val).length) ((tcBits t.val).map (Value.int .i64)), boxE b2 #[t.mv, t.lv, .int .i64 t.pad, .int .i64 t.ram] 39, boxE b1 #[.int .i64 d.W, .int .i64 d.H, .int .i64 d.T, .int .i64 d.R] 25]) (sub_cons (d := 103) (congrArg some e11.1) (sub_cons (d := 105) (congrArg some e13.1) (sub_nil _))) (List.sublist_append_right _ _) ?_
              exact rq_v (rv_shl (kk' := .i64) rfl rfl rfl (by omega) (shl1 hbt (by omega)))
            ·
              intro vf pf hR
              have e7 : (vf 7) = .int .i64 (zs.getD (((b : Int) / 16).toNat) 0) ∧ (pf 7) = [] := hR 7 (by decide)
              have e14 : (vf 14) = .int .i64 (((tcBits t.val).getD b 0) * 2 ^ ((b : Int) % 16).toNat) ∧ (pf 14) = [] := hR 14 (by decide)
              refine Or.inl ⟨rfl, ?_⟩
              refine rq_less (l' := [rowE 3 1 (.slice (some ⟨g32, 0, none⟩) ((List.replicate (frW d).toNat (0 : Int)).length) ((List.replicate (frW d).toNat (0 : Int)).length)) zs.length (zs.map (Value.int .i64)), rowE 3 1 v29 ((tcBits t.val).length) ((tcBits t.val).map (Value.int .i64)), boxE b2 #[t.mv, t.lv, .int .i64 t.pad, .int .i64 t.ram] 39, boxE b1 #[.int .i64 d.W, .int .i64 d.H, .int .i64 d.T, .int .i64 d.R] 25]) (sub_cons (d := 99) (congrArg some e7.1) (sub_cons (d := 106) (congrArg some e14.1) (sub_nil _))) (List.sublist_append_right _ _) ?_
              exact rq_v (rv_add rfl rfl rfl (add_small hlow hbt (by omega)))
            ·
              intro vf pf hR
              have e0 : (vf 0) = .slice (some ⟨g32, 0, none⟩) ((List.replicate (frW d).toNat (0 : Int)).length) ((List.replicate (frW d).toNat (0 : Int)).length) ∧ (pf 0) = [] := hR 0 (by decide)
              have e2 : (vf 2) = .int .i64 ((b : Int) / 16) ∧ (pf 2) = [] := hR 2 (by decide)
              refine Or.inl ⟨rfl, ?_⟩
              refine rq_less (l' := [rowE 3 1 (.slice (some ⟨g32, 0, none⟩) ((List.replicate (frW d).toNat (0 : Int)).length) ((List.replicate (frW d).toNat (0 : Int)).length)) zs.length (zs.map (Value.int .i64)), rowE 3 1 v29 ((tcBits t.val).length) ((tcBits t.val).map (Value.int .i64)), boxE b2 #[t.mv, t.lv, .int .i64 t.pad, .int .i64 t.ram] 39, boxE b1 #[.int .i64 d.W, .int .i64 d.H, .int .i64 d.T, .int .i64 d.R] 25]) (sub_cons (d := 92) (congrArg some e0.1) (sub_cons (d := 94) (congrArg some e2.1) (sub_nil _))) (List.sublist_append_right _ _) ?_
              exact rq_v (rv_index (s := 1) rfl Try.underlying30 (by kernel_rfl) rfl rfl (rd_row 0 rfl) (by omega) (by first | omega | (simp only [List.length_set]; omega)))
          ·
            intro vf pf hR
            have e15 : (vf 15) = .int .i64 ((zs.getD (((b : Int) / 16).toNat) 0) + (((tcBits t.val).getD b 0) * 2 ^ ((b : Int) % 16).toNat)) ∧ (pf 15) = [] := hR 15 (by decide)
            have e16 : (vf 16) = elP (.slice (some ⟨g32, 0, none⟩) ((List.replicate (frW d).toNat (0 : Int)).length) ((List.replicate (frW d).toNat (0 : Int)).length)) (((b : Int) / 16).toNat * 1) ∧ (pf 16) = [] := hR 16 (by decide)
            refine hl_less (l' := [rowE 3 1 (.slice (some ⟨g32, 0, none⟩) ((List.replicate (frW d).toNat (0 : Int)).length) ((List.replicate (frW d).toNat (0 : Int)).length)) zs.length (zs.map (Value.int .i64)), rowE 3 1 v29 ((tcBits t.val).length) ((tcBits t.val).map (Value.int .i64)), boxE b2 #[t.mv, t.lv, .int .i64 t.pad, .int .i64 t.ram] 39, boxE b1 #[.int .i64 d.W, .int .i64 d.H, .int .i64 d.T, .int .i64 d.R] 25]) (sub_cons (d := 0) rfl (sub_cons (d := 1) rfl (sub_cons (d := 2) rfl (sub_cons (d := 3) rfl (sub_cons (d := 4) rfl (sub_cons (d := 5) rfl (sub_cons (d := 6) rfl (sub_cons (d := 7) rfl (sub_cons (d := 8) rfl (sub_cons (d := 10) rfl (sub_cons (d := 11) rfl (sub_cons (d := 15) rfl (sub_cons (d := 22) rfl (sub_cons (d := 33) rfl (sub_cons (d := 89) rfl (sub_cons (d := 107) (congrArg some e15.1) (sub_cons (d := 108) (congrArg some e16.1) (sub_nil _)))))))))))))))))) (List.sublist_append_right _ _) ?_
            simp only [List.drop_succ_cons, List.drop_zero]
            refine hl_storeEl (i := 0) (n' := (zs.set (((b : Int) / 16).toNat) ((zs.getD (((b : Int) / 16).toNat) 0) + (((tcBits t.val).getD b 0) * 2 ^ ((b : Int) % 16).toNat))).length) (xs' := ((zs.set (((b : Int) / 16).toNat) ((zs.getD (((b : Int) / 16).toNat) 0) + (((tcBits t.val).getD b 0) * 2 ^ ((b : Int) % 16).toNat))).map (Value.int .i64))) (l' := [rowE 3 1 (.slice (some ⟨g32, 0, none⟩) ((List.replicate (frW d).toNat (0 : Int)).length) ((List.replicate (frW d).toNat (0 : Int)).length)) ((zs.set (((b : Int) / 16).toNat) ((zs.getD (((b : Int) / 16).toNat) 0) + (((tcBits t.val).getD b 0) * 2 ^ ((b : Int) % 16).toNat))).length) ((zs.set (((b : Int) / 16).toNat) ((zs.getD (((b : Int) / 16).toNat) 0) + (((tcBits t.val).getD b 0) * 2 ^ ((b : Int) % 16).toNat))).map (Value.int .i64)), rowE 3 1 v29 ((tcBits t.val).length) ((tcBits t.val).map (Value.int .i64)), boxE b2 #[t.mv, t.lv, .int .i64 t.pad, .int .i64 t.ram] 39, boxE b1 #[.int .i64 d.W, .int .i64 d.H, .int .i64 d.T, .int .i64 d.R] 25]) rfl rfl rfl (by kernel_rfl) rfl rfl rfl rfl (by first | omega | (simp only [List.length_set]; omega)) List.length_set.symm (ints_set _ _ _) rfl ?_
            refine hl_less (sub_cons (d := 0) rfl (sub_cons (d := 1) rfl (sub_cons (d := 2) rfl (sub_cons (d := 3) rfl (sub_cons (d := 4) rfl (sub_cons (d := 5) rfl (sub_cons (d := 6) rfl (sub_cons (d := 7) rfl (sub_cons (d := 8) rfl (sub_cons (d := 10) rfl (sub_cons (d := 11) rfl (sub_cons (d := 15) rfl (sub_cons (d := 22) rfl (sub_cons (d := 33) rfl (sub_cons (d := 89) rfl (sub_nil _)))))))))))))))) (.refl _) ?_
            refine hl_nil ?_
            refine hq_block_normal ?_
            refine hq_then ?_
            refine hc_region ?_
            refine hl_v rfl rfl rfl (rv_ev rfl) ?_
            refine hl_v rfl rfl rfl (rv_add rfl rfl rfl (by constructor <;> omega)) ?_
            refine hl_v rfl rfl rfl (rv_ev rfl) ?_
            refine hl_less (sub_cons (d := 0) rfl (sub_cons (d := 1) rfl (sub_cons (d := 2) rfl (sub_cons (d := 3) rfl (sub_cons (d := 4) rfl (sub_cons (d := 5) rfl (sub_cons (d := 6) rfl (sub_cons (d := 7) rfl (sub_cons (d := 8) rfl (sub_cons (d := 10) rfl (sub_cons (d := 11) rfl (sub_cons (d := 15) rfl (sub_cons (d := 22) rfl (sub_cons (d := 33) rfl (sub_cons (d := 89) rfl (sub_nil _)))))))))))))))) (.refl _) ?_
            refine hl_nil ?_
            exact hq_round2 (b + 1) (zs.set (((b : Int) / 16).toNat) ((zs.getD (((b : Int) / 16).toNat) 0) + (((tcBits t.val).getD b 0) * 2 ^ ((b : Int) % 16).toNat))) ⟨by omega, by rw [packJ, ← hbz, he1, he2], by rw [List.length_set]; exact hbl2⟩ (by omega) (sub_cons (d := 0) rfl (sub_cons (d := 1) rfl (sub_cons (d := 2) rfl (sub_cons (d := 3) rfl (sub_cons (d := 4) rfl (sub_cons (d := 5) rfl (sub_cons (d := 6) rfl (sub_cons (d := 7) rfl (sub_cons (d := 8) rfl (sub_cons (d := 10) rfl (sub_cons (d := 11) rfl (sub_cons (d := 15) rfl (sub_cons (d := 22) rfl (sub_cons (d := 33) rfl (sub_nil _))))))))))))))) ((.cons_cons _ (.cons_cons _ (.cons_cons _ (.cons_cons _ .slnil)))))
        ·
          refine hl_less (sub_cons (d := 0) rfl (sub_cons (d := 1) rfl (sub_cons (d := 2) rfl (sub_cons (d := 3) rfl (sub_cons (d := 4) rfl (sub_cons (d := 5) rfl (sub_cons (d := 6) rfl (sub_cons (d := 7) rfl (sub_cons (d := 8) rfl (sub_cons (d := 10) rfl (sub_cons (d := 11) rfl (sub_cons (d := 15) rfl (sub_cons (d := 22) rfl (sub_cons (d := 33) rfl (sub_cons (d := 89) rfl (sub_nil _)))))))))))))))) (.refl _) ?_
          refine hl_nil ?_
          refine hq_then ?_
          refine hc_false rfl ?_
          refine hc_exit ?_
          refine hq_then_exit ?_
          refine hq_then_exit ?_
          refine hq_block_exit ?_
          refine hq_then ?_
          refine hc_seq ?_
          refine hc_region ?_
          refine hl_v rfl rfl rfl (rv_ev rfl) ?_
          refine hl_v rfl rfl rfl (rv_ev rfl) ?_
          refine hl_v rfl rfl rfl (rv_ev rfl) ?_
          refine hl_less (sub_cons (d := 0) rfl (sub_cons (d := 1) rfl (sub_cons (d := 2) rfl (sub_cons (d := 3) rfl (sub_cons (d := 4) rfl (sub_cons (d := 5) rfl (sub_cons (d := 6) rfl (sub_cons (d := 7) rfl (sub_cons (d := 8) rfl (sub_cons (d := 10) rfl (sub_cons (d := 11) rfl (sub_cons (d := 15) rfl (sub_cons (d := 22) rfl (sub_cons (d := 33) rfl (sub_cons (d := 89) rfl (sub_nil _)))))))))))))))) (.refl _) ?_
          refine hl_nil ?_
          refine hq_then ?_
          refine hc_ret ?_
          have hyes : tcOkV d t.val = true := by assumption
          exact hq_retM (rs := [.tmp 4, .tmp 5]) (vs := [.slice (some ⟨g32, 0, none⟩) ((List.replicate (frW d).toNat (0 : Int)).length) ((List.replicate (frW d).toNat (0 : Int)).length), .bool true]) (post := [rowE 3 1 (.slice (some ⟨g32, 0, none⟩) ((List.replicate (frW d).toNat (0 : Int)).length) ((List.replicate (frW d).toNat (0 : Int)).length)) zs.length (zs.map (Value.int .i64))]) rfl ⟨rfl, rfl, trivial⟩ rfl ((.cons_cons _ (.cons _ (.cons _ (.cons _ .slnil))))) ⟨_, by rw [hyes]; rfl, by unfold encV; rw [if_pos hyes, hbz, show b = (tcBits t.val).length by omega]⟩
  ·
    refine hl_v rfl rfl rfl (rv_ev rfl) ?_
    refine hl_less (sub_cons (d := 0) rfl (sub_cons (d := 1) rfl (sub_cons (d := 2) rfl (sub_cons (d := 3) rfl (sub_cons (d := 4) rfl (sub_cons (d := 5) rfl (sub_cons (d := 15) rfl (sub_nil _)))))))) (.refl _) ?_
    refine hl_nil ?_
    refine hq_then ?_
    refine hc_true rfl ?_
    refine hc_seq ?_
    refine hc_region ?_
    refine hl_row rfl rfl rfl (rq_slice0 (s := 1) rfl Try.underlying30 (by kernel_rfl)) ?_
    intro g35
    refine hl_v rfl rfl rfl (rv_ev rfl) ?_
    refine hl_v rfl rfl rfl (rv_ev rfl) ?_
    refine hl_less (sub_cons (d := 0) rfl (sub_cons (d := 1) rfl (sub_cons (d := 2) rfl (sub_cons (d := 3) rfl (sub_cons (d := 4) rfl (sub_cons (d := 5) rfl (sub_cons (d := 15) rfl (sub_nil _)))))))) (.refl _) ?_
    refine hl_nil ?_
    refine hq_then ?_
    refine hc_ret ?_
    refine hq_then_ret ?_
    have hno : tcOkV d t.val = false := by assumption
    exact hq_retM (rs := [.tmp 4, .tmp 5]) (vs := [.slice (some ⟨g35, 0, none⟩) 0 0, .bool false]) (post := [rowE 3 1 (.slice (some ⟨g35, 0, none⟩) 0 0) 0 ([])]) rfl ⟨rfl, rfl, trivial⟩ rfl ((.cons_cons _ (.cons _ (.cons _ .slnil)))) ⟨_, by rw [hno]; rfl, by unfold encV; rw [hno]; rfl⟩
end Go.Proofs.Ytnnkbpcfjjijbaa
