/- Texts of the law FnCoverLogic, part 4: what it uses. -/
import Derived.Test.YtakbbebpimlnpaaCv3
set_option linter.unusedVariables false
set_option linter.unusedSimpArgs false
namespace Go.Proofs.Ytakbbebpimlnpaa
open Go.RowKit Go.ChangeShapes
open Go.RowKit
set_option maxHeartbeats 4000000 in
set_option maxRecDepth 100000 in
theorem tableOf_ret (n : Int) (F : FuncId) (fs : List Value) (fb : Nat → Bool) (w : World) (hn : 0 ≤ n ∧ n ≤ 4) (hgo : goesB Try.prog F = true) (hf : ∀ (i : Nat) (w1 : World), i < pn n → Below w.heap.size w w1 → Calls Try.prog F ([Value.int .i64 (i : Int)] ++ fs).toArray w1 (Ans w1 (.bool (fb i)))) :
  Calls Try.prog 139 #[.int .i64 n, .func (.func F) #[] fs.toArray] w (Ret w (fun u_ p_ => u_ = .agg #[.int .i64 n, .int .i64 (tbN fb (pn n) : Int)] ∧ p_ = [])) := by
 have hp := pn_rng hn
 refine calls_hc (N := 27) (args := [.int .i64 n, .func (.func F) #[] fs.toArray]) Try.func139 rfl rfl ?_
 refine hc_less _ (sx 0 rfl (sx 1 rfl (sub_nil _))) (.refl _) ?_
 refine hc_seq ?_
 refine hc_region ?_
 refine hl_box rfl rfl rfl (rq_alloc (z := .agg #[.int .i64 0, .int .i64 0]) rfl (by kernel_rfl)) ?_
 intro b1
 refine hl_less (sx 0 rfl (sx 1 rfl (sx 4 rfl (sub_nil _)))) (.refl _) ?_
 refine hl_nil ?_
 refine hq_then ?_
 refine hc_seq ?_
 refine hc_region ?_
 refine hl_v rfl rfl rfl (rv_ev rfl) ?_
 refine hl_v rfl rfl rfl (rv_build (cs := #[.int .i64 n, .int .i64 0]) rfl rfl (by kernel_rfl)) ?_
 refine hl_box rfl rfl rfl (rq_alloc (z := .agg #[.int .i64 0, .int .i64 0]) rfl (by kernel_rfl)) ?_
 intro b2
 refine hl_storeBoxN (i := 0) (off := 0) (us := [.int .i64 n, .int .i64 0]) (l' := [boxE b2 #[.int .i64 n, .int .i64 0] 55, boxE b1 #[.int .i64 0, .int .i64 0] 55]) rfl rfl rfl (by kernel_rfl) rfl rfl rfl (all_cons rfl (all_cons rfl all_nil)) rfl rfl rfl ?_
 refine hl_less (sx 0 rfl (sx 1 rfl (sx 4 rfl (sx 5 rfl (sub_nil _))))) (.refl _) ?_
 refine hl_nil ?_
 refine hq_then ?_
 refine hc_seq ?_
 refine hc_seq ?_
 refine hc_region ?_
 refine hl_v rfl rfl rfl (rv_ev rfl) ?_
 refine hl_less (sx 0 rfl (sx 1 rfl (sx 4 rfl (sx 5 rfl (sx 6 rfl (sub_nil _)))))) (.refl _) ?_
 refine hl_nil ?_
 refine hq_then ?_
 refine hc_block ?_
 refine hc_loop1 (α := Nat) (fun k => [boxE b2 #[.int .i64 n, .int .i64 (tbN fb k : Int)] 55, boxE b1 #[.int .i64 0, .int .i64 0] 55]) (fun k => [(0, .int .i64 n), (1, .func (.func F) #[] fs.toArray), (4, .pointer (some ⟨b1, 0, none⟩)), (5, .pointer (some ⟨b2, 0, none⟩)), (6, .int .i64 (k : Int))]) (fun k => k ≤ pn n) (fun k => pn n - k) 0 (Nat.zero_le _) (sx 0 rfl (sx 1 rfl (sx 4 rfl (sx 5 rfl (sx 6 rfl (sub_nil _)))))) ((.cons_cons _ (.cons_cons _ .slnil))) ?_
 intro k hi3
 have hk := hi3
 refine hc_seq ?_
 refine hc_seq ?_
 refine hc_region ?_
 refine hl_v rfl rfl rfl (rv_ev rfl) ?_
 refine hl_v rfl rfl rfl (rv_ev rfl) ?_
 refine hl_v rfl rfl rfl (rv_conv rfl Try.underlying3 Try.underlying98 rfl (IntWalk.u64_in _ (by omega))) ?_
 refine hl_v rfl rfl rfl (rv_shlG (k := .i64) (kk := .u64) (r := (pn n : Int)) rfl rfl rfl rfl (by omega) (wr1 hn)) ?_
 refine hl_lss rfl rfl rfl rfl rfl rfl (fun h4 => ?_) (fun h4 => ?_)
 ·
  refine hl_less (sx 0 rfl (sx 1 rfl (sx 4 rfl (sx 5 rfl (sx 6 rfl (sx 13 rfl (sub_nil _))))))) (.refl _) ?_
  refine hl_nil ?_
  refine hq_then ?_
  refine hc_true rfl ?_
  refine hc_skip ?_
  refine hq_then ?_
  refine hc_seq ?_
  refine hc_block ?_
  refine hc_seq ?_
  refine hc_region ?_
  refine hl_v rfl rfl rfl (rv_ev rfl) ?_
  refine hl_v rfl rfl rfl (rv_ev rfl) ?_
  refine hl_callV rfl rfl rfl (rq_callF hgo rfl rfl (fun w hm => ret_ans (hf k w (by omega) hm.bel))) ?_
  refine hl_bool (fun h5 => ?_) (fun h5 => ?_)
  ·
   refine hl_less (sx 0 rfl (sx 1 rfl (sx 4 rfl (sx 5 rfl (sx 6 rfl (sx 13 rfl (sx 18 rfl (sub_nil _)))))))) (.refl _) ?_
   refine hl_nil ?_
   refine hq_then ?_
   refine hc_true rfl ?_
   refine hc_region ?_
   refine hl_v rfl rfl rfl (rv_field (k0 := 1) rfl (by kernel_rfl) rfl) ?_
   refine hl_v rfl rfl rfl (rv_load rfl (by kernel_rfl) rfl (box_cell 0 rfl rfl)) ?_
   refine hl_v rfl rfl rfl (rv_ev rfl) ?_
   refine hl_v rfl rfl rfl (rv_conv rfl Try.underlying3 Try.underlying98 rfl (IntWalk.u64_in _ (by omega))) ?_
   refine hl_v rfl rfl rfl (rv_shlG (k := .i64) (kk := .u64) (r := (2 : Int) ^ k) rfl rfl rfl rfl (by omega) (shl_1 (by omega))) ?_
   refine hl_v rfl rfl rfl (rv_bits rfl (by decide) rfl rfl (r := ((tbN fb k + 2 ^ k : Nat) : Int)) (or_high (tbN_lt fb k) (by omega))) ?_
   refine hl_v rfl rfl rfl (rv_field (k0 := 1) rfl (by kernel_rfl) rfl) ?_
   refine hl_storeBox (i := 0) (l' := [boxE b2 #[.int .i64 n, .int .i64 ((tbN fb k + 2 ^ k : Nat) : Int)] 55, boxE b1 #[.int .i64 0, .int .i64 0] 55]) rfl rfl rfl (by kernel_rfl) rfl rfl rfl rfl rfl rfl ?_
   refine hl_less (sx 0 rfl (sx 1 rfl (sx 4 rfl (sx 5 rfl (sx 6 rfl (sx 13 rfl (sx 18 rfl (sub_nil _)))))))) (.refl _) ?_
   refine hl_nil ?_
   refine hq_block_normal ?_
   refine hq_then ?_
   refine hc_region ?_
   refine hl_v rfl rfl rfl (rv_ev rfl) ?_
   refine hl_v rfl rfl rfl (rv_add rfl rfl rfl (by constructor <;> omega)) ?_
   refine hl_v rfl rfl rfl (rv_ev rfl) ?_
   refine hl_less (sx 0 rfl (sx 1 rfl (sx 4 rfl (sx 5 rfl (sx 6 rfl (sx 13 rfl (sx 18 rfl (sub_nil _)))))))) (.refl _) ?_
   refine hl_nil ?_
   rw [show (((tbN fb k + 2 ^ k : Nat)) : Int) = (tbN fb (k + 1) : Int) by show _ = ((tbN fb k + (if fb k then 2 ^ k else 0) : Nat) : Int); rw [h5]; rfl]
   exact hq_round1 (k + 1) (by omega) (by omega) (sx 0 rfl (sx 1 rfl (sx 4 rfl (sx 5 rfl (sx 6 rfl (sub_nil _)))))) ((.cons_cons _ (.cons_cons _ .slnil)))
  ·
   refine hl_less (sx 0 rfl (sx 1 rfl (sx 4 rfl (sx 5 rfl (sx 6 rfl (sx 13 rfl (sx 18 rfl (sub_nil _)))))))) (.refl _) ?_
   refine hl_nil ?_
   refine hq_then ?_
   refine hc_false rfl ?_
   refine hc_skip ?_
   refine hq_block_normal ?_
   refine hq_then ?_
   refine hc_region ?_
   refine hl_v rfl rfl rfl (rv_ev rfl) ?_
   refine hl_v rfl rfl rfl (rv_add rfl rfl rfl (by constructor <;> omega)) ?_
   refine hl_v rfl rfl rfl (rv_ev rfl) ?_
   refine hl_less (sx 0 rfl (sx 1 rfl (sx 4 rfl (sx 5 rfl (sx 6 rfl (sx 13 rfl (sx 18 rfl (sub_nil _)))))))) (.refl _) ?_
   refine hl_nil ?_
   rw [show (tbN fb k : Int) = (tbN fb (k + 1) : Int) by show _ = ((tbN fb k + (if fb k then 2 ^ k else 0) : Nat) : Int); rw [h5]; rfl]
   exact hq_round1 (k + 1) (by omega) (by omega) (sx 0 rfl (sx 1 rfl (sx 4 rfl (sx 5 rfl (sx 6 rfl (sub_nil _)))))) ((.cons_cons _ (.cons_cons _ .slnil)))
 ·
  refine hl_less (sx 0 rfl (sx 1 rfl (sx 4 rfl (sx 5 rfl (sx 6 rfl (sx 13 rfl (sub_nil _))))))) (.refl _) ?_
  refine hl_nil ?_
  refine hq_then ?_
  refine hc_false rfl ?_
  refine hc_exit ?_
  refine hq_then_exit ?_
  refine hq_then_exit ?_
  refine hq_block_exit ?_
  refine hq_then ?_
  refine hc_seq ?_
  refine hc_region ?_
  refine hl_v rfl rfl rfl (rv_loadN (cs := [.int .i64 n, .int .i64 (tbN fb k : Int)]) rfl (by kernel_rfl) (by kernel_rfl) rfl rfl (box_part 0 rfl 0 rfl)) ?_
  refine hl_storeBoxN (i := 1) (off := 0) (us := [.int .i64 n, .int .i64 (tbN fb k : Int)]) (l' := [boxE b2 #[.int .i64 n, .int .i64 (tbN fb k : Int)] 55, boxE b1 #[.int .i64 n, .int .i64 (tbN fb k : Int)] 55]) rfl rfl rfl (by kernel_rfl) rfl rfl rfl (all_cons rfl (all_cons rfl all_nil)) rfl rfl rfl ?_
  refine hl_less (sx 0 rfl (sx 1 rfl (sx 4 rfl (sx 5 rfl (sx 6 rfl (sx 13 rfl (sub_nil _))))))) (.refl _) ?_
  refine hl_nil ?_
  refine hq_then ?_
  refine hc_ret ?_
  have hke : k = pn n := by omega
  exact hq_retM (rs := [.cell 4 55]) (vs := [.agg #[.int .i64 n, .int .i64 (tbN fb k : Int)]]) (post := []) rfl ⟨⟨b1, 0, [.int .i64 n, .int .i64 (tbN fb k : Int)], rfl, rfl, by kernel_rfl, by kernel_rfl, box_part 1 rfl 0 rfl⟩, trivial⟩ rfl ((.cons _ (.cons _ .slnil))) ⟨by rw [hke]; rfl, rfl⟩
set_option maxHeartbeats 4000000 in
set_option maxRecDepth 100000 in
theorem coverOk_yes (n : Int) (cs : List (Nat × Nat)) (v : Value) (w : World) (hn : 0 ≤ n ∧ n ≤ 4) (hv : RdsW w v 2 cs.length (cs.flatMap cubC)) (hl : cs.length ≤ 81) (hok : CubsOk (pn n) cs) :
  Calls Try.prog 97 #[.int .i64 n, v] w (Ans w (.bool true)) := by
 have hp := pn_rng hn
 refine calls_hc (N := 26) (args := [.int .i64 n, v]) Try.func97 rfl rfl ?_
 refine hc_less _ (sx 0 rfl (sx 1 rfl (sub_nil _))) (.refl _) ?_
 refine hc_seq ?_
 refine hc_region ?_
 refine hl_v rfl rfl rfl (rv_ev rfl) ?_
 refine hl_less (sx 0 rfl (sx 1 rfl (sx 4 rfl (sub_nil _)))) (.refl _) ?_
 refine hl_nil ?_
 refine hq_then ?_
 refine hc_seq ?_
 refine hc_seq ?_
 refine hc_region ?_
 refine hl_v rfl rfl rfl (rv_ev rfl) ?_
 refine hl_callV rfl rfl rfl (rq_call (by kernel_rfl) rfl (fun w hm => ret_ans (inr_yes (by omega) (by omega) w))) ?_
 refine hl_v rfl rfl rfl (rv_ev rfl) ?_
 refine hl_v rfl rfl rfl (rv_ev rfl) ?_
 refine hl_v rfl rfl rfl (rv_ev rfl) ?_
 refine hl_v rfl rfl rfl (rv_len rfl Try.underlying62 rfl (rd_old hv)) ?_
 refine hl_gtr rfl rfl rfl rfl rfl rfl (fun h1 => absurd h1 (by omega)) (fun h1 => ?_)
 refine hl_v rfl rfl rfl (rv_ev rfl) ?_
 refine hl_less (sx 0 rfl (sx 1 rfl (sx 4 rfl (sx 14 rfl (sub_nil _))))) (.refl _) ?_
 refine hl_nil ?_
 refine hq_then ?_
 refine hc_false rfl ?_
 refine hc_skip ?_
 refine hq_then ?_
 refine hc_seq ?_
 refine hc_seq ?_
 refine hc_region ?_
 refine hl_v rfl rfl rfl (rv_ev rfl) ?_
 refine hl_v rfl rfl rfl (rv_len rfl Try.underlying62 rfl (rd_old hv)) ?_
 refine hl_v rfl rfl rfl (rv_ev rfl) ?_
 refine hl_less (sx 0 rfl (sx 1 rfl (sx 4 rfl (sx 14 rfl (sx 15 rfl (sx 16 rfl (sx 17 rfl (sub_nil _)))))))) (.refl _) ?_
 refine hl_nil ?_
 refine hq_then ?_
 refine hc_block ?_
 refine hc_loop1 (α := Nat) (fun k => []) (fun k => [(0, .int .i64 n), (1, v), (4, .bool false), (14, .bool false), (15, v), (16, .int .i64 (cs.length : Int)), (17, .int .i64 (k : Int))]) (fun k => k ≤ cs.length) (fun k => cs.length - k) 0 (Nat.zero_le _) (sx 0 rfl (sx 1 rfl (sx 4 rfl (sx 14 rfl (sx 15 rfl (sx 16 rfl (sx 17 rfl (sub_nil _)))))))) (.slnil) ?_
 intro k hi2
 have hk := hi2
 refine hc_seq ?_
 refine hc_region ?_
 refine hl_lss rfl rfl rfl rfl rfl rfl (fun h3 => ?_) (fun h3 => ?_)
 ·
  refine hl_less (sx 0 rfl (sx 1 rfl (sx 4 rfl (sx 14 rfl (sx 15 rfl (sx 16 rfl (sx 17 rfl (sx 18 rfl (sub_nil _))))))))) (.refl _) ?_
  refine hl_nil ?_
  refine hq_then ?_
  refine hc_seq ?_
  refine hc_true rfl ?_
  refine hc_skip ?_
  refine hq_then ?_
  refine hc_seq ?_
  refine hc_block ?_
  refine hc_seq ?_
  refine hc_region ?_
  refine hl_v rfl rfl rfl (rv_index (s := 2) rfl Try.underlying62 (by kernel_rfl) rfl rfl (rd_old hv) (by omega) (by first | omega | (simp only [List.length_set]; omega))) ?_
  refine hl_v rfl rfl rfl (rv_loadElN (us := [.int .i64 ((cs.getD k c0_o).1 : Int), .int .i64 ((cs.getD k c0_o).2 : Int)]) rfl (by kernel_rfl) (by kernel_rfl) rfl (rd_old hv) (by omega) rfl (flat_atN cubC 2 (fun _ => rfl) cs c0_o (show k < _ by first | omega | (simp only [List.length_set]; omega)) rfl)) ?_
  refine hl_box rfl rfl rfl (rq_alloc (z := .agg #[.int .i64 0, .int .i64 0]) rfl (by kernel_rfl)) ?_
  intro b4
  refine hl_storeBoxN (i := 0) (off := 0) (us := [.int .i64 ((cs.getD k c0_o).1 : Int), .int .i64 ((cs.getD k c0_o).2 : Int)]) (l' := [boxE b4 #[.int .i64 ((cs.getD k c0_o).1 : Int), .int .i64 ((cs.getD k c0_o).2 : Int)] 139]) rfl rfl rfl (by kernel_rfl) rfl rfl rfl (all_cons rfl (all_cons rfl all_nil)) rfl rfl rfl ?_
  refine hl_less (sx 0 rfl (sx 1 rfl (sx 4 rfl (sx 6 rfl (sx 14 rfl (sx 15 rfl (sx 16 rfl (sx 17 rfl (sx 18 rfl (sub_nil _)))))))))) (.refl _) ?_
  refine hl_nil ?_
  refine hq_then ?_
  refine hc_seq ?_
  refine hc_region ?_
  have hck := hok _ (getD_memX (d := c0_o) (show k < cs.length by omega))
  obtain ⟨hck1, hck2, hck3⟩ := hck
  refine hl_v rfl rfl rfl (rv_ev rfl) ?_
  refine hl_v rfl rfl rfl (rv_loadN (cs := [.int .i64 ((cs.getD k c0_o).1 : Int), .int .i64 ((cs.getD k c0_o).2 : Int)]) rfl (by kernel_rfl) (by kernel_rfl) rfl rfl (box_part 0 rfl 0 rfl)) ?_
  refine hl_callV rfl rfl rfl (rq_call (by kernel_rfl) rfl (fun w hm => ret_ans (implCubeOk_yes n (cs.getD k c0_o).1 (cs.getD k c0_o).2 w hn hck1 hck2 hck3))) ?_
  refine hl_v rfl rfl rfl (rv_ev rfl) ?_
  refine hl_less (sx 0 rfl (sx 1 rfl (sx 4 rfl (sx 6 rfl (sx 14 rfl (sx 15 rfl (sx 16 rfl (sx 17 rfl (sx 18 rfl (sx 24 rfl (sub_nil _))))))))))) (.refl _) ?_
  refine hl_nil ?_
  refine hq_then ?_
  refine hc_false rfl ?_
  refine hc_skip ?_
  refine hq_block_normal ?_
  refine hq_then ?_
  refine hc_region ?_
  refine hl_v rfl rfl rfl (rv_add rfl rfl rfl (by constructor <;> omega)) ?_
  refine hl_v rfl rfl rfl (rv_ev rfl) ?_
  refine hl_less (sx 0 rfl (sx 1 rfl (sx 4 rfl (sx 6 rfl (sx 14 rfl (sx 15 rfl (sx 16 rfl (sx 17 rfl (sx 18 rfl (sx 24 rfl (sub_nil _))))))))))) (.refl _) ?_
  refine hl_nil ?_
  exact hq_round1 (k + 1) (by omega) (by omega) (sx 0 rfl (sx 1 rfl (sx 4 rfl (sx 14 rfl (sx 15 rfl (sx 16 rfl (sx 17 rfl (sub_nil _)))))))) ((.cons _ .slnil))
 ·
  refine hl_less (sx 0 rfl (sx 1 rfl (sx 4 rfl (sx 14 rfl (sx 15 rfl (sx 16 rfl (sx 17 rfl (sx 18 rfl (sub_nil _))))))))) (.refl _) ?_
  refine hl_nil ?_
  refine hq_then ?_
  refine hc_seq ?_
  refine hc_false rfl ?_
  refine hc_exit ?_
  refine hq_then_exit ?_
  refine hq_then_exit ?_
  refine hq_block_exit ?_
  refine hq_then ?_
  refine hc_seq ?_
  refine hc_region ?_
  refine hl_v rfl rfl rfl (rv_ev rfl) ?_
  refine hl_less (sx 0 rfl (sx 1 rfl (sx 4 rfl (sx 14 rfl (sx 15 rfl (sx 16 rfl (sx 17 rfl (sx 18 rfl (sub_nil _))))))))) (.refl _) ?_
  refine hl_nil ?_
  refine hq_then ?_
  refine hc_ret ?_
  exact hq_ans rfl rfl rfl
set_option maxHeartbeats 4000000 in
set_option maxRecDepth 100000 in
theorem CoverTableC_ans (n : Int) (cs : List (Nat × Nat)) (v : Value) (b i : Nat) (w : World) (hn : 0 ≤ n ∧ n ≤ 4) (hv : RdsW w v 2 cs.length (cs.flatMap cubC)) (hl : cs.length ≤ 81) (hok : CubsOk (pn n) cs) (hi : i < pn n) (hbb : b < w.heap.size) (hbc : w.cell? ⟨b, 0, none⟩ = some v) :
  Calls Try.prog 150 #[.int .i64 (i : Int), .pointer (some ⟨b, 0, none⟩)] w (Ans w (.bool (covB cs i))) := by
 have hp := pn_rng hn
 refine calls_hc (N := 20) (args := [.int .i64 (i : Int), .pointer (some ⟨b, 0, none⟩)]) Try.func150 rfl rfl ?_
 refine hc_less _ (sx 0 rfl (sx 1 rfl (sub_nil _))) (.refl _) ?_
 refine hc_seq ?_
 refine hc_region ?_
 refine hl_v rfl rfl rfl (rv_ev rfl) ?_
 refine hl_less (sx 0 rfl (sx 1 rfl (sx 3 rfl (sub_nil _)))) (.refl _) ?_
 refine hl_nil ?_
 refine hq_then ?_
 refine hc_seq ?_
 refine hc_seq ?_
 refine hc_region ?_
 refine hl_v rfl rfl rfl (rv_load rfl (by kernel_rfl) rfl (fun w hm => (hm.bel.cell (p := ⟨b, 0, none⟩) hbb).trans hbc)) ?_
 refine hl_v rfl rfl rfl (rv_len rfl Try.underlying62 rfl (rd_old hv)) ?_
 refine hl_v rfl rfl rfl (rv_ev rfl) ?_
 refine hl_less (sx 0 rfl (sx 1 rfl (sx 3 rfl (sx 6 rfl (sx 7 rfl (sx 8 rfl (sub_nil _))))))) (.refl _) ?_
 refine hl_nil ?_
 refine hq_then ?_
 refine hc_block ?_
 refine hc_loop1 (α := Nat) (fun k => []) (fun k => [(0, .int .i64 (i : Int)), (1, .pointer (some ⟨b, 0, none⟩)), (3, .bool false), (6, v), (7, .int .i64 (cs.length : Int)), (8, .int .i64 (k : Int))]) (fun k => k ≤ cs.length ∧ ∀ r, r < k → cvr (cs.getD r c0_o) i = false) (fun k => cs.length - k) 0 ⟨Nat.zero_le _, fun r hr => absurd hr (by omega)⟩ (sx 0 rfl (sx 1 rfl (sx 3 rfl (sx 6 rfl (sx 7 rfl (sx 8 rfl (sub_nil _))))))) (.slnil) ?_
 intro k hi1
 obtain ⟨hk, hno⟩ := hi1
 refine hc_seq ?_
 refine hc_region ?_
 refine hl_lss rfl rfl rfl rfl rfl rfl (fun h2 => ?_) (fun h2 => ?_)
 ·
  refine hl_less (sx 0 rfl (sx 1 rfl (sx 3 rfl (sx 6 rfl (sx 7 rfl (sx 8 rfl (sx 9 rfl (sub_nil _)))))))) (.refl _) ?_
  refine hl_nil ?_
  refine hq_then ?_
  refine hc_seq ?_
  refine hc_true rfl ?_
  refine hc_skip ?_
  refine hq_then ?_
  refine hc_seq ?_
  refine hc_block ?_
  refine hc_seq ?_
  refine hc_region ?_
  refine hl_v rfl rfl rfl (rv_index (s := 2) rfl Try.underlying62 (by kernel_rfl) rfl rfl (rd_old hv) (by omega) (by first | omega | (simp only [List.length_set]; omega))) ?_
  refine hl_v rfl rfl rfl (rv_loadElN (us := [.int .i64 ((cs.getD k c0_o).1 : Int), .int .i64 ((cs.getD k c0_o).2 : Int)]) rfl (by kernel_rfl) (by kernel_rfl) rfl (rd_old hv) (by omega) rfl (flat_atN cubC 2 (fun _ => rfl) cs c0_o (show k < _ by first | omega | (simp only [List.length_set]; omega)) rfl)) ?_
  refine hl_box rfl rfl rfl (rq_alloc (z := .agg #[.int .i64 0, .int .i64 0]) rfl (by kernel_rfl)) ?_
  intro b3
  refine hl_storeBoxN (i := 0) (off := 0) (us := [.int .i64 ((cs.getD k c0_o).1 : Int), .int .i64 ((cs.getD k c0_o).2 : Int)]) (l' := [boxE b3 #[.int .i64 ((cs.getD k c0_o).1 : Int), .int .i64 ((cs.getD k c0_o).2 : Int)] 139]) rfl rfl rfl (by kernel_rfl) rfl rfl rfl (all_cons rfl (all_cons rfl all_nil)) rfl rfl rfl ?_
  refine hl_less (sx 0 rfl (sx 1 rfl (sx 3 rfl (sx 5 rfl (sx 6 rfl (sx 7 rfl (sx 8 rfl (sx 9 rfl (sub_nil _))))))))) (.refl _) ?_
  refine hl_nil ?_
  refine hq_then ?_
  refine hc_seq ?_
  refine hc_region ?_
  have hck := hok _ (getD_memX (d := c0_o) (show k < cs.length by omega))
  obtain ⟨hck1, hck2, hck3⟩ := hck
  refine hl_v rfl rfl rfl (rv_ev rfl) ?_
  refine hl_v rfl rfl rfl (rv_field (k0 := 0) rfl (by kernel_rfl) rfl) ?_
  refine hl_v rfl rfl rfl (rv_load rfl (by kernel_rfl) rfl (box_cell 0 rfl rfl)) ?_
  refine hl_v rfl rfl rfl (rv_bits rfl (by decide) rfl rfl (r := ((i &&& (cs.getD k c0_o).1 : Nat) : Int)) (Bit.and_nat _ _ (by omega) (by omega))) ?_
  refine hl_v rfl rfl rfl (rv_field (k0 := 1) rfl (by kernel_rfl) rfl) ?_
  refine hl_v rfl rfl rfl (rv_load rfl (by kernel_rfl) rfl (box_cell 0 rfl rfl)) ?_
  refine hl_eql rfl rfl rfl rfl rfl rfl (fun h4 => ?_) (fun h4 => ?_)
  ·
   refine hl_less (sx 0 rfl (sx 1 rfl (sx 3 rfl (sx 5 rfl (sx 6 rfl (sx 7 rfl (sx 8 rfl (sx 9 rfl (sx 18 rfl (sub_nil _)))))))))) (.refl _) ?_
   refine hl_nil ?_
   refine hq_then ?_
   refine hc_true rfl ?_
   refine hc_seq ?_
   refine hc_region ?_
   refine hl_v rfl rfl rfl (rv_ev rfl) ?_
   refine hl_less (sx 0 rfl (sx 1 rfl (sx 3 rfl (sx 5 rfl (sx 6 rfl (sx 7 rfl (sx 8 rfl (sx 9 rfl (sx 18 rfl (sub_nil _)))))))))) (.refl _) ?_
   refine hl_nil ?_
   refine hq_then ?_
   refine hc_ret ?_
   refine hq_block_ret ?_
   refine hq_then_ret ?_
   refine hq_then_ret ?_
   refine hq_block_ret ?_
   refine hq_then_ret ?_
   exact hq_ans rfl rfl (congrArg _ (covB_iff.2 ⟨k, by omega, by unfold cvr; rw [beq_iff_eq]; omega⟩).symm)
  ·
   refine hl_less (sx 0 rfl (sx 1 rfl (sx 3 rfl (sx 5 rfl (sx 6 rfl (sx 7 rfl (sx 8 rfl (sx 9 rfl (sx 18 rfl (sub_nil _)))))))))) (.refl _) ?_
   refine hl_nil ?_
   refine hq_then ?_
   refine hc_false rfl ?_
   refine hc_skip ?_
   refine hq_block_normal ?_
   refine hq_then ?_
   refine hc_region ?_
   refine hl_v rfl rfl rfl (rv_add rfl rfl rfl (by constructor <;> omega)) ?_
   refine hl_v rfl rfl rfl (rv_ev rfl) ?_
   refine hl_less (sx 0 rfl (sx 1 rfl (sx 3 rfl (sx 5 rfl (sx 6 rfl (sx 7 rfl (sx 8 rfl (sx 9 rfl (sx 18 rfl (sub_nil _)))))))))) (.refl _) ?_
   refine hl_nil ?_
   exact hq_round1 (k + 1) ⟨by omega, fun r hr => by by_cases e : r = k; (subst e; unfold cvr; exact beq_false_of_ne (by omega)); exact hno r (by omega)⟩ (by omega) (sx 0 rfl (sx 1 rfl (sx 3 rfl (sx 6 rfl (sx 7 rfl (sx 8 rfl (sub_nil _))))))) ((.cons _ .slnil))
 ·
  refine hl_less (sx 0 rfl (sx 1 rfl (sx 3 rfl (sx 6 rfl (sx 7 rfl (sx 8 rfl (sx 9 rfl (sub_nil _)))))))) (.refl _) ?_
  refine hl_nil ?_
  refine hq_then ?_
  refine hc_seq ?_
  refine hc_false rfl ?_
  refine hc_exit ?_
  refine hq_then_exit ?_
  refine hq_then_exit ?_
  refine hq_block_exit ?_
  refine hq_then ?_
  refine hc_seq ?_
  refine hc_region ?_
  refine hl_v rfl rfl rfl (rv_ev rfl) ?_
  refine hl_less (sx 0 rfl (sx 1 rfl (sx 3 rfl (sx 6 rfl (sx 7 rfl (sx 8 rfl (sx 9 rfl (sub_nil _)))))))) (.refl _) ?_
  refine hl_nil ?_
  refine hq_then ?_
  refine hc_ret ?_
  exact hq_ans rfl rfl (congrArg _ (covB_no (fun r hr => hno r (by omega))).symm)
set_option maxHeartbeats 4000000 in
set_option maxRecDepth 100000 in
theorem CoverTable_ret (n : Int) (cs : List (Nat × Nat)) (v : Value) (w : World) (hn : 0 ≤ n ∧ n ≤ 4) (hv : RdsW w v 2 cs.length (cs.flatMap cubC)) (hl : cs.length ≤ 81) (hok : CubsOk (pn n) cs) :
  Calls Try.prog 102 #[.int .i64 n, v] w (Ret w (fun u_ p_ => u_ = .agg #[.int .i64 n, .int .i64 (tbN (covB cs) (pn n) : Int)] ∧ p_ = [])) := by
 have hp := pn_rng hn
 refine calls_hc (N := 13) (args := [.int .i64 n, v]) Try.func102 rfl rfl ?_
 refine hc_less _ (sx 0 rfl (sx 1 rfl (sub_nil _))) (.refl _) ?_
 refine hc_seq ?_
 refine hc_region ?_
 refine hl_box rfl rfl rfl (rq_box1 rfl rfl hv.one) ?_
 intro b1
 refine hl_box rfl rfl rfl (rq_alloc (z := .agg #[.int .i64 0, .int .i64 0]) rfl (by kernel_rfl)) ?_
 intro b2
 refine hl_less (sx 0 rfl (sx 1 rfl (sx 3 rfl (sx 4 rfl (sub_nil _))))) (.refl _) ?_
 refine hl_nil ?_
 refine hq_then ?_
 refine hc_seq ?_
 refine hc_seq ?_
 refine hc_region ?_
 refine hl_v rfl rfl rfl (rv_ev rfl) ?_
 refine hl_v rfl rfl rfl (rv_load rfl (by kernel_rfl) rfl (box_cell 1 rfl rfl)) ?_
 refine hl_callV rfl rfl rfl (rq_call (by kernel_rfl) rfl (fun w hm => ret_ans (coverOk_yes n cs _ w hn (hv.below hm.bel) hl hok))) ?_
 refine hl_v rfl rfl rfl (rv_ev rfl) ?_
 refine hl_less (sx 0 rfl (sx 1 rfl (sx 3 rfl (sx 4 rfl (sx 8 rfl (sub_nil _)))))) (.refl _) ?_
 refine hl_nil ?_
 refine hq_then ?_
 refine hc_false rfl ?_
 refine hc_skip ?_
 refine hq_then ?_
 refine hc_seq ?_
 refine hc_region ?_
 refine hl_v rfl rfl rfl (rv_ev rfl) ?_
 refine hl_v rfl rfl rfl (rv_makeFunc (us := []) (vs := [.pointer (some ⟨b1, 0, none⟩)]) rfl rfl rfl) ?_
 refine hl_q rfl rfl rfl (rq_call (by kernel_rfl) rfl (fun w hm => tableOf_ret n 150 [.pointer (some ⟨b1, 0, none⟩)] (covB cs) w hn (by kernel_rfl) (fun i w1 hi hb => CoverTableC_ans n cs v b1 i w1 hn ((hv.below hm.bel).below hb) hl hok hi (Nat.lt_of_lt_of_le (box_lt 1 rfl hm) hb.size) ((hb.cell (p := ⟨b1, 0, none⟩) (box_lt 1 rfl hm)).trans (cellW hm 1 rfl rfl))))) ?_
 intro v3 p4 hR5
 obtain ⟨rfl, rfl⟩ := hR5
 refine hl_storeBoxN (i := 0) (off := 0) (us := [.int .i64 n, .int .i64 (tbN (covB cs) (pn n) : Int)]) (l' := [boxE b2 #[.int .i64 n, .int .i64 (tbN (covB cs) (pn n) : Int)] 55, boxE b1 #[v] 62]) rfl rfl rfl (by kernel_rfl) rfl rfl rfl (all_cons rfl (all_cons rfl all_nil)) rfl rfl rfl ?_
 refine hl_less (sx 0 rfl (sx 1 rfl (sx 3 rfl (sx 4 rfl (sx 8 rfl (sub_nil _)))))) (.refl _) ?_
 refine hl_nil ?_
 refine hq_then ?_
 refine hc_ret ?_
 exact hq_retM (rs := [.cell 4 55]) (vs := [.agg #[.int .i64 n, .int .i64 (tbN (covB cs) (pn n) : Int)]]) (post := []) rfl ⟨⟨b2, 0, [.int .i64 n, .int .i64 (tbN (covB cs) (pn n) : Int)], rfl, rfl, by kernel_rfl, by kernel_rfl, box_part 0 rfl 0 rfl⟩, trivial⟩ rfl ((.cons _ (.cons _ .slnil))) ⟨rfl, rfl⟩
theorem eqA_no {a b c : Int} (h : b = c) : eqA a b a c = true := by unfold eqA; rw [h]; simp
set_option maxHeartbeats 4000000 in
set_option maxRecDepth 100000 in
theorem MinimalCover_ret (t : Tab) (w : World) (ht : TabOk t) :
  Calls Try.prog 42 #[.agg #[.int .i64 t.N, .int .i64 t.B]] w (Ret w (fun v_ p_ => ∃ cs : List (Nat × Nat), p_ = [rowE 139 2 v_ cs.length (cs.flatMap cubC)] ∧ MinOk t 0 cs)) := by
 have hn := ht.1
 have hp := pn_rng hn
 have hpl := primes_len t hn
 refine calls_hc (N := 36) (args := [.agg #[.int .i64 t.N, .int .i64 t.B]]) Try.func42 rfl rfl ?_
 refine hc_less _ (sx 0 rfl (sub_nil _)) (.refl _) ?_
 refine hc_seq ?_
 refine hc_region ?_
 refine hl_box rfl rfl rfl (rq_box rfl rfl) ?_
 intro b1
 refine hl_v rfl rfl rfl (rv_ev rfl) ?_
 refine hl_less (sx 0 rfl (sx 1 rfl (sx 2 rfl (sub_nil _)))) (.refl _) ?_
 refine hl_nil ?_
 refine hq_then ?_
 refine hc_seq ?_
 refine hc_seq ?_
 refine hc_region ?_
 refine hl_v rfl rfl rfl (rv_loadN (cs := [.int .i64 t.N, .int .i64 t.B]) rfl (by kernel_rfl) (by kernel_rfl) rfl rfl (box_part 0 rfl 0 rfl)) ?_
 refine hl_callV rfl rfl rfl (rq_call (by kernel_rfl) rfl (fun w hm => ret_ans (implTableOk_yes t w ht))) ?_
 refine hl_v rfl rfl rfl (rv_ev rfl) ?_
 refine hl_less (sx 0 rfl (sx 1 rfl (sx 2 rfl (sx 8 rfl (sub_nil _))))) (.refl _) ?_
 refine hl_nil ?_
 refine hq_then ?_
 refine hc_false rfl ?_
 refine hc_skip ?_
 refine hq_then ?_
 refine hc_seq ?_
 refine hc_region ?_
 refine hl_v rfl rfl rfl (rv_loadN (cs := [.int .i64 t.N, .int .i64 t.B]) rfl (by kernel_rfl) (by kernel_rfl) rfl rfl (box_part 0 rfl 0 rfl)) ?_
 refine hl_q rfl rfl rfl (rq_call (by kernel_rfl) rfl (fun w hm => PrimeCubes_ret t w ht)) ?_
 intro v2 p3 hR4
 subst hR4
 refine hl_v rfl rfl rfl (rv_ev rfl) ?_
 refine hl_less (sx 0 rfl (sx 1 rfl (sx 2 rfl (sx 3 rfl (sx 8 rfl (sub_nil _)))))) (.refl _) ?_
 refine hl_nil ?_
 refine hq_then ?_
 refine hc_seq ?_
 refine hc_seq ?_
 refine hc_region ?_
 refine hl_v rfl rfl rfl (rv_ev rfl) ?_
 refine hl_v rfl rfl rfl (rv_len rfl Try.underlying62 rfl (rd_row 0 rfl)) ?_
 refine hl_v rfl rfl rfl (rv_sub rfl rfl rfl (by constructor <;> omega)) ?_
 refine hl_v rfl rfl rfl (rv_ev rfl) ?_
 refine hl_less (sx 0 rfl (sx 1 rfl (sx 2 rfl (sx 3 rfl (sx 4 rfl (sx 8 rfl (sub_nil _))))))) (.refl _) ?_
 refine hl_nil ?_
 refine hq_then ?_
 refine hc_block ?_
 refine hc_loop3 (α := Nat) (β := Value) (γ := List (Nat × Nat)) (fun kk u cs => [rowE 139 2 u cs.length (cs.flatMap cubC), boxE b1 #[.int .i64 t.N, .int .i64 t.B] 55]) (fun kk u cs => [(0, .agg #[.int .i64 t.N, .int .i64 t.B]), (1, .pointer (some ⟨b1, 0, none⟩)), (2, .slice none 0 0), (3, u), (4, .int .i64 ((kk : Int) - 1)), (8, .bool false)]) (fun kk u cs => kk ≤ cs.length ∧ MinOk t kk cs ∧ cs.length ≤ 81) (fun kk u cs => kk) (primesN t).length _ (primesN t) ⟨Nat.le_refl _, min_start, hpl⟩ (sx 0 rfl (sx 1 rfl (sx 2 rfl (sx 3 rfl (sx 4 rfl (sx 8 rfl (sub_nil _))))))) ((.cons_cons _ (.cons_cons _ .slnil))) ?_
 intro kk u cs hi5
 obtain ⟨hk, hmn, hcl⟩ := hi5
 refine hc_seq ?_
 refine hc_seq ?_
 refine hc_region ?_
 refine hl_v rfl rfl rfl (rv_ev rfl) ?_
 refine hl_geq rfl rfl rfl rfl rfl rfl (fun h6 => ?_) (fun h6 => ?_)
 ·
  refine hl_less (sx 0 rfl (sx 1 rfl (sx 2 rfl (sx 3 rfl (sx 4 rfl (sx 8 rfl (sx 15 rfl (sub_nil _)))))))) (.refl _) ?_
  refine hl_nil ?_
  refine hq_then ?_
  refine hc_true rfl ?_
  refine hc_skip ?_
  refine hq_then ?_
  refine hc_seq ?_
  refine hc_block ?_
  refine hc_seq ?_
  refine hc_draw3 (l := [rowE 139 2 u cs.length (cs.flatMap cubC), boxE b1 #[.int .i64 t.N, .int .i64 t.B] 55]) (by kernel_rfl) 9 [0, 1, 2, 3, 4, 5, 6, 7, 8] (List.take 9 _) (List.drop 9 _) [[], [], [], [1, 2], [0, 3], [], [], [6], [5, 7]] [some 18, some 19, some 20, some 21, some 22, some 23, some 24, some 25, some 26] (fun i_ vs_ v_ p_ => match i_ with | 0 => IsRow_o 139 2 0 ([]) v_ p_ | 1 => v_ = u ∧ p_ = [] | 2 => v_ = .int .i64 ((kk : Int) - 1) ∧ p_ = [] | 3 => v_ = slV u 0 (((kk : Int) - 1)).toNat 2 ∧ p_ = [] | 4 => (∃ pm_, p_ = [pm_] ∧ (fun u_ p_ => p_ = rowE 139 2 u_ ((cs.take (((kk : Int) - 1)).toNat).length) ((cs.take (((kk : Int) - 1)).toNat).flatMap cubC)) v_ pm_) | 5 => v_ = u ∧ p_ = [] | 6 => v_ = .int .i64 ((kk : Int) - 1) ∧ p_ = [] | 7 => v_ = .int .i64 (((kk : Int) - 1) + 1) ∧ p_ = [] | 8 => v_ = slV u (((kk : Int) - 1) + 1).toNat cs.length 2 ∧ p_ = [] | _ => True) [[], [], [], [1, 2], [3], [], [], [6], [5, 7]] [none, none, none, none, some 0, none, none, none, none] [] [1, 2, 3, 4, 5, 6, 7, 8] 11 (List.take_append_drop 9 _).symm (by kernel_rfl) (by kernel_rfl) (by kernel_rfl) rfl rfl ?_ ?_
  ·
   refine ⟨?_, ?_, ?_, ?_, ?_, ?_, ?_, ?_, ?_, trivial⟩
   ·
    intro vf pf hmu hR
    refine Or.inl ⟨rfl, ?_⟩
    show RunQ _ _ _ (([] : List Nat).flatMap pf ++ _) (envOf3 _ vf [] ++ _) _ _
    refine rq_less (sub_nil _) (List.sublist_append_right _ _) ?_
    exact rq_slice0 (s := 2) rfl Try.underlying62 (by kernel_rfl)
   ·
    intro vf pf hmu hR
    refine Or.inl ⟨rfl, ?_⟩
    show RunQ _ _ _ (([] : List Nat).flatMap pf ++ _) (envOf3 _ vf [] ++ _) _ _
    refine rq_less (sx 3 rfl (sub_nil _)) (List.sublist_append_right _ _) ?_
    exact rq_v (rv_ev rfl)
   ·
    intro vf pf hmu hR
    refine Or.inl ⟨rfl, ?_⟩
    show RunQ _ _ _ (([] : List Nat).flatMap pf ++ _) (envOf3 _ vf [] ++ _) _ _
    refine rq_less (sx 4 rfl (sub_nil _)) (List.sublist_append_right _ _) ?_
    exact rq_v (rv_ev rfl)
   ·
    intro vf pf hmu hR
    have e1 : (vf 1) = u ∧ (pf 1) = [] := hR 1 (by decide)
    have e2 : (vf 2) = .int .i64 ((kk : Int) - 1) ∧ (pf 2) = [] := hR 2 (by decide)
    refine Or.inl ⟨rfl, ?_⟩
    show RunQ _ _ _ (([1, 2] : List Nat).flatMap pf ++ _) (envOf3 _ vf [1, 2] ++ _) _ _
    refine rq_less (sx 19 (congrArg some e1.1) (sx 20 (congrArg some e2.1) (sub_nil _))) (List.sublist_append_right _ _) ?_
    exact rq_v (rv_slH rfl Try.underlying62 (by kernel_rfl) rfl rfl (rd_row 0 rfl) (by omega) (by omega))
   ·
    intro vf pf hmu hR
    have e0 : IsRow_o 139 2 0 ([]) (vf 0) (pf 0) := hR 0 (by decide)
    obtain ⟨g7, v0, p0⟩ := e0
    have e3 : (vf 3) = slV u 0 (((kk : Int) - 1)).toNat 2 ∧ (pf 3) = [] := hR 3 (by decide)
    refine Or.inl ⟨rfl, ?_⟩
    show RunM _ _ _ (pf 0) (([3] : List Nat).flatMap pf ++ _) (envOf3 _ vf [0, 3] ++ _) _ _
    rw [p0]; rw [v0]
    refine rm_less (X' := [rowE 139 2 u cs.length (cs.flatMap cubC), boxE b1 #[.int .i64 t.N, .int .i64 t.B] 55]) (sx 18 (congrArg some v0) (sx 21 (congrArg some e3.1) (sub_nil _))) (by first | (simp only [e3.2, List.flatMap_cons, List.flatMap_nil, List.append_nil, List.nil_append, List.cons_append]; exact List.Sublist.refl _) | simp [e3.2]) ?_
    exact rm_append (d := 0) (z := .agg #[.int .i64 0, .int .i64 0]) (bytes := 16) (n' := (cs.take (((kk : Int) - 1)).toNat).length) (xs' := ((cs.take (((kk : Int) - 1)).toNat).flatMap cubC)) rfl Try.underlying62 (by kernel_rfl) (by kernel_rfl) rfl rfl (rd_slHs (f := cubC) (fun _ => rfl) (rd_row 0 rfl) (by omega)) (flat_onesG cubC (cs.take (((kk : Int) - 1)).toNat) (fun r u hu => by simp [cubC] at hu; first | (subst hu; rfl) | (rcases hu with rfl | rfl <;> rfl))) (by first | omega | (simp only [List.length_take, List.length_drop]; omega)) (Nat.zero_add _) (List.nil_append _)
   ·
    intro vf pf hmu hR
    refine Or.inl ⟨rfl, ?_⟩
    show RunQ _ _ _ (([] : List Nat).flatMap pf ++ _) (envOf3 _ vf [] ++ _) _ _
    refine rq_less (sx 3 rfl (sub_nil _)) (List.sublist_append_right _ _) ?_
    exact rq_v (rv_ev rfl)
   ·
    intro vf pf hmu hR
    refine Or.inl ⟨rfl, ?_⟩
    show RunQ _ _ _ (([] : List Nat).flatMap pf ++ _) (envOf3 _ vf [] ++ _) _ _
    refine rq_less (sx 4 rfl (sub_nil _)) (List.sublist_append_right _ _) ?_
    exact rq_v (rv_ev rfl)
   ·
    intro vf pf hmu hR
    have e6 : (vf 6) = .int .i64 ((kk : Int) - 1) ∧ (pf 6) = [] := hR 6 (by decide)
    refine Or.inl ⟨rfl, ?_⟩
    show RunQ _ _ _ (([6] : List Nat).flatMap pf ++ _) (envOf3 _ vf [6] ++ _) _ _
    refine rq_less (sx 24 (congrArg some e6.1) (sub_nil _)) (List.sublist_append_right _ _) ?_
    exact rq_v (rv_add rfl rfl rfl (by constructor <;> omega))
   ·
    intro vf pf hmu hR
    have e5 : (vf 5) = u ∧ (pf 5) = [] := hR 5 (by decide)
    have e7 : (vf 7) = .int .i64 (((kk : Int) - 1) + 1) ∧ (pf 7) = [] := hR 7 (by decide)
    refine Or.inl ⟨rfl, ?_⟩
    show RunQ _ _ _ (([5, 7] : List Nat).flatMap pf ++ _) (envOf3 _ vf [5, 7] ++ _) _ _
    refine rq_less (sx 23 (congrArg some e5.1) (sx 25 (congrArg some e7.1) (sub_nil _))) (List.sublist_append_right _ _) ?_
    exact rq_v (rv_slL rfl Try.underlying62 (by kernel_rfl) rfl rfl (rd_row 0 rfl) (by omega) (by omega))
  ·
   intro vf pf hmu hR
   have e0 : IsRow_o 139 2 0 ([]) (vf 0) (pf 0) := hR 0 (by decide)
   obtain ⟨g7, v0, p0⟩ := e0
   have e4 : (∃ pm_, (pf 4) = [pm_] ∧ (fun u_ p_ => p_ = rowE 139 2 u_ ((cs.take (((kk : Int) - 1)).toNat).length) ((cs.take (((kk : Int) - 1)).toNat).flatMap cubC)) (vf 4) pm_) := hR 4 (by decide)
   obtain ⟨p9, p4, hR10⟩ := e4
   obtain ⟨v8, v4⟩ : ∃ x, vf 4 = x := ⟨_, rfl⟩
   rw [v4] at hR10
   subst hR10
   have e8 : (vf 8) = slV u (((kk : Int) - 1) + 1).toNat cs.length 2 ∧ (pf 8) = [] := hR 8 (by decide)
   have q1 : (vf 1) = u ∧ (pf 1) = [] := hR 1 (by decide)
   have q2 : (vf 2) = .int .i64 ((kk : Int) - 1) ∧ (pf 2) = [] := hR 2 (by decide)
   have q3 : (vf 3) = slV u 0 (((kk : Int) - 1)).toNat 2 ∧ (pf 3) = [] := hR 3 (by decide)
   have q5 : (vf 5) = u ∧ (pf 5) = [] := hR 5 (by decide)
   have q6 : (vf 6) = .int .i64 ((kk : Int) - 1) ∧ (pf 6) = [] := hR 6 (by decide)
   have q7 : (vf 7) = .int .i64 (((kk : Int) - 1) + 1) ∧ (pf 7) = [] := hR 7 (by decide)
   have q8 : (vf 8) = slV u (((kk : Int) - 1) + 1).toNat cs.length 2 ∧ (pf 8) = [] := hR 8 (by decide)
   refine hl_less (l' := [rowE 139 2 v8 ((cs.take (((kk : Int) - 1)).toNat).length) ((cs.take (((kk : Int) - 1)).toNat).flatMap cubC), rowE 139 2 u cs.length (cs.flatMap cubC), boxE b1 #[.int .i64 t.N, .int .i64 t.B] 55]) (sx 0 rfl (sx 1 rfl (sx 2 rfl (sx 3 rfl (sx 4 rfl (sx 8 rfl (sx 15 rfl (sx 22 (congrArg some v4) (sx 26 (congrArg some e8.1) (sub_nil _)))))))))) (by first | (simp only [p4, v4, q1.2, q2.2, q3.2, q5.2, q6.2, q7.2, q8.2, List.flatMap_cons, List.flatMap_nil, List.append_nil, List.nil_append, List.cons_append]; exact List.Sublist.refl _) | simp [p4, v4, q1.2, q2.2, q3.2, q5.2, q6.2, q7.2, q8.2]) ?_
   simp only [List.drop_succ_cons, List.drop_zero]
   refine hl_append (i := 0) (z := .agg #[.int .i64 0, .int .i64 0]) (bytes := 16) (n' := ((cs.take (((kk : Int) - 1)).toNat) ++ (cs.drop (((kk : Int) - 1) + 1).toNat)).length) (xs' := (((cs.take (((kk : Int) - 1)).toNat) ++ (cs.drop (((kk : Int) - 1) + 1).toNat)).flatMap cubC)) (L := fun v11 => [rowE 139 2 v11 (((cs.take (((kk : Int) - 1)).toNat) ++ (cs.drop (((kk : Int) - 1) + 1).toNat)).length) (((cs.take (((kk : Int) - 1)).toNat) ++ (cs.drop (((kk : Int) - 1) + 1).toNat)).flatMap cubC), rowE 139 2 u cs.length (cs.flatMap cubC), boxE b1 #[.int .i64 t.N, .int .i64 t.B] 55]) rfl rfl rfl rfl Try.underlying62 (by kernel_rfl) (by kernel_rfl) rfl rfl rfl (rd_slLs (f := cubC) (fun _ => rfl) (rd_row 1 rfl) (by omega)) (flat_onesG cubC (cs.drop (((kk : Int) - 1) + 1).toNat) (fun r u hu => by simp [cubC] at hu; first | (subst hu; rfl) | (rcases hu with rfl | rfl <;> rfl))) (by first | omega | (simp only [List.length_take, List.length_drop, List.length_append]; omega)) (len_app (cs.take (((kk : Int) - 1)).toNat) (cs.drop (((kk : Int) - 1) + 1).toNat)) (flat_app cubC (cs.take (((kk : Int) - 1)).toNat) (cs.drop (((kk : Int) - 1) + 1).toNat)) (fun _ => rfl) ?_
   intro v11
   refine hl_v rfl rfl rfl (rv_ev rfl) ?_
   refine hl_less (sx 0 rfl (sx 1 rfl (sx 2 rfl (sx 3 rfl (sx 4 rfl (sx 5 rfl (sx 8 rfl (sx 15 rfl (sub_nil _))))))))) (.refl _) ?_
   refine hl_nil ?_
   refine hq_then ?_
   refine hc_seq ?_
   have elf : (cs.take (((kk : Int) - 1)).toNat) ++ (cs.drop (((kk : Int) - 1) + 1).toNat) = lft cs (kk - 1) := by unfold lft; rw [show ((kk : Int) - 1).toNat = kk - 1 by omega, show (((kk : Int) - 1) + 1).toNat = kk - 1 + 1 by omega]
   rw [elf]
   have hll := lft_len (cs := cs) (k := kk - 1) (by omega)
   rcases Bool.eq_false_or_eq_true (eqA t.N (tbN (covB (lft cs (kk - 1))) (pn t.N) : Int) t.N t.B) with hb15 | hb15
   ·
    obtain ⟨hq1, hq2⟩ := eqA_yes hb15
    refine hc_draw (by kernel_rfl) 6 [0, 1, 2, 3, 4, 5] (List.take 6 _) (List.drop 6 _) [[], [0], [], [1, 2], [], [3, 4]] [28, 29, 30, 31, 32, 33] (fun i_ vs_ v_ p_ => match i_ with | 0 => v_ = .pointer (some ⟨b1, 0 + 0, none⟩) ∧ p_ = [] | 1 => v_ = .int .i64 t.N ∧ p_ = [] | 2 => v_ = v11 ∧ p_ = [] | 3 => (fun u_ p_ => u_ = .agg #[.int .i64 t.N, .int .i64 (tbN (covB (lft cs (kk - 1))) (pn t.N) : Int)] ∧ p_ = []) v_ p_ | 4 => v_ = .agg #[.int .i64 t.N, .int .i64 t.B] ∧ p_ = [] | 5 => v_ = .bool true ∧ p_ = [] | _ => True) (List.take_append_drop 6 _).symm (by kernel_rfl) (by kernel_rfl) rfl rfl ?_ ?_
    ·
     refine ⟨?_, ?_, ?_, ?_, ?_, ?_, trivial⟩
     ·
      intro vf pf hR
      refine Or.inl ⟨rfl, ?_⟩
      refine rq_less (sx 1 rfl (sub_nil _)) (List.sublist_append_right _ _) ?_
      exact rq_v (rv_field (k0 := 0) rfl (by kernel_rfl) rfl)
     ·
      intro vf pf hR
      have e0 : (vf 0) = .pointer (some ⟨b1, 0 + 0, none⟩) ∧ (pf 0) = [] := hR 0 (by decide)
      refine Or.inl ⟨rfl, ?_⟩
      refine rq_less (sx 28 (congrArg some e0.1) (sub_nil _)) (List.sublist_append_right _ _) ?_
      exact rq_v (rv_load rfl (by kernel_rfl) rfl (box_cell 2 rfl rfl))
     ·
      intro vf pf hR
      refine Or.inl ⟨rfl, ?_⟩
      refine rq_less (sx 5 rfl (sub_nil _)) (List.sublist_append_right _ _) ?_
      exact rq_v (rv_ev rfl)
     ·
      intro vf pf hR
      have e1 : (vf 1) = .int .i64 t.N ∧ (pf 1) = [] := hR 1 (by decide)
      have e2 : (vf 2) = v11 ∧ (pf 2) = [] := hR 2 (by decide)
      refine Or.inl ⟨rfl, ?_⟩
      refine rq_less (sx 29 (congrArg some e1.1) (sx 30 (congrArg some e2.1) (sub_nil _))) (List.sublist_append_right _ _) ?_
      exact rq_call (by kernel_rfl) rfl (fun w hm => CoverTable_ret t.N (lft cs (kk - 1)) _ w hn ((rd_row 0 rfl) w hm) (by omega) (fun d hd => hmn.ok d (lft_mem hd)))
     ·
      intro vf pf hR
      refine Or.inl ⟨rfl, ?_⟩
      refine rq_less (sx 1 rfl (sub_nil _)) (List.sublist_append_right _ _) ?_
      exact rq_v (rv_loadN (cs := [.int .i64 t.N, .int .i64 t.B]) rfl (by kernel_rfl) (by kernel_rfl) rfl rfl (box_part 2 rfl 0 rfl))
     ·
      intro vf pf hR
      have e3 : (fun u_ p_ => u_ = .agg #[.int .i64 t.N, .int .i64 (tbN (covB (lft cs (kk - 1))) (pn t.N) : Int)] ∧ p_ = []) (vf 3) (pf 3) := hR 3 (by decide)
      obtain ⟨v16, v3⟩ : ∃ x, vf 3 = x := ⟨_, rfl⟩
      obtain ⟨p17, p3⟩ : ∃ x, pf 3 = x := ⟨_, rfl⟩
      have hR18 := e3
      rw [v3, p3] at hR18
      obtain ⟨rfl, rfl⟩ := hR18
      have e4 : (vf 4) = .agg #[.int .i64 t.N, .int .i64 t.B] ∧ (pf 4) = [] := hR 4 (by decide)
      refine Or.inl ⟨rfl, ?_⟩
      refine rq_less (sx 31 (congrArg some v3) (sx 32 (congrArg some e4.1) (sub_nil _))) (List.sublist_append_right _ _) ?_
      exact rq_mono (rq_v (rv_eqT rfl rfl rfl)) (fun _ _ h => ⟨h.1.trans (congrArg Value.bool hb15), h.2⟩)
    ·
     intro vf pf hR
     have e3 : (fun u_ p_ => u_ = .agg #[.int .i64 t.N, .int .i64 (tbN (covB (lft cs (kk - 1))) (pn t.N) : Int)] ∧ p_ = []) (vf 3) (pf 3) := hR 3 (by decide)
     obtain ⟨v16, v3⟩ : ∃ x, vf 3 = x := ⟨_, rfl⟩
     obtain ⟨p17, p3⟩ : ∃ x, pf 3 = x := ⟨_, rfl⟩
     have hR18 := e3
     rw [v3, p3] at hR18
     obtain ⟨rfl, rfl⟩ := hR18
     have e5 : (vf 5) = .bool true ∧ (pf 5) = [] := hR 5 (by decide)
     refine hl_less (l' := [rowE 139 2 v11 ((lft cs (kk - 1)).length) ((lft cs (kk - 1)).flatMap cubC), rowE 139 2 u cs.length (cs.flatMap cubC), boxE b1 #[.int .i64 t.N, .int .i64 t.B] 55]) (sx 0 rfl (sx 1 rfl (sx 2 rfl (sx 3 rfl (sx 4 rfl (sx 5 rfl (sx 8 rfl (sx 15 rfl (sx 33 (congrArg some e5.1) (sub_nil _)))))))))) (List.sublist_append_right _ _) ?_
     simp only [List.drop_succ_cons, List.drop_zero]
     refine hl_less (sx 0 rfl (sx 1 rfl (sx 2 rfl (sx 3 rfl (sx 4 rfl (sx 5 rfl (sx 8 rfl (sx 15 rfl (sx 33 rfl (sub_nil _)))))))))) (.refl _) ?_
     refine hl_nil ?_
     refine hq_then ?_
     refine hc_true rfl ?_
     refine hc_region ?_
     refine hl_v rfl rfl rfl (rv_ev rfl) ?_
     refine hl_v rfl rfl rfl (rv_ev rfl) ?_
     refine hl_less (sx 0 rfl (sx 1 rfl (sx 2 rfl (sx 3 rfl (sx 4 rfl (sx 5 rfl (sx 8 rfl (sx 15 rfl (sx 33 rfl (sub_nil _)))))))))) (.refl _) ?_
     refine hl_nil ?_
     refine hq_block_normal ?_
     refine hq_then ?_
     refine hc_region ?_
     refine hl_v rfl rfl rfl (rv_ev rfl) ?_
     refine hl_v rfl rfl rfl (rv_sub rfl rfl rfl (by constructor <;> omega)) ?_
     refine hl_v rfl rfl rfl (rv_ev rfl) ?_
     refine hl_less (sx 0 rfl (sx 1 rfl (sx 2 rfl (sx 3 rfl (sx 4 rfl (sx 5 rfl (sx 8 rfl (sx 15 rfl (sx 33 rfl (sub_nil _)))))))))) (.refl _) ?_
     refine hl_nil ?_
     exact hq_round3 (kk - 1) v11 (lft cs (kk - 1)) ⟨by have := lft_len (cs := cs) (k := kk - 1) (by omega); omega, min_drop (by rw [show kk - 1 + 1 = kk by omega]; exact hmn) (by omega) ((tab_eq ht).1 hq2), by have := lft_len (cs := cs) (k := kk - 1) (by omega); omega⟩ (by omega) (sx 0 rfl (sx 1 rfl (sx 2 rfl (sx 3 rfl (sx 4 (congrArg (fun x => some (Value.int .i64 x)) (by omega)) (sx 8 rfl (sub_nil _))))))) ((.cons_cons _ (.cons _ (.cons_cons _ .slnil))))
   ·
    refine hc_draw (by kernel_rfl) 6 [0, 1, 2, 3, 4, 5] (List.take 6 _) (List.drop 6 _) [[], [0], [], [1, 2], [], [3, 4]] [28, 29, 30, 31, 32, 33] (fun i_ vs_ v_ p_ => match i_ with | 0 => v_ = .pointer (some ⟨b1, 0 + 0, none⟩) ∧ p_ = [] | 1 => v_ = .int .i64 t.N ∧ p_ = [] | 2 => v_ = v11 ∧ p_ = [] | 3 => (fun u_ p_ => u_ = .agg #[.int .i64 t.N, .int .i64 (tbN (covB (lft cs (kk - 1))) (pn t.N) : Int)] ∧ p_ = []) v_ p_ | 4 => v_ = .agg #[.int .i64 t.N, .int .i64 t.B] ∧ p_ = [] | 5 => v_ = .bool false ∧ p_ = [] | _ => True) (List.take_append_drop 6 _).symm (by kernel_rfl) (by kernel_rfl) rfl rfl ?_ ?_
    ·
     refine ⟨?_, ?_, ?_, ?_, ?_, ?_, trivial⟩
     ·
      intro vf pf hR
      refine Or.inl ⟨rfl, ?_⟩
      refine rq_less (sx 1 rfl (sub_nil _)) (List.sublist_append_right _ _) ?_
      exact rq_v (rv_field (k0 := 0) rfl (by kernel_rfl) rfl)
     ·
      intro vf pf hR
      have e0 : (vf 0) = .pointer (some ⟨b1, 0 + 0, none⟩) ∧ (pf 0) = [] := hR 0 (by decide)
      refine Or.inl ⟨rfl, ?_⟩
      refine rq_less (sx 28 (congrArg some e0.1) (sub_nil _)) (List.sublist_append_right _ _) ?_
      exact rq_v (rv_load rfl (by kernel_rfl) rfl (box_cell 2 rfl rfl))
     ·
      intro vf pf hR
      refine Or.inl ⟨rfl, ?_⟩
      refine rq_less (sx 5 rfl (sub_nil _)) (List.sublist_append_right _ _) ?_
      exact rq_v (rv_ev rfl)
     ·
      intro vf pf hR
      have e1 : (vf 1) = .int .i64 t.N ∧ (pf 1) = [] := hR 1 (by decide)
      have e2 : (vf 2) = v11 ∧ (pf 2) = [] := hR 2 (by decide)
      refine Or.inl ⟨rfl, ?_⟩
      refine rq_less (sx 29 (congrArg some e1.1) (sx 30 (congrArg some e2.1) (sub_nil _))) (List.sublist_append_right _ _) ?_
      exact rq_call (by kernel_rfl) rfl (fun w hm => CoverTable_ret t.N (lft cs (kk - 1)) _ w hn ((rd_row 0 rfl) w hm) (by omega) (fun d hd => hmn.ok d (lft_mem hd)))
     ·
      intro vf pf hR
      refine Or.inl ⟨rfl, ?_⟩
      refine rq_less (sx 1 rfl (sub_nil _)) (List.sublist_append_right _ _) ?_
      exact rq_v (rv_loadN (cs := [.int .i64 t.N, .int .i64 t.B]) rfl (by kernel_rfl) (by kernel_rfl) rfl rfl (box_part 2 rfl 0 rfl))
     ·
      intro vf pf hR
      have e3 : (fun u_ p_ => u_ = .agg #[.int .i64 t.N, .int .i64 (tbN (covB (lft cs (kk - 1))) (pn t.N) : Int)] ∧ p_ = []) (vf 3) (pf 3) := hR 3 (by decide)
      obtain ⟨v19, v3⟩ : ∃ x, vf 3 = x := ⟨_, rfl⟩
      obtain ⟨p20, p3⟩ : ∃ x, pf 3 = x := ⟨_, rfl⟩
      have hR21 := e3
      rw [v3, p3] at hR21
      obtain ⟨rfl, rfl⟩ := hR21
      have e4 : (vf 4) = .agg #[.int .i64 t.N, .int .i64 t.B] ∧ (pf 4) = [] := hR 4 (by decide)
      refine Or.inl ⟨rfl, ?_⟩
      refine rq_less (sx 31 (congrArg some v3) (sx 32 (congrArg some e4.1) (sub_nil _))) (List.sublist_append_right _ _) ?_
      exact rq_mono (rq_v (rv_eqT rfl rfl rfl)) (fun _ _ h => ⟨h.1.trans (congrArg Value.bool hb15), h.2⟩)
    ·
     intro vf pf hR
     have e3 : (fun u_ p_ => u_ = .agg #[.int .i64 t.N, .int .i64 (tbN (covB (lft cs (kk - 1))) (pn t.N) : Int)] ∧ p_ = []) (vf 3) (pf 3) := hR 3 (by decide)
     obtain ⟨v19, v3⟩ : ∃ x, vf 3 = x := ⟨_, rfl⟩
     obtain ⟨p20, p3⟩ : ∃ x, pf 3 = x := ⟨_, rfl⟩
     have hR21 := e3
     rw [v3, p3] at hR21
     obtain ⟨rfl, rfl⟩ := hR21
     have e5 : (vf 5) = .bool false ∧ (pf 5) = [] := hR 5 (by decide)
     refine hl_less (l' := [rowE 139 2 v11 ((lft cs (kk - 1)).length) ((lft cs (kk - 1)).flatMap cubC), rowE 139 2 u cs.length (cs.flatMap cubC), boxE b1 #[.int .i64 t.N, .int .i64 t.B] 55]) (sx 0 rfl (sx 1 rfl (sx 2 rfl (sx 3 rfl (sx 4 rfl (sx 5 rfl (sx 8 rfl (sx 15 rfl (sx 33 (congrArg some e5.1) (sub_nil _)))))))))) (List.sublist_append_right _ _) ?_
     simp only [List.drop_succ_cons, List.drop_zero]
     refine hl_less (sx 0 rfl (sx 1 rfl (sx 2 rfl (sx 3 rfl (sx 4 rfl (sx 5 rfl (sx 8 rfl (sx 15 rfl (sx 33 rfl (sub_nil _)))))))))) (.refl _) ?_
     refine hl_nil ?_
     refine hq_then ?_
     refine hc_false rfl ?_
     refine hc_skip ?_
     refine hq_block_normal ?_
     refine hq_then ?_
     refine hc_region ?_
     refine hl_v rfl rfl rfl (rv_ev rfl) ?_
     refine hl_v rfl rfl rfl (rv_sub rfl rfl rfl (by constructor <;> omega)) ?_
     refine hl_v rfl rfl rfl (rv_ev rfl) ?_
     refine hl_less (sx 0 rfl (sx 1 rfl (sx 2 rfl (sx 3 rfl (sx 4 rfl (sx 5 rfl (sx 8 rfl (sx 15 rfl (sx 33 rfl (sub_nil _)))))))))) (.refl _) ?_
     refine hl_nil ?_
     exact hq_round3 (kk - 1) u cs ⟨by omega, min_keep ht (by rw [show kk - 1 + 1 = kk by omega]; exact hmn) (by omega) (fun hh => by rw [eqA_no (((tab_eq ht).2 hh))] at hb15; cases hb15), hcl⟩ (by omega) (sx 0 rfl (sx 1 rfl (sx 2 rfl (sx 3 rfl (sx 4 (congrArg (fun x => some (Value.int .i64 x)) (by omega)) (sx 8 rfl (sub_nil _))))))) ((.cons _ (.cons_cons _ (.cons_cons _ .slnil))))
 ·
  refine hl_less (sx 0 rfl (sx 1 rfl (sx 2 rfl (sx 3 rfl (sx 4 rfl (sx 8 rfl (sx 15 rfl (sub_nil _)))))))) (.refl _) ?_
  refine hl_nil ?_
  refine hq_then ?_
  refine hc_false rfl ?_
  refine hc_exit ?_
  refine hq_then_exit ?_
  refine hq_then_exit ?_
  refine hq_block_exit ?_
  refine hq_then ?_
  refine hc_seq ?_
  refine hc_region ?_
  refine hl_v rfl rfl rfl (rv_ev rfl) ?_
  refine hl_v rfl rfl rfl (rv_ev rfl) ?_
  refine hl_less (sx 0 rfl (sx 1 rfl (sx 2 rfl (sx 3 rfl (sx 4 rfl (sx 8 rfl (sx 15 rfl (sub_nil _)))))))) (.refl _) ?_
  refine hl_nil ?_
  refine hq_then ?_
  refine hc_ret ?_
  have hk0 : kk = 0 := by omega
  subst hk0
  exact hq_retR (post := [rowE 139 2 u cs.length (cs.flatMap cubC)]) rfl rfl ((.cons_cons _ (.cons _ .slnil))) ⟨cs, rfl, hmn⟩
set_option maxHeartbeats 4000000 in
theorem built_seq (x0 : Int) (x1 : Int) (x2 : Value) (h2 : x2.oneCell' = true) : Try.prog.built 83 [(0, .int .i64 x0), (1, .int .i64 x1), (2, x2)] = some #[.int .i64 x0, .int .i64 x1, x2] := by
  (cases x2 <;> first | (exact absurd h2 Bool.false_ne_true) | kernel_rfl)
set_option maxHeartbeats 4000000 in
theorem built_net (x0 : Int) (x1 : Value) (x2 : Value) (x3 : Value) (h1 : x1.oneCell' = true) (h2 : x2.oneCell' = true) (h3 : x3.oneCell' = true) : Try.prog.built 28 [(0, .int .i64 x0), (1, x1), (2, x2), (3, x3)] = some #[.int .i64 x0, x1, x2, x3] := by
  (cases x1 <;> first | (exact absurd h1 Bool.false_ne_true) | (cases x2 <;> first | (exact absurd h2 Bool.false_ne_true) | (cases x3 <;> first | (exact absurd h3 Bool.false_ne_true) | kernel_rfl)))
set_option maxHeartbeats 4000000 in
set_option maxRecDepth 100000 in
theorem copySeqs_ret (ss : List Sq) (v : Value) (w : World) (hv : RdsW w v 3 ss.length (ss.flatMap sqC)) (hx : ∀ s ∈ ss, RdsW w s.iv 1 s.xs.length (s.xs.map (Value.int .i64))) (hl : ss.length ≤ 12) (h4 : ∀ s ∈ ss, s.xs.length ≤ 4) :
  Calls Try.prog 148 #[v] w (Ret w (fun u_ p_ => ∃ zs : List Sq, p_ = [sqsE u_ zs] ∧ zs.map Sq.val = ss.map Sq.val)) := by
 refine calls_hc (N := 25) (args := [v]) Try.func148 rfl rfl ?_
 refine hc_less _ (sx 0 rfl (sub_nil _)) (.refl _) ?_
 refine hc_seq ?_
 refine hc_region ?_
 refine hl_v rfl rfl rfl (rv_ev rfl) ?_
 refine hl_less (sx 0 rfl (sx 2 rfl (sub_nil _))) (.refl _) ?_
 refine hl_nil ?_
 refine hq_then ?_
 refine hc_seq ?_
 refine hc_region ?_
 refine hl_nilRow 83 3 ?_
 refine hl_eqL (l' := [rowE 83 3 (.slice none 0 0) (([] : List Sq).length) (([] : List Sq).flatMap sqC)]) rfl ?_
 refine hl_v rfl rfl rfl (rv_ev rfl) ?_
 refine hl_less (sx 0 rfl (sx 2 rfl (sx 3 rfl (sub_nil _)))) (.refl _) ?_
 refine hl_nil ?_
 refine hq_then ?_
 refine hc_seq ?_
 refine hc_seq ?_
 refine hc_region ?_
 refine hl_v rfl rfl rfl (rv_ev rfl) ?_
 refine hl_v rfl rfl rfl (rv_len rfl Try.underlying24 rfl (rd_old hv)) ?_
 refine hl_v rfl rfl rfl (rv_ev rfl) ?_
 refine hl_less (sx 0 rfl (sx 2 rfl (sx 3 rfl (sx 6 rfl (sx 7 rfl (sx 8 rfl (sub_nil _))))))) (.refl _) ?_
 refine hl_nil ?_
 refine hq_then ?_
 refine hc_block ?_
 refine hc_conv [bigE (([] : List Sq).map sqPart), rowE 83 3 (.slice none 0 0) (([] : List Sq).length) (([] : List Sq).flatMap sqC)] (fun w hm => Mem.big (ps := []) hm) ?_
 refine hc_loop3 (α := Nat) (β := Value) (γ := List Sq) (fun i u zs => [bigE (zs.map sqPart), rowE 83 3 u zs.length (zs.flatMap sqC)]) (fun i u zs => [(0, v), (2, .slice none 0 0), (3, u), (6, v), (7, .int .i64 (ss.length : Int)), (8, .int .i64 (i : Int))]) (fun i u zs => i ≤ ss.length ∧ zs.map Sq.val = (ss.take i).map Sq.val) (fun i u zs => ss.length - i) 0 _ [] ⟨by omega, by simp⟩ (sx 0 rfl (sx 2 rfl (sx 3 rfl (sx 6 rfl (sx 7 rfl (sx 8 rfl (sub_nil _))))))) ((.cons_cons _ (.cons_cons _ .slnil))) ?_
 intro i u zs hi2
 obtain ⟨hi, hz⟩ := hi2
 have hzl : zs.length = i := by simpa [Nat.min_eq_left hi] using congrArg List.length hz
 refine hc_seq ?_
 refine hc_region ?_
 refine hl_lss rfl rfl rfl rfl rfl rfl (fun h3 => ?_) (fun h3 => ?_)
 ·
  refine hl_less (sx 0 rfl (sx 2 rfl (sx 3 rfl (sx 6 rfl (sx 7 rfl (sx 8 rfl (sx 9 rfl (sub_nil _)))))))) (.refl _) ?_
  refine hl_nil ?_
  refine hq_then ?_
  refine hc_seq ?_
  refine hc_true rfl ?_
  refine hc_skip ?_
  refine hq_then ?_
  refine hc_seq ?_
  refine hc_block ?_
  refine hc_seq ?_
  refine hc_region ?_
  refine hl_v rfl rfl rfl (rv_index (s := 3) rfl Try.underlying24 (by kernel_rfl) rfl rfl (rd_old hv) (by omega) (by first | omega | (simp only [List.length_set]; omega))) ?_
  refine hl_v rfl rfl rfl (rv_loadElN (us := [.int .i64 ((ss.getD i sq0).kd), .int .i64 ((ss.getD i sq0).it), (ss.getD i sq0).iv]) rfl (by kernel_rfl) (by kernel_rfl) rfl (rd_old hv) (by omega) rfl (flat_atN sqC 3 (fun _ => rfl) ss sq0 (show i < _ by first | omega | (simp only [List.length_set]; omega)) rfl)) ?_
  refine hl_box rfl rfl rfl (rq_alloc (z := .agg #[.int .i64 0, .int .i64 0, .slice none 0 0]) rfl (by kernel_rfl)) ?_
  intro b4
  refine hl_storeBoxN (i := 0) (off := 0) (us := [.int .i64 ((ss.getD i sq0).kd), .int .i64 ((ss.getD i sq0).it), (ss.getD i sq0).iv]) (l' := [boxE b4 #[.int .i64 ((ss.getD i sq0).kd), .int .i64 ((ss.getD i sq0).it), (ss.getD i sq0).iv] 83, bigE (zs.map sqPart), rowE 83 3 u zs.length (zs.flatMap sqC)]) rfl rfl rfl (by kernel_rfl) rfl rfl rfl (all_cons rfl (all_cons rfl (all_cons (hx _ (getD_memX (d := sq0) (show i < ss.length by omega))).one all_nil))) rfl rfl rfl ?_
  refine hl_less (sx 0 rfl (sx 2 rfl (sx 3 rfl (sx 5 rfl (sx 6 rfl (sx 7 rfl (sx 8 rfl (sx 9 rfl (sub_nil _))))))))) (.refl _) ?_
  refine hl_nil ?_
  refine hq_then ?_
  have h44 := h4 _ (getD_memX (d := sq0) (show i < ss.length by omega))
  refine hc_draw (by kernel_rfl) 10 [0, 1, 2, 3, 4, 5, 6, 7, 8, 9] (List.take 10 _) (List.drop 10 _) [[], [], [1], [], [3], [], [5], [6], [2, 4, 7], [7, 8]] [12, 13, 14, 15, 16, 17, 18, 19, 20, 21] (fun i_ vs_ v_ p_ => match i_ with | 0 => v_ = u ∧ p_ = [] | 1 => v_ = .pointer (some ⟨b4, 0 + 0, none⟩) ∧ p_ = [] | 2 => v_ = .int .i64 ((ss.getD i sq0).kd) ∧ p_ = [] | 3 => v_ = .pointer (some ⟨b4, 0 + 1, none⟩) ∧ p_ = [] | 4 => v_ = .int .i64 ((ss.getD i sq0).it) ∧ p_ = [] | 5 => v_ = .pointer (some ⟨b4, 0 + 2, none⟩) ∧ p_ = [] | 6 => v_ = (ss.getD i sq0).iv ∧ p_ = [] | 7 => (fun v' post => post = [rowE 3 1 v' ((ss.getD i sq0).xs).length (((ss.getD i sq0).xs).map (Value.int .i64))]) v_ p_ | 8 => v_ = .agg #[.int .i64 ((ss.getD i sq0).kd), .int .i64 ((ss.getD i sq0).it), (List.getD vs_ 2 undef)] ∧ p_ = [] | 9 => IsRow_o 83 3 1 ([.int .i64 ((ss.getD i sq0).kd), .int .i64 ((ss.getD i sq0).it), (List.getD vs_ 0 undef)]) v_ p_ | _ => True) (List.take_append_drop 10 _).symm (by kernel_rfl) (by kernel_rfl) rfl rfl ?_ ?_
  ·
   refine ⟨?_, ?_, ?_, ?_, ?_, ?_, ?_, ?_, ?_, ?_, trivial⟩
   ·
    intro vf pf hR
    refine Or.inl ⟨rfl, ?_⟩
    refine rq_less (sx 3 rfl (sub_nil _)) (List.sublist_append_right _ _) ?_
    exact rq_v (rv_ev rfl)
   ·
    intro vf pf hR
    refine Or.inl ⟨rfl, ?_⟩
    refine rq_less (sx 5 rfl (sub_nil _)) (List.sublist_append_right _ _) ?_
    exact rq_v (rv_field (k0 := 0) rfl (by kernel_rfl) rfl)
   ·
    intro vf pf hR
    have e1 : (vf 1) = .pointer (some ⟨b4, 0 + 0, none⟩) ∧ (pf 1) = [] := hR 1 (by decide)
    refine Or.inl ⟨rfl, ?_⟩
    refine rq_less (sx 13 (congrArg some e1.1) (sub_nil _)) (List.sublist_append_right _ _) ?_
    exact rq_v (rv_load rfl (by kernel_rfl) rfl (box_cell 0 rfl rfl))
   ·
    intro vf pf hR
    refine Or.inl ⟨rfl, ?_⟩
    refine rq_less (sx 5 rfl (sub_nil _)) (List.sublist_append_right _ _) ?_
    exact rq_v (rv_field (k0 := 1) rfl (by kernel_rfl) rfl)
   ·
    intro vf pf hR
    have e3 : (vf 3) = .pointer (some ⟨b4, 0 + 1, none⟩) ∧ (pf 3) = [] := hR 3 (by decide)
    refine Or.inl ⟨rfl, ?_⟩
    refine rq_less (sx 15 (congrArg some e3.1) (sub_nil _)) (List.sublist_append_right _ _) ?_
    exact rq_v (rv_load rfl (by kernel_rfl) rfl (box_cell 0 rfl rfl))
   ·
    intro vf pf hR
    refine Or.inl ⟨rfl, ?_⟩
    refine rq_less (sx 5 rfl (sub_nil _)) (List.sublist_append_right _ _) ?_
    exact rq_v (rv_field (k0 := 2) rfl (by kernel_rfl) rfl)
   ·
    intro vf pf hR
    have e5 : (vf 5) = .pointer (some ⟨b4, 0 + 2, none⟩) ∧ (pf 5) = [] := hR 5 (by decide)
    refine Or.inl ⟨rfl, ?_⟩
    refine rq_less (sx 17 (congrArg some e5.1) (sub_nil _)) (List.sublist_append_right _ _) ?_
    exact rq_v (rv_load rfl (by kernel_rfl) rfl (box_cell 0 rfl rfl))
   ·
    intro vf pf hR
    have e6 : (vf 6) = (ss.getD i sq0).iv ∧ (pf 6) = [] := hR 6 (by decide)
    refine Or.inl ⟨rfl, ?_⟩
    refine rq_less (sx 18 (congrArg some e6.1) (sub_nil _)) (List.sublist_append_right _ _) ?_
    exact rq_call (by kernel_rfl) rfl (fun w hm => copyIntsN_ret ((ss.getD i sq0).xs) _ w ((rd_old (hx _ (getD_memX (d := sq0) (by omega)))) w hm) (by omega))
   ·
    intro vf pf hR
    have e2 : (vf 2) = .int .i64 ((ss.getD i sq0).kd) ∧ (pf 2) = [] := hR 2 (by decide)
    have e4 : (vf 4) = .int .i64 ((ss.getD i sq0).it) ∧ (pf 4) = [] := hR 4 (by decide)
    have e7 : (fun v' post => post = [rowE 3 1 v' ((ss.getD i sq0).xs).length (((ss.getD i sq0).xs).map (Value.int .i64))]) (vf 7) (pf 7) := hR 7 (by decide)
    obtain ⟨v5, v7⟩ : ∃ x, vf 7 = x := ⟨_, rfl⟩
    obtain ⟨p6, p7⟩ : ∃ x, pf 7 = x := ⟨_, rfl⟩
    have hR7 := e7
    rw [v7, p7] at hR7
    subst hR7
    refine Or.inl ⟨rfl, ?_⟩
    refine rq_less (l' := [rowE 3 1 v5 (((ss.getD i sq0).xs).length) (((ss.getD i sq0).xs).map (Value.int .i64)), boxE b4 #[.int .i64 ((ss.getD i sq0).kd), .int .i64 ((ss.getD i sq0).it), (ss.getD i sq0).iv] 83, bigE (zs.map sqPart), rowE 83 3 u zs.length (zs.flatMap sqC)]) (sx 14 (congrArg some e2.1) (sx 16 (congrArg some e4.1) (sx 19 (congrArg some v7) (sub_nil _)))) (by first | (simp only [p7, v7, e2.2, e4.2, List.flatMap_cons, List.flatMap_nil, List.append_nil, List.nil_append, List.cons_append]; exact List.Sublist.refl _) | simp [p7, v7, e2.2, e4.2]) ?_
    exact rq_mono (rq_v (rv_buildM (cs := #[.int .i64 ((ss.getD i sq0).kd), .int .i64 ((ss.getD i sq0).it), v5]) rfl rfl (fun w hm => built_seq ((ss.getD i sq0).kd) ((ss.getD i sq0).it) v5 ((rd_row 0 rfl w hm).one)))) (fun _ _ h => ⟨h.1.trans (by show _ = (.agg #[.int .i64 ((ss.getD i sq0).kd), .int .i64 ((ss.getD i sq0).it), (vf 7)] : Value); first | (rw [v7]; done) | (rw [v7]; rfl)), h.2⟩)
   ·
    intro vf pf hR
    have e7 : (fun v' post => post = [rowE 3 1 v' ((ss.getD i sq0).xs).length (((ss.getD i sq0).xs).map (Value.int .i64))]) (vf 7) (pf 7) := hR 7 (by decide)
    obtain ⟨v5, v7⟩ : ∃ x, vf 7 = x := ⟨_, rfl⟩
    obtain ⟨p6, p7⟩ : ∃ x, pf 7 = x := ⟨_, rfl⟩
    have hR7 := e7
    rw [v7, p7] at hR7
    subst hR7
    have e8 : (vf 8) = .agg #[.int .i64 ((ss.getD i sq0).kd), .int .i64 ((ss.getD i sq0).it), (vf 7)] ∧ (pf 8) = [] := hR 8 (by decide)
    rw [v7] at e8
    refine Or.inl ⟨rfl, ?_⟩
    refine rq_less (l' := [rowE 3 1 v5 (((ss.getD i sq0).xs).length) (((ss.getD i sq0).xs).map (Value.int .i64)), boxE b4 #[.int .i64 ((ss.getD i sq0).kd), .int .i64 ((ss.getD i sq0).it), (ss.getD i sq0).iv] 83, bigE (zs.map sqPart), rowE 83 3 u zs.length (zs.flatMap sqC)]) (sx 20 (congrArg some e8.1) (sub_nil _)) (by first | (simp only [p7, v7, e8.2, List.flatMap_cons, List.flatMap_nil, List.append_nil, List.nil_append, List.cons_append]; exact List.Sublist.refl _) | simp [p7, v7, e8.2]) ?_
    exact rq_mono (rq_buildSlice (z := .agg #[.int .i64 0, .int .i64 0, .slice none 0 0]) (s := 3) (cs := [.int .i64 ((ss.getD i sq0).kd), .int .i64 ((ss.getD i sq0).it), v5]) rfl Try.underlying24 (by kernel_rfl) (by decide) rfl (by kernel_rfl) rfl) (fun v_ p_ h => by show IsRow_o 83 3 1 ([.int .i64 ((ss.getD i sq0).kd), .int .i64 ((ss.getD i sq0).it), (vf 7)]) v_ p_; rw [v7]; exact h)
  ·
   intro vf pf hR
   have e0 : (vf 0) = u ∧ (pf 0) = [] := hR 0 (by decide)
   have e7 : (fun v' post => post = [rowE 3 1 v' ((ss.getD i sq0).xs).length (((ss.getD i sq0).xs).map (Value.int .i64))]) (vf 7) (pf 7) := hR 7 (by decide)
   obtain ⟨v5, v7⟩ : ∃ x, vf 7 = x := ⟨_, rfl⟩
   obtain ⟨p6, p7⟩ : ∃ x, pf 7 = x := ⟨_, rfl⟩
   have hR7 := e7
   rw [v7, p7] at hR7
   subst hR7
   have e9 : IsRow_o 83 3 1 ([.int .i64 ((ss.getD i sq0).kd), .int .i64 ((ss.getD i sq0).it), (vf 7)]) (vf 9) (pf 9) := hR 9 (by decide)
   rw [v7] at e9
   obtain ⟨g8, v9, p9⟩ := e9
   have q0 : (vf 0) = u ∧ (pf 0) = [] := hR 0 (by decide)
   have q1 : (vf 1) = .pointer (some ⟨b4, 0 + 0, none⟩) ∧ (pf 1) = [] := hR 1 (by decide)
   have q2 : (vf 2) = .int .i64 ((ss.getD i sq0).kd) ∧ (pf 2) = [] := hR 2 (by decide)
   have q3 : (vf 3) = .pointer (some ⟨b4, 0 + 1, none⟩) ∧ (pf 3) = [] := hR 3 (by decide)
   have q4 : (vf 4) = .int .i64 ((ss.getD i sq0).it) ∧ (pf 4) = [] := hR 4 (by decide)
   have q5 : (vf 5) = .pointer (some ⟨b4, 0 + 2, none⟩) ∧ (pf 5) = [] := hR 5 (by decide)
   have q6 : (vf 6) = (ss.getD i sq0).iv ∧ (pf 6) = [] := hR 6 (by decide)
   have q8 : (vf 8) = .agg #[.int .i64 ((ss.getD i sq0).kd), .int .i64 ((ss.getD i sq0).it), (vf 7)] ∧ (pf 8) = [] := hR 8 (by decide)
   refine hl_less (l' := [rowE 3 1 v5 (((ss.getD i sq0).xs).length) (((ss.getD i sq0).xs).map (Value.int .i64)), rowE 83 3 (.slice (some ⟨g8, 0, none⟩) 1 1) 1 ([.int .i64 ((ss.getD i sq0).kd), .int .i64 ((ss.getD i sq0).it), v5]), boxE b4 #[.int .i64 ((ss.getD i sq0).kd), .int .i64 ((ss.getD i sq0).it), (ss.getD i sq0).iv] 83, bigE (zs.map sqPart), rowE 83 3 u zs.length (zs.flatMap sqC)]) (sx 0 rfl (sx 2 rfl (sx 3 rfl (sx 5 rfl (sx 6 rfl (sx 7 rfl (sx 8 rfl (sx 9 rfl (sx 12 (congrArg some e0.1) (sx 21 (congrArg some v9) (sub_nil _))))))))))) (by first | (simp only [p7, v7, p9, v9, q0.2, q1.2, q2.2, q3.2, q4.2, q5.2, q6.2, q8.2, List.flatMap_cons, List.flatMap_nil, List.append_nil, List.nil_append, List.cons_append]; exact List.Sublist.refl _) | simp [p7, v7, p9, v9, q0.2, q1.2, q2.2, q3.2, q4.2, q5.2, q6.2, q8.2]) ?_
   simp only [List.drop_succ_cons, List.drop_zero]
   refine hl_one (i := 0) rfl (fun ho9 => ?_)
   refine hl_append (i := 4) (z := .agg #[.int .i64 0, .int .i64 0, .slice none 0 0]) (bytes := 40) (n' := (zs ++ [(Sq.mk ((ss.getD i sq0).kd) ((ss.getD i sq0).it) v5 ((ss.getD i sq0).xs))]).length) (xs' := ((zs ++ [(Sq.mk ((ss.getD i sq0).kd) ((ss.getD i sq0).it) v5 ((ss.getD i sq0).xs))]).flatMap sqC)) (L := fun v10 => [rowE 3 1 v5 (((ss.getD i sq0).xs).length) (((ss.getD i sq0).xs).map (Value.int .i64)), rowE 83 3 (.slice (some ⟨g8, 0, none⟩) 1 1) 1 ([.int .i64 ((ss.getD i sq0).kd), .int .i64 ((ss.getD i sq0).it), v5]), boxE b4 #[.int .i64 ((ss.getD i sq0).kd), .int .i64 ((ss.getD i sq0).it), (ss.getD i sq0).iv] 83, bigE (zs.map sqPart), rowE 83 3 v10 ((zs ++ [(Sq.mk ((ss.getD i sq0).kd) ((ss.getD i sq0).it) v5 ((ss.getD i sq0).xs))]).length) ((zs ++ [(Sq.mk ((ss.getD i sq0).kd) ((ss.getD i sq0).it) v5 ((ss.getD i sq0).xs))]).flatMap sqC)]) rfl rfl rfl rfl Try.underlying24 (by kernel_rfl) (by kernel_rfl) rfl rfl rfl (rd_row 1 rfl) (all_cons rfl (all_cons rfl (all_cons ho9 all_nil))) (by first | omega | (simp only [List.length_append, List.length_cons, List.length_nil]; omega)) (len_app zs [(Sq.mk ((ss.getD i sq0).kd) ((ss.getD i sq0).it) v5 ((ss.getD i sq0).xs))]) (flat_app1 sqC zs (Sq.mk ((ss.getD i sq0).kd) ((ss.getD i sq0).it) v5 ((ss.getD i sq0).xs)) _ rfl) (fun _ => rfl) ?_
   intro v10
   refine hl_v rfl rfl rfl (rv_ev rfl) ?_
   refine hl_less (sx 0 rfl (sx 2 rfl (sx 3 rfl (sx 5 rfl (sx 6 rfl (sx 7 rfl (sx 8 rfl (sx 9 rfl (sub_nil _))))))))) (.refl _) ?_
   refine hl_nil ?_
   refine hq_block_normal ?_
   refine hq_then ?_
   refine hc_region ?_
   refine hl_v rfl rfl rfl (rv_add rfl rfl rfl (by constructor <;> omega)) ?_
   refine hl_v rfl rfl rfl (rv_ev rfl) ?_
   refine hl_less (sx 0 rfl (sx 2 rfl (sx 3 rfl (sx 5 rfl (sx 6 rfl (sx 7 rfl (sx 8 rfl (sx 9 rfl (sub_nil _))))))))) (.refl _) ?_
   refine hl_nil ?_
   refine hq_conv [bigE (zs.map sqPart), rowE 3 1 v5 (((ss.getD i sq0).xs).length) (((ss.getD i sq0).xs).map (Value.int .i64)), rowE 83 3 (.slice (some ⟨g8, 0, none⟩) 1 1) 1 ([.int .i64 ((ss.getD i sq0).kd), .int .i64 ((ss.getD i sq0).it), v5]), boxE b4 #[.int .i64 ((ss.getD i sq0).kd), .int .i64 ((ss.getD i sq0).it), (ss.getD i sq0).iv] 83, rowE 83 3 v10 ((zs ++ [(Sq.mk ((ss.getD i sq0).kd) ((ss.getD i sq0).it) v5 ((ss.getD i sq0).xs))]).length) ((zs ++ [(Sq.mk ((ss.getD i sq0).kd) ((ss.getD i sq0).it) v5 ((ss.getD i sq0).xs))]).flatMap sqC)] (conv_pick (src := [rowE 3 1 v5 (((ss.getD i sq0).xs).length) (((ss.getD i sq0).xs).map (Value.int .i64)), rowE 83 3 (.slice (some ⟨g8, 0, none⟩) 1 1) 1 ([.int .i64 ((ss.getD i sq0).kd), .int .i64 ((ss.getD i sq0).it), v5]), boxE b4 #[.int .i64 ((ss.getD i sq0).kd), .int .i64 ((ss.getD i sq0).it), (ss.getD i sq0).iv] 83, bigE (zs.map sqPart), rowE 83 3 v10 ((zs ++ [(Sq.mk ((ss.getD i sq0).kd) ((ss.getD i sq0).it) v5 ((ss.getD i sq0).xs))]).length) ((zs ++ [(Sq.mk ((ss.getD i sq0).kd) ((ss.getD i sq0).it) v5 ((ss.getD i sq0).xs))]).flatMap sqC)]) (dst := [bigE (zs.map sqPart), rowE 3 1 v5 (((ss.getD i sq0).xs).length) (((ss.getD i sq0).xs).map (Value.int .i64)), rowE 83 3 (.slice (some ⟨g8, 0, none⟩) 1 1) 1 ([.int .i64 ((ss.getD i sq0).kd), .int .i64 ((ss.getD i sq0).it), v5]), boxE b4 #[.int .i64 ((ss.getD i sq0).kd), .int .i64 ((ss.getD i sq0).it), (ss.getD i sq0).iv] 83, rowE 83 3 v10 ((zs ++ [(Sq.mk ((ss.getD i sq0).kd) ((ss.getD i sq0).it) v5 ((ss.getD i sq0).xs))]).length) ((zs ++ [(Sq.mk ((ss.getD i sq0).kd) ((ss.getD i sq0).it) v5 ((ss.getD i sq0).xs))]).flatMap sqC)]) (l := []) [3, 0, 1, 2, 4] (by decide) rfl) ?_
   refine hq_conv [bigE ((zs ++ [(Sq.mk ((ss.getD i sq0).kd) ((ss.getD i sq0).it) v5 ((ss.getD i sq0).xs))]).map sqPart), rowE 83 3 (.slice (some ⟨g8, 0, none⟩) 1 1) 1 ([.int .i64 ((ss.getD i sq0).kd), .int .i64 ((ss.getD i sq0).it), v5]), boxE b4 #[.int .i64 ((ss.getD i sq0).kd), .int .i64 ((ss.getD i sq0).it), (ss.getD i sq0).iv] 83, rowE 83 3 v10 ((zs ++ [(Sq.mk ((ss.getD i sq0).kd) ((ss.getD i sq0).it) v5 ((ss.getD i sq0).xs))]).length) ((zs ++ [(Sq.mk ((ss.getD i sq0).kd) ((ss.getD i sq0).it) v5 ((ss.getD i sq0).xs))]).flatMap sqC)] (fun w hm => by rw [List.map_append]; exact conv_snocX w hm) ?_
   exact hq_round3 (i + 1) v10 (zs ++ [(Sq.mk ((ss.getD i sq0).kd) ((ss.getD i sq0).it) v5 ((ss.getD i sq0).xs))]) ⟨by omega, by rw [List.map_append, hz, take_snocG sq0 (show i < ss.length by omega), List.map_append]; rfl⟩ (by omega) (sx 0 rfl (sx 2 rfl (sx 3 rfl (sx 6 rfl (sx 7 rfl (sx 8 rfl (sub_nil _))))))) ((.cons_cons _ (.cons _ (.cons _ (.cons_cons _ .slnil)))))
 ·
  refine hl_less (sx 0 rfl (sx 2 rfl (sx 3 rfl (sx 6 rfl (sx 7 rfl (sx 8 rfl (sx 9 rfl (sub_nil _)))))))) (.refl _) ?_
  refine hl_nil ?_
  refine hq_then ?_
  refine hc_seq ?_
  refine hc_false rfl ?_
  refine hc_exit ?_
  refine hq_then_exit ?_
  refine hq_then_exit ?_
  refine hq_block_exit ?_
  refine hq_then ?_
  refine hc_seq ?_
  refine hc_region ?_
  refine hl_v rfl rfl rfl (rv_ev rfl) ?_
  refine hl_v rfl rfl rfl (rv_ev rfl) ?_
  refine hl_less (sx 0 rfl (sx 2 rfl (sx 3 rfl (sx 6 rfl (sx 7 rfl (sx 8 rfl (sx 9 rfl (sub_nil _)))))))) (.refl _) ?_
  refine hl_nil ?_
  refine hq_then ?_
  refine hc_ret ?_
  refine hq_conv [bigE (zs.map sqPart), rowE 83 3 u zs.length (zs.flatMap sqC)] (conv_pick (src := [bigE (zs.map sqPart), rowE 83 3 u zs.length (zs.flatMap sqC)]) (dst := [bigE (zs.map sqPart), rowE 83 3 u zs.length (zs.flatMap sqC)]) (l := []) [0, 1] (by decide) rfl) ?_
  refine hq_conv [sqsE u zs] (conv_big (ps := [bigE (zs.map sqPart), rowE 83 3 u zs.length (zs.flatMap sqC)])) ?_
  exact hq_retR (post := [sqsE u zs]) rfl rfl (.refl _) ⟨zs, rfl, by rw [hz, show i = ss.length by omega, List.take_length]⟩
theorem sqs_one {w0 : World} {l : List HP} {i : Nat} {v : Value} {es : List Sq} (hi : l[i]? = some (sqsE v es)) (w : World) (hm : Mem w0 l w) : v.oneCell' = true := by
  obtain ⟨b1, -⟩ := hm.holds _ (mem_at hi)
  exact (rdsW_own (b1 _ (List.mem_cons_of_mem _ List.mem_cons_self)).2).one
section
variable {P : Program} {N : Nat} {w0 : World} {l l' : List HP} {env : List (Nat × Value)} {Q : Post} {ops : Array Oper} {rest : List Oper}
theorem hl_sqs {i : Nat} {v : Value} {es : List Sq} (hi : l[i]? = some (sqsE v es)) (k : v.oneCell' = true → HL P N ops w0 l env rest Q) : HL P N ops w0 l env rest Q := hl_know (sqs_one hi) k
end
set_option maxHeartbeats 4000000 in
set_option maxRecDepth 100000 in
theorem copyNet_ret (n : Nt) (w : World) (hr : RdsNt w n) (hn : NtOk n) :
  Calls Try.prog 98 #[.agg #[.int .i64 n.ins, n.sv, n.av, n.ov]] w (Ret w (fun v_ p_ => ∃ n2 : Nt, v_ = n2.agg ∧ p_ = [sqsE n2.sv n2.ss, rowE 80 2 n2.av n2.gs.length (n2.gs.flatMap anC), rowE 3 1 n2.ov n2.os.length (n2.os.map (Value.int .i64))] ∧ Like n n2)) := by
 have hi0 := hn.i0
 have hi1 := hn.i1
 have hs1 := hn.s1
 have ha1 := hn.a1
 have ho1 := hn.o1
 have hcnt : n.cnt = 1 + n.ins + n.ss.length + n.gs.length := rfl
 have hfst : n.fst = 1 + n.ins + n.ss.length := rfl
 refine calls_hc (N := 16) (args := [.agg #[.int .i64 n.ins, n.sv, n.av, n.ov]]) Try.func98 rfl rfl ?_
 refine hc_less _ (sx 0 rfl (sub_nil _)) (.refl _) ?_
 refine hc_seq ?_
 refine hc_region ?_
 refine hl_box rfl rfl rfl (rq_box rfl rfl) ?_
 intro b1
 refine hl_box rfl rfl rfl (rq_alloc (z := .agg #[.int .i64 0, .slice none 0 0, .slice none 0 0, .slice none 0 0]) rfl (by kernel_rfl)) ?_
 intro b2
 refine hl_less (sx 0 rfl (sx 1 rfl (sx 2 rfl (sub_nil _)))) (.refl _) ?_
 refine hl_nil ?_
 refine hq_then ?_
 refine hc_seq ?_
 refine hc_draw3 (l := [boxE b2 #[.int .i64 0, .slice none 0 0, .slice none 0 0, .slice none 0 0] 28, boxE b1 #[.int .i64 n.ins, n.sv, n.av, n.ov] 28]) (by kernel_rfl) 12 [0, 1, 2, 3, 4, 5, 6, 7, 8, 9, 10, 11] (List.take 12 _) (List.drop 12 _) [[], [0], [], [2], [3], [], [], [6], [5, 7], [], [9], [10]] [some 3, some 4, some 5, some 6, some 7, some 8, some 9, some 10, some 11, some 12, some 13, some 14] (fun i_ vs_ v_ p_ => match i_ with | 0 => v_ = .pointer (some ⟨b1, 0 + 0, none⟩) ∧ p_ = [] | 1 => v_ = .int .i64 n.ins ∧ p_ = [] | 2 => v_ = .pointer (some ⟨b1, 0 + 1, none⟩) ∧ p_ = [] | 3 => v_ = n.sv ∧ p_ = [] | 4 => (fun u_ p_ => ∃ zs : List Sq, p_ = [sqsE u_ zs] ∧ zs.map Sq.val = n.ss.map Sq.val) v_ p_ | 5 => IsRow_o 80 2 0 ([]) v_ p_ | 6 => v_ = .pointer (some ⟨b1, 0 + 2, none⟩) ∧ p_ = [] | 7 => v_ = n.av ∧ p_ = [] | 8 => (∃ pm_, p_ = [pm_] ∧ (fun u_ p_ => p_ = rowE 80 2 u_ n.gs.length (n.gs.flatMap anC)) v_ pm_) | 9 => v_ = .pointer (some ⟨b1, 0 + 3, none⟩) ∧ p_ = [] | 10 => v_ = n.ov ∧ p_ = [] | 11 => (fun v' post => post = [rowE 3 1 v' (n.os).length ((n.os).map (Value.int .i64))]) v_ p_ | _ => True) [[], [0], [], [2], [3], [], [], [6], [7], [], [9], [10]] [none, none, none, none, none, none, none, none, some 5, none, none, none] [] [0, 1, 2, 3, 4, 6, 7, 8, 9, 10, 11] 14 (List.take_append_drop 12 _).symm (by kernel_rfl) (by kernel_rfl) (by kernel_rfl) rfl rfl ?_ ?_
 ·
  refine ⟨?_, ?_, ?_, ?_, ?_, ?_, ?_, ?_, ?_, ?_, ?_, ?_, trivial⟩
  ·
   intro vf pf hmu hR
   refine Or.inl ⟨rfl, ?_⟩
   show RunQ _ _ _ (([] : List Nat).flatMap pf ++ _) (envOf3 _ vf [] ++ _) _ _
   refine rq_less (sx 1 rfl (sub_nil _)) (List.sublist_append_right _ _) ?_
   exact rq_v (rv_field (k0 := 0) rfl (by kernel_rfl) rfl)
  ·
   intro vf pf hmu hR
   have e0 : (vf 0) = .pointer (some ⟨b1, 0 + 0, none⟩) ∧ (pf 0) = [] := hR 0 (by decide)
   refine Or.inl ⟨rfl, ?_⟩
   show RunQ _ _ _ (([0] : List Nat).flatMap pf ++ _) (envOf3 _ vf [0] ++ _) _ _
   refine rq_less (sx 3 (congrArg some e0.1) (sub_nil _)) (List.sublist_append_right _ _) ?_
   exact rq_v (rv_load rfl (by kernel_rfl) rfl (box_cell 1 rfl rfl))
  ·
   intro vf pf hmu hR
   refine Or.inl ⟨rfl, ?_⟩
   show RunQ _ _ _ (([] : List Nat).flatMap pf ++ _) (envOf3 _ vf [] ++ _) _ _
   refine rq_less (sx 1 rfl (sub_nil _)) (List.sublist_append_right _ _) ?_
   exact rq_v (rv_field (k0 := 1) rfl (by kernel_rfl) rfl)
  ·
   intro vf pf hmu hR
   have e2 : (vf 2) = .pointer (some ⟨b1, 0 + 1, none⟩) ∧ (pf 2) = [] := hR 2 (by decide)
   refine Or.inl ⟨rfl, ?_⟩
   show RunQ _ _ _ (([2] : List Nat).flatMap pf ++ _) (envOf3 _ vf [2] ++ _) _ _
   refine rq_less (sx 5 (congrArg some e2.1) (sub_nil _)) (List.sublist_append_right _ _) ?_
   exact rq_v (rv_load rfl (by kernel_rfl) rfl (box_cell 1 rfl rfl))
  ·
   intro vf pf hmu hR
   have e3 : (vf 3) = n.sv ∧ (pf 3) = [] := hR 3 (by decide)
   refine Or.inl ⟨rfl, ?_⟩
   show RunQ _ _ _ (([3] : List Nat).flatMap pf ++ _) (envOf3 _ vf [3] ++ _) _ _
   refine rq_less (sx 6 (congrArg some e3.1) (sub_nil _)) (List.sublist_append_right _ _) ?_
   exact rq_call (by kernel_rfl) rfl (fun w hm => copySeqs_ret n.ss _ w (hr.sq.below hm.bel) (fun s hs => (hr.xs s hs).below hm.bel) hs1 (fun s hs => (hn.sq s hs).len))
  ·
   intro vf pf hmu hR
   refine Or.inl ⟨rfl, ?_⟩
   show RunQ _ _ _ (([] : List Nat).flatMap pf ++ _) (envOf3 _ vf [] ++ _) _ _
   refine rq_less (sub_nil _) (List.sublist_append_right _ _) ?_
   exact rq_slice0 (s := 2) rfl Try.underlying25 (by kernel_rfl)
  ·
   intro vf pf hmu hR
   refine Or.inl ⟨rfl, ?_⟩
   show RunQ _ _ _ (([] : List Nat).flatMap pf ++ _) (envOf3 _ vf [] ++ _) _ _
   refine rq_less (sx 1 rfl (sub_nil _)) (List.sublist_append_right _ _) ?_
   exact rq_v (rv_field (k0 := 2) rfl (by kernel_rfl) rfl)
  ·
   intro vf pf hmu hR
   have e6 : (vf 6) = .pointer (some ⟨b1, 0 + 2, none⟩) ∧ (pf 6) = [] := hR 6 (by decide)
   refine Or.inl ⟨rfl, ?_⟩
   show RunQ _ _ _ (([6] : List Nat).flatMap pf ++ _) (envOf3 _ vf [6] ++ _) _ _
   refine rq_less (sx 9 (congrArg some e6.1) (sub_nil _)) (List.sublist_append_right _ _) ?_
   exact rq_v (rv_load rfl (by kernel_rfl) rfl (box_cell 1 rfl rfl))
  ·
   intro vf pf hmu hR
   have e5 : IsRow_o 80 2 0 ([]) (vf 5) (pf 5) := hR 5 (by decide)
   obtain ⟨g6, v5, p5⟩ := e5
   have e7 : (vf 7) = n.av ∧ (pf 7) = [] := hR 7 (by decide)
   refine Or.inl ⟨rfl, ?_⟩
   show RunM _ _ _ (pf 5) (([7] : List Nat).flatMap pf ++ _) (envOf3 _ vf [5, 7] ++ _) _ _
   rw [p5]; rw [v5]
   refine rm_less (X' := [boxE b2 #[.int .i64 0, .slice none 0 0, .slice none 0 0, .slice none 0 0] 28, boxE b1 #[.int .i64 n.ins, n.sv, n.av, n.ov] 28]) (sx 8 (congrArg some v5) (sx 10 (congrArg some e7.1) (sub_nil _))) (by first | (simp only [e7.2, List.flatMap_cons, List.flatMap_nil, List.append_nil, List.nil_append, List.cons_append]; exact List.Sublist.refl _) | simp [e7.2]) ?_
   exact rm_append (d := 0) (z := .agg #[.int .i64 0, .int .i64 0]) (bytes := 16) (n' := n.gs.length) (xs' := (n.gs.flatMap anC)) rfl Try.underlying25 (by kernel_rfl) (by kernel_rfl) rfl rfl (rd_old hr.an) (flat_onesG anC n.gs (fun r u hu => by simp [anC] at hu; first | (subst hu; rfl) | (rcases hu with rfl | rfl <;> rfl))) (by omega) (Nat.zero_add _) (List.nil_append _)
  ·
   intro vf pf hmu hR
   refine Or.inl ⟨rfl, ?_⟩
   show RunQ _ _ _ (([] : List Nat).flatMap pf ++ _) (envOf3 _ vf [] ++ _) _ _
   refine rq_less (sx 1 rfl (sub_nil _)) (List.sublist_append_right _ _) ?_
   exact rq_v (rv_field (k0 := 3) rfl (by kernel_rfl) rfl)
  ·
   intro vf pf hmu hR
   have e9 : (vf 9) = .pointer (some ⟨b1, 0 + 3, none⟩) ∧ (pf 9) = [] := hR 9 (by decide)
   refine Or.inl ⟨rfl, ?_⟩
   show RunQ _ _ _ (([9] : List Nat).flatMap pf ++ _) (envOf3 _ vf [9] ++ _) _ _
   refine rq_less (sx 12 (congrArg some e9.1) (sub_nil _)) (List.sublist_append_right _ _) ?_
   exact rq_v (rv_load rfl (by kernel_rfl) rfl (box_cell 1 rfl rfl))
  ·
   intro vf pf hmu hR
   have e10 : (vf 10) = n.ov ∧ (pf 10) = [] := hR 10 (by decide)
   refine Or.inl ⟨rfl, ?_⟩
   show RunQ _ _ _ (([10] : List Nat).flatMap pf ++ _) (envOf3 _ vf [10] ++ _) _ _
   refine rq_less (sx 13 (congrArg some e10.1) (sub_nil _)) (List.sublist_append_right _ _) ?_
   exact rq_call (by kernel_rfl) rfl (fun w hm => copyIntsN_ret n.os _ w ((rd_old hr.ou) w hm) (by omega))
 ·
  intro vf pf hmu hR
  have e1 : (vf 1) = .int .i64 n.ins ∧ (pf 1) = [] := hR 1 (by decide)
  have e4 : (fun u_ p_ => ∃ zs : List Sq, p_ = [sqsE u_ zs] ∧ zs.map Sq.val = n.ss.map Sq.val) (vf 4) (pf 4) := hR 4 (by decide)
  obtain ⟨v3, v4⟩ : ∃ x, vf 4 = x := ⟨_, rfl⟩
  obtain ⟨p4, p4⟩ : ∃ x, pf 4 = x := ⟨_, rfl⟩
  have hR5 := e4
  rw [v4, p4] at hR5
  obtain ⟨zhR5, rfl, chR5⟩ := hR5
  have e5 : IsRow_o 80 2 0 ([]) (vf 5) (pf 5) := hR 5 (by decide)
  obtain ⟨g6, v5, p5⟩ := e5
  have e8 : (∃ pm_, (pf 8) = [pm_] ∧ (fun u_ p_ => p_ = rowE 80 2 u_ n.gs.length (n.gs.flatMap anC)) (vf 8) pm_) := hR 8 (by decide)
  obtain ⟨p8, p8, hR9⟩ := e8
  obtain ⟨v7, v8⟩ : ∃ x, vf 8 = x := ⟨_, rfl⟩
  rw [v8] at hR9
  subst hR9
  have e11 : (fun v' post => post = [rowE 3 1 v' (n.os).length ((n.os).map (Value.int .i64))]) (vf 11) (pf 11) := hR 11 (by decide)
  obtain ⟨v10, v11⟩ : ∃ x, vf 11 = x := ⟨_, rfl⟩
  obtain ⟨p11, p11⟩ : ∃ x, pf 11 = x := ⟨_, rfl⟩
  have hR12 := e11
  rw [v11, p11] at hR12
  subst hR12
  have q0 : (vf 0) = .pointer (some ⟨b1, 0 + 0, none⟩) ∧ (pf 0) = [] := hR 0 (by decide)
  have q1 : (vf 1) = .int .i64 n.ins ∧ (pf 1) = [] := hR 1 (by decide)
  have q2 : (vf 2) = .pointer (some ⟨b1, 0 + 1, none⟩) ∧ (pf 2) = [] := hR 2 (by decide)
  have q3 : (vf 3) = n.sv ∧ (pf 3) = [] := hR 3 (by decide)
  have q6 : (vf 6) = .pointer (some ⟨b1, 0 + 2, none⟩) ∧ (pf 6) = [] := hR 6 (by decide)
  have q7 : (vf 7) = n.av ∧ (pf 7) = [] := hR 7 (by decide)
  have q9 : (vf 9) = .pointer (some ⟨b1, 0 + 3, none⟩) ∧ (pf 9) = [] := hR 9 (by decide)
  have q10 : (vf 10) = n.ov ∧ (pf 10) = [] := hR 10 (by decide)
  refine hl_less (l' := [sqsE v3 zhR5, rowE 80 2 v7 n.gs.length (n.gs.flatMap anC), rowE 3 1 v10 n.os.length (n.os.map (Value.int .i64)), boxE b2 #[.int .i64 0, .slice none 0 0, .slice none 0 0, .slice none 0 0] 28, boxE b1 #[.int .i64 n.ins, n.sv, n.av, n.ov] 28]) (sx 0 rfl (sx 1 rfl (sx 2 rfl (sx 4 (congrArg some e1.1) (sx 7 (congrArg some v4) (sx 11 (congrArg some v8) (sx 14 (congrArg some v11) (sub_nil _)))))))) (by first | (simp only [p4, v4, p8, v8, p11, v11, q0.2, q1.2, q2.2, q3.2, q6.2, q7.2, q9.2, q10.2, List.flatMap_cons, List.flatMap_nil, List.append_nil, List.nil_append, List.cons_append]; exact List.Sublist.refl _) | simp [p4, v4, p8, v8, p11, v11, q0.2, q1.2, q2.2, q3.2, q6.2, q7.2, q9.2, q10.2]) ?_
  simp only [List.drop_succ_cons, List.drop_zero]
  refine hl_v rfl rfl rfl (rv_buildM (cs := #[.int .i64 n.ins, v3, v7, v10]) rfl rfl (fun w hm => built_net n.ins v3 v7 v10 (sqs_one (i := 0) rfl w hm) ((rd_row 1 rfl w hm).one) ((rd_row 2 rfl w hm).one))) ?_
  refine hl_one (i := 2) rfl (fun ho13 => ?_)
  refine hl_one (i := 1) rfl (fun ho14 => ?_)
  refine hl_sqs (i := 0) rfl (fun ho15 => ?_)
  refine hl_storeBoxN (i := 3) (off := 0) (us := [.int .i64 n.ins, v3, v7, v10]) (l' := [sqsE v3 zhR5, rowE 80 2 v7 n.gs.length (n.gs.flatMap anC), rowE 3 1 v10 n.os.length (n.os.map (Value.int .i64)), boxE b2 #[.int .i64 n.ins, v3, v7, v10] 28, boxE b1 #[.int .i64 n.ins, n.sv, n.av, n.ov] 28]) rfl rfl rfl (by kernel_rfl) rfl rfl rfl (all_cons rfl (all_cons ho15 (all_cons ho14 (all_cons ho13 all_nil)))) rfl rfl rfl ?_
  refine hl_less (sx 0 rfl (sx 1 rfl (sx 2 rfl (sub_nil _)))) (.refl _) ?_
  refine hl_nil ?_
  refine hq_then ?_
  refine hc_ret ?_
  exact hq_retM (rs := [.cell 2 28]) (vs := [.agg #[.int .i64 n.ins, v3, v7, v10]]) (post := [sqsE v3 zhR5, rowE 80 2 v7 n.gs.length (n.gs.flatMap anC), rowE 3 1 v10 n.os.length (n.os.map (Value.int .i64))]) rfl ⟨⟨b2, 0, [.int .i64 n.ins, v3, v7, v10], rfl, rfl, by kernel_rfl, by kernel_rfl, box_part 3 rfl 0 rfl⟩, trivial⟩ rfl ((.cons_cons _ (.cons_cons _ (.cons_cons _ (.cons _ (.cons _ .slnil)))))) ⟨Nt.mk n.ins v3 v7 v10 zhR5 n.gs n.os, rfl, rfl, ⟨rfl, by simp, rfl, chR5⟩⟩
open Go.RowKit
theorem Like.lit {n n' : Nt} (h : Like n n') {l : Int} (hl : LtOk l n.cnt) : LtOk l (n'.fst + n'.gs.length) := by
  have : n'.fst + (n'.gs.length : Int) = n.cnt := h.cnt
  rw [this]; exact hl
set_option maxHeartbeats 4000000 in
set_option maxRecDepth 100000 in
theorem adding_ret (n : Nt) (ls : List Int) (lv : Value) (F : FuncId) (cs : List Value) (k : Nat) (f : (Int → Int) → Int) (w : World) (hr : RdsNt w n) (hn : NtOk n) (hlv : RdsW w lv 1 ls.length (ls.map (Value.int .i64))) (hls : ∀ q, q < ls.length → LtOk (ls.getD q 0) n.cnt) (hll : ls.length ≤ 100) (hgo : goesB Try.prog F = true) (hadd : ∀ (b : Nat) (n2 : Nt) (L : List HP) (w1 : World), Like n n2 → Mem w (netP b n2 n2.av n2.gs :: L) w1 → (∀ w2, Mem w L w2 → (RdsW w2 n2.sv 3 n2.ss.length (n2.ss.flatMap sqC) ∧ (∀ s ∈ n2.ss, RdsW w2 s.iv 1 s.xs.length (s.xs.map (Value.int .i64))) ∧ RdsW w2 n2.ov 1 n2.os.length (n2.os.map (Value.int .i64)))) → (n2.sv.oneCell' = true ∧ n2.ov.oneCell' = true) → Calls Try.prog F ([Value.pointer (some ⟨b, 0, none⟩)] ++ cs).toArray w1 (fun e_ w_ => ∃ v_ p_, e_ = .returned v_ ∧ (∃ z v g, v_ = .int .i64 z ∧ p_ = netP b n2 v g ∧ AddOk n2 n2.gs g z k f) ∧ Mem w (p_ :: L) w_)) :
  Calls Try.prog 72 #[.agg #[.int .i64 n.ins, n.sv, n.av, n.ov], lv, .func (.func F) #[] cs.toArray] w (Ret w (Added n k f)) := by
 have hi0 := hn.i0
 have hi1 := hn.i1
 have hs1 := hn.s1
 have ha1 := hn.a1
 have ho1 := hn.o1
 have hcnt : n.cnt = 1 + n.ins + n.ss.length + n.gs.length := rfl
 have hfst : n.fst = 1 + n.ins + n.ss.length := rfl
 refine calls_hc (N := 43) (args := [.agg #[.int .i64 n.ins, n.sv, n.av, n.ov], lv, .func (.func F) #[] cs.toArray]) Try.func72 rfl rfl ?_
 refine hc_less _ (sx 0 rfl (sx 1 rfl (sx 2 rfl (sub_nil _)))) (.refl _) ?_
 refine hc_seq ?_
 refine hc_region ?_
 refine hl_box rfl rfl rfl (rq_box rfl rfl) ?_
 intro b1
 refine hl_box rfl rfl rfl (rq_alloc (z := .agg #[.int .i64 0, .slice none 0 0, .slice none 0 0, .slice none 0 0]) rfl (by kernel_rfl)) ?_
 intro b2
 refine hl_v rfl rfl rfl (rv_ev rfl) ?_
 refine hl_less (sx 0 rfl (sx 1 rfl (sx 2 rfl (sx 3 rfl (sx 6 rfl (sx 7 rfl (sub_nil _))))))) (.refl _) ?_
 refine hl_nil ?_
 refine hq_then ?_
 refine hc_seq ?_
 refine hc_seq ?_
 refine hc_region ?_
 refine hl_v rfl rfl rfl (rv_loadN (cs := [.int .i64 n.ins, n.sv, n.av, n.ov]) rfl (by kernel_rfl) (by kernel_rfl) rfl rfl (box_part 1 rfl 0 rfl)) ?_
 refine hl_callV rfl rfl rfl (rq_call (by kernel_rfl) rfl (fun w hm => ret_ans (implNetOk_yes n w (hr.below hm.bel) hn))) ?_
 refine hl_v rfl rfl rfl (rv_ev rfl) ?_
 refine hl_less (sx 0 rfl (sx 1 rfl (sx 2 rfl (sx 3 rfl (sx 6 rfl (sx 7 rfl (sx 14 rfl (sub_nil _)))))))) (.refl _) ?_
 refine hl_nil ?_
 refine hq_then ?_
 refine hc_false rfl ?_
 refine hc_skip ?_
 refine hq_then ?_
 refine hc_seq ?_
 refine hc_seq ?_
 refine hc_region ?_
 refine hl_v rfl rfl rfl (rv_ev rfl) ?_
 refine hl_v rfl rfl rfl (rv_len rfl Try.underlying26 rfl (rd_old hlv)) ?_
 refine hl_v rfl rfl rfl (rv_ev rfl) ?_
 refine hl_less (sx 0 rfl (sx 1 rfl (sx 2 rfl (sx 3 rfl (sx 6 rfl (sx 7 rfl (sx 14 rfl (sx 17 rfl (sx 18 rfl (sx 19 rfl (sub_nil _))))))))))) (.refl _) ?_
 refine hl_nil ?_
 refine hq_then ?_
 refine hc_block ?_
 refine hc_loop1 (α := Nat) (fun q => [boxE b2 #[.int .i64 0, .slice none 0 0, .slice none 0 0, .slice none 0 0] 28, boxE b1 #[.int .i64 n.ins, n.sv, n.av, n.ov] 28]) (fun q => [(0, .agg #[.int .i64 n.ins, n.sv, n.av, n.ov]), (1, lv), (2, .func (.func F) #[] cs.toArray), (3, .pointer (some ⟨b1, 0, none⟩)), (6, .pointer (some ⟨b2, 0, none⟩)), (7, .int .i64 0), (14, .bool false), (17, lv), (18, .int .i64 (ls.length : Int)), (19, .int .i64 (q : Int))]) (fun q => q ≤ ls.length) (fun q => ls.length - q) 0 (Nat.zero_le _) (sx 0 rfl (sx 1 rfl (sx 2 rfl (sx 3 rfl (sx 6 rfl (sx 7 rfl (sx 14 rfl (sx 17 rfl (sx 18 rfl (sx 19 rfl (sub_nil _))))))))))) ((.cons_cons _ (.cons_cons _ .slnil))) ?_
 intro q hi3
 have hq := hi3
 refine hc_seq ?_
 refine hc_region ?_
 refine hl_lss rfl rfl rfl rfl rfl rfl (fun h4 => ?_) (fun h4 => ?_)
 ·
  refine hl_less (sx 0 rfl (sx 1 rfl (sx 2 rfl (sx 3 rfl (sx 6 rfl (sx 7 rfl (sx 14 rfl (sx 17 rfl (sx 18 rfl (sx 19 rfl (sx 20 rfl (sub_nil _)))))))))))) (.refl _) ?_
  refine hl_nil ?_
  refine hq_then ?_
  refine hc_seq ?_
  refine hc_true rfl ?_
  refine hc_skip ?_
  refine hq_then ?_
  refine hc_seq ?_
  refine hc_block ?_
  refine hc_seq ?_
  refine hc_region ?_
  refine hl_v rfl rfl rfl (rv_index (s := 1) rfl Try.underlying26 (by kernel_rfl) rfl rfl (rd_old hlv) (by omega) (by first | omega | (simp only [List.length_set]; omega))) ?_
  refine hl_v rfl rfl rfl (rv_loadEl (u := .int .i64 (ls.getD q 0)) rfl (by kernel_rfl) rfl (rd_old hlv) (ints_at1 (show _ < ls.length by first | omega | (simp only [List.length_set]; omega)))) ?_
  refine hl_v rfl rfl rfl (rv_ev rfl) ?_
  refine hl_less (sx 0 rfl (sx 1 rfl (sx 2 rfl (sx 3 rfl (sx 6 rfl (sx 7 rfl (sx 9 rfl (sx 14 rfl (sx 17 rfl (sx 18 rfl (sx 19 rfl (sx 20 rfl (sub_nil _))))))))))))) (.refl _) ?_
  refine hl_nil ?_
  refine hq_then ?_
  refine hc_seq ?_
  refine hc_region ?_
  refine hl_v rfl rfl rfl (rv_ev rfl) ?_
  have hlq := hls q (by omega)
  obtain ⟨hlq0, hlq1⟩ := hlq
  refine hl_v rfl rfl rfl (rv_loadN (cs := [.int .i64 n.ins, n.sv, n.av, n.ov]) rfl (by kernel_rfl) (by kernel_rfl) rfl rfl (box_part 1 rfl 0 rfl)) ?_
  refine hl_callV rfl rfl rfl (rq_call (by kernel_rfl) rfl (fun w hm => ret_ans (implnodeCount_yes n w (hr.below hm.bel) hn))) ?_
  refine hl_v rfl rfl rfl (rv_mul rfl rfl rfl (by constructor <;> omega)) ?_
  refine hl_v rfl rfl rfl (rv_sub rfl rfl rfl (by constructor <;> omega)) ?_
  refine hl_callV rfl rfl rfl (rq_call (by kernel_rfl) rfl (fun w hm => ret_ans (ans_of (inRange_any _ _ _ w)))) ?_
  refine hl_bool (fun h5 => ?_) (fun h5 => absurd ((((inR_iff _ _ _).2 (by omega))).symm.trans h5) (by decide))
  refine hl_v rfl rfl rfl (rv_ev rfl) ?_
  refine hl_less (sx 0 rfl (sx 1 rfl (sx 2 rfl (sx 3 rfl (sx 6 rfl (sx 7 rfl (sx 9 rfl (sx 14 rfl (sx 17 rfl (sx 18 rfl (sx 19 rfl (sx 20 rfl (sx 29 rfl (sub_nil _)))))))))))))) (.refl _) ?_
  refine hl_nil ?_
  refine hq_then ?_
  refine hc_false rfl ?_
  refine hc_skip ?_
  refine hq_block_normal ?_
  refine hq_then ?_
  refine hc_region ?_
  refine hl_v rfl rfl rfl (rv_add rfl rfl rfl (by constructor <;> omega)) ?_
  refine hl_v rfl rfl rfl (rv_ev rfl) ?_
  refine hl_less (sx 0 rfl (sx 1 rfl (sx 2 rfl (sx 3 rfl (sx 6 rfl (sx 7 rfl (sx 9 rfl (sx 14 rfl (sx 17 rfl (sx 18 rfl (sx 19 rfl (sx 20 rfl (sx 29 rfl (sub_nil _)))))))))))))) (.refl _) ?_
  refine hl_nil ?_
  exact hq_round1 (q + 1) (by omega) (by omega) (sx 0 rfl (sx 1 rfl (sx 2 rfl (sx 3 rfl (sx 6 rfl (sx 7 rfl (sx 14 rfl (sx 17 rfl (sx 18 rfl (sx 19 rfl (sub_nil _))))))))))) ((.cons_cons _ (.cons_cons _ .slnil)))
 ·
  refine hl_less (sx 0 rfl (sx 1 rfl (sx 2 rfl (sx 3 rfl (sx 6 rfl (sx 7 rfl (sx 14 rfl (sx 17 rfl (sx 18 rfl (sx 19 rfl (sx 20 rfl (sub_nil _)))))))))))) (.refl _) ?_
  refine hl_nil ?_
  refine hq_then ?_
  refine hc_seq ?_
  refine hc_false rfl ?_
  refine hc_exit ?_
  refine hq_then_exit ?_
  refine hq_then_exit ?_
  refine hq_block_exit ?_
  refine hq_then ?_
  refine hc_seq ?_
  refine hc_region ?_
  refine hl_v rfl rfl rfl (rv_loadN (cs := [.int .i64 n.ins, n.sv, n.av, n.ov]) rfl (by kernel_rfl) (by kernel_rfl) rfl rfl (box_part 1 rfl 0 rfl)) ?_
  refine hl_q rfl rfl rfl (rq_call (by kernel_rfl) rfl (fun w hm => copyNet_ret n w (hr.below hm.bel) hn)) ?_
  intro v6 p7 hR8
  obtain ⟨n2, rfl, rfl, hlk⟩ := hR8
  refine hl_sqs (i := 0) rfl (fun hosv => ?_)
  refine hl_one (i := 2) rfl (fun hoov => ?_)
  refine hl_box rfl rfl rfl (rq_alloc (z := .agg #[.int .i64 0, .slice none 0 0, .slice none 0 0, .slice none 0 0]) rfl (by kernel_rfl)) ?_
  intro b9
  refine hl_one (i := 2) rfl (fun ho10 => ?_)
  refine hl_storeBoxN (i := 0) (off := 0) (us := [.int .i64 n2.ins, n2.sv, n2.av, n2.ov]) (l' := [boxE b9 #[.int .i64 n2.ins, n2.sv, n2.av, n2.ov] 28, sqsE n2.sv n2.ss, rowE 80 2 n2.av n2.gs.length (n2.gs.flatMap anC), rowE 3 1 n2.ov n2.os.length (n2.os.map (Value.int .i64)), boxE b2 #[.int .i64 0, .slice none 0 0, .slice none 0 0, .slice none 0 0] 28, boxE b1 #[.int .i64 n.ins, n.sv, n.av, n.ov] 28]) rfl rfl rfl (by kernel_rfl) rfl rfl rfl (all_cons rfl (all_cons hosv (all_cons ho10 (all_cons hoov all_nil)))) rfl rfl rfl ?_
  refine hl_less (sx 0 rfl (sx 1 rfl (sx 2 rfl (sx 3 rfl (sx 6 rfl (sx 7 rfl (sx 10 rfl (sx 14 rfl (sx 17 rfl (sx 18 rfl (sx 19 rfl (sx 20 rfl (sub_nil _))))))))))))) (.refl _) ?_
  refine hl_nil ?_
  refine hq_then ?_
  refine hc_seq ?_
  refine hc_region ?_
  refine hl_v rfl rfl rfl (rv_ev rfl) ?_
  refine hl_conv [boxE b9 #[.int .i64 n2.ins, n2.sv, n2.av, n2.ov] 28, rowE 80 2 n2.av n2.gs.length (n2.gs.flatMap anC), sqsE n2.sv n2.ss, rowE 3 1 n2.ov n2.os.length (n2.os.map (Value.int .i64)), boxE b2 #[.int .i64 0, .slice none 0 0, .slice none 0 0, .slice none 0 0] 28, boxE b1 #[.int .i64 n.ins, n.sv, n.av, n.ov] 28] (conv_pick (src := [boxE b9 #[.int .i64 n2.ins, n2.sv, n2.av, n2.ov] 28, sqsE n2.sv n2.ss, rowE 80 2 n2.av n2.gs.length (n2.gs.flatMap anC), rowE 3 1 n2.ov n2.os.length (n2.os.map (Value.int .i64)), boxE b2 #[.int .i64 0, .slice none 0 0, .slice none 0 0, .slice none 0 0] 28, boxE b1 #[.int .i64 n.ins, n.sv, n.av, n.ov] 28]) (dst := [boxE b9 #[.int .i64 n2.ins, n2.sv, n2.av, n2.ov] 28, rowE 80 2 n2.av n2.gs.length (n2.gs.flatMap anC), sqsE n2.sv n2.ss, rowE 3 1 n2.ov n2.os.length (n2.os.map (Value.int .i64)), boxE b2 #[.int .i64 0, .slice none 0 0, .slice none 0 0, .slice none 0 0] 28, boxE b1 #[.int .i64 n.ins, n.sv, n.av, n.ov] 28]) (l := []) [0, 2, 1, 3, 4, 5] (by decide) rfl) ?_
  refine hl_conv [netP b9 n2 n2.av n2.gs, sqsE n2.sv n2.ss, rowE 3 1 n2.ov n2.os.length (n2.os.map (Value.int .i64)), boxE b2 #[.int .i64 0, .slice none 0 0, .slice none 0 0, .slice none 0 0] 28, boxE b1 #[.int .i64 n.ins, n.sv, n.av, n.ov] 28] (conv_big (ps := [boxE b9 #[.int .i64 n2.ins, n2.sv, n2.av, n2.ov] 28, rowE 80 2 n2.av n2.gs.length (n2.gs.flatMap anC)])) ?_
  refine hl_callMF (R := (fun v_ p_ => ∃ z v g, v_ = .int .i64 z ∧ p_ = netP b9 n2 v g ∧ AddOk n2 n2.gs g z k f)) 0 rfl rfl hgo rfl rfl rfl (fun L w hX hm => hadd b9 n2 L w hlk hm (fun w2 h2 => sq_reads (i := 0) (j := 1) rfl rfl w2 (hX w2 h2)) ⟨hosv, hoov⟩) ?_
  intro v11 p12 hR13
  obtain ⟨zhR13, vhR13, ghR13, rfl, rfl, ahR13⟩ := hR13
  obtain ⟨yhR13, -⟩ := id ahR13.lit
  refine hl_eqL (l' := [netP b9 n2 vhR13 ghR13, sqsE n2.sv n2.ss, rowE 3 1 n2.ov n2.os.length (n2.os.map (Value.int .i64)), boxE b2 #[.int .i64 0, .slice none 0 0, .slice none 0 0, .slice none 0 0] 28, boxE b1 #[.int .i64 n.ins, n.sv, n.av, n.ov] 28]) rfl ?_
  refine hl_v rfl rfl rfl (rv_ev rfl) ?_
  refine hl_less (sx 0 rfl (sx 1 rfl (sx 2 rfl (sx 3 rfl (sx 6 rfl (sx 7 rfl (sx 10 rfl (sx 11 rfl (sx 14 rfl (sx 17 rfl (sx 18 rfl (sx 19 rfl (sx 20 rfl (sub_nil _)))))))))))))) (.refl _) ?_
  refine hl_nil ?_
  refine hq_then ?_
  refine hc_seq ?_
  refine hc_seq ?_
  refine hc_region ?_
  refine hl_conv [boxE b9 #[.int .i64 n2.ins, n2.sv, vhR13, n2.ov] 28, rowE 80 2 vhR13 ghR13.length (ghR13.flatMap anC), sqsE n2.sv n2.ss, rowE 3 1 n2.ov n2.os.length (n2.os.map (Value.int .i64)), boxE b2 #[.int .i64 0, .slice none 0 0, .slice none 0 0, .slice none 0 0] 28, boxE b1 #[.int .i64 n.ins, n.sv, n.av, n.ov] 28] (conv_unbig (ps := [boxE b9 #[.int .i64 n2.ins, n2.sv, vhR13, n2.ov] 28, rowE 80 2 vhR13 ghR13.length (ghR13.flatMap anC)])) ?_
  refine hl_v rfl rfl rfl (rv_ev rfl) ?_
  refine hl_lss rfl rfl rfl rfl rfl rfl (fun h14 => absurd h14 (by omega)) (fun h14 => ?_)
  refine hl_less (sx 0 rfl (sx 1 rfl (sx 2 rfl (sx 3 rfl (sx 6 rfl (sx 7 rfl (sx 10 rfl (sx 11 rfl (sx 14 rfl (sx 17 rfl (sx 18 rfl (sx 19 rfl (sx 20 rfl (sx 38 rfl (sub_nil _))))))))))))))) (.refl _) ?_
  refine hl_nil ?_
  refine hq_then ?_
  refine hc_false rfl ?_
  refine hc_skip ?_
  refine hq_then ?_
  refine hc_seq ?_
  refine hc_region ?_
  refine hl_v rfl rfl rfl (rv_loadN (cs := [.int .i64 n2.ins, n2.sv, vhR13, n2.ov]) rfl (by kernel_rfl) (by kernel_rfl) rfl rfl (box_part 0 rfl 0 rfl)) ?_
  refine hl_v rfl rfl rfl (rv_ev rfl) ?_
  refine hl_one (i := 1) rfl (fun ho15 => ?_)
  refine hl_storeBoxN (i := 4) (off := 0) (us := [.int .i64 n2.ins, n2.sv, vhR13, n2.ov]) (l' := [boxE b9 #[.int .i64 n2.ins, n2.sv, vhR13, n2.ov] 28, rowE 80 2 vhR13 ghR13.length (ghR13.flatMap anC), sqsE n2.sv n2.ss, rowE 3 1 n2.ov n2.os.length (n2.os.map (Value.int .i64)), boxE b2 #[.int .i64 n2.ins, n2.sv, vhR13, n2.ov] 28, boxE b1 #[.int .i64 n.ins, n.sv, n.av, n.ov] 28]) rfl rfl rfl (by kernel_rfl) rfl rfl rfl (all_cons rfl (all_cons hosv (all_cons ho15 (all_cons hoov all_nil)))) rfl rfl rfl ?_
  refine hl_v rfl rfl rfl (rv_ev rfl) ?_
  refine hl_less (sx 0 rfl (sx 1 rfl (sx 2 rfl (sx 3 rfl (sx 6 rfl (sx 7 rfl (sx 10 rfl (sx 11 rfl (sx 14 rfl (sx 17 rfl (sx 18 rfl (sx 19 rfl (sx 20 rfl (sx 38 rfl (sub_nil _))))))))))))))) (.refl _) ?_
  refine hl_nil ?_
  refine hq_then ?_
  refine hc_ret ?_
  refine hq_oneX (i := 1) rfl (fun hoav => ?_)
  refine hq_conv [sqsE n2.sv n2.ss, rowE 80 2 vhR13 ghR13.length (ghR13.flatMap anC), rowE 3 1 n2.ov n2.os.length (n2.os.map (Value.int .i64)), boxE b9 #[.int .i64 n2.ins, n2.sv, vhR13, n2.ov] 28, boxE b2 #[.int .i64 n2.ins, n2.sv, vhR13, n2.ov] 28, boxE b1 #[.int .i64 n.ins, n.sv, n.av, n.ov] 28] (conv_pick (src := [boxE b9 #[.int .i64 n2.ins, n2.sv, vhR13, n2.ov] 28, rowE 80 2 vhR13 ghR13.length (ghR13.flatMap anC), sqsE n2.sv n2.ss, rowE 3 1 n2.ov n2.os.length (n2.os.map (Value.int .i64)), boxE b2 #[.int .i64 n2.ins, n2.sv, vhR13, n2.ov] 28, boxE b1 #[.int .i64 n.ins, n.sv, n.av, n.ov] 28]) (dst := [sqsE n2.sv n2.ss, rowE 80 2 vhR13 ghR13.length (ghR13.flatMap anC), rowE 3 1 n2.ov n2.os.length (n2.os.map (Value.int .i64)), boxE b9 #[.int .i64 n2.ins, n2.sv, vhR13, n2.ov] 28, boxE b2 #[.int .i64 n2.ins, n2.sv, vhR13, n2.ov] 28, boxE b1 #[.int .i64 n.ins, n.sv, n.av, n.ov] 28]) (l := []) [2, 1, 3, 0, 4, 5] (by decide) rfl) ?_
  refine hq_conv [ntE { n2 with av := vhR13, gs := ghR13 }, boxE b9 #[.int .i64 n2.ins, n2.sv, vhR13, n2.ov] 28, boxE b2 #[.int .i64 n2.ins, n2.sv, vhR13, n2.ov] 28, boxE b1 #[.int .i64 n.ins, n.sv, n.av, n.ov] 28] (conv_big (ps := [sqsE n2.sv n2.ss, rowE 80 2 vhR13 ghR13.length (ghR13.flatMap anC), rowE 3 1 n2.ov n2.os.length (n2.os.map (Value.int .i64))])) ?_
  exact hq_retM (rs := [.cell 6 28, .tmp 7]) (vs := [.agg #[.int .i64 n2.ins, n2.sv, vhR13, n2.ov], .int .i64 zhR13]) (post := [ntE { n2 with av := vhR13, gs := ghR13 }]) rfl ⟨⟨b2, 0, [.int .i64 n2.ins, n2.sv, vhR13, n2.ov], rfl, rfl, by kernel_rfl, by kernel_rfl, box_part 2 rfl 0 rfl⟩, rfl, trivial⟩ rfl ((.cons_cons _ (.cons _ (.cons _ (.cons _ .slnil))))) ⟨{ n2 with av := vhR13, gs := ghR13 }, zhR13, rfl, rfl, ⟨hosv, hoav, hoov⟩, Grow.make vhR13 hlk ahR13⟩
open Go.RowKit
theorem AddOk.more0 {n : Nt} {g0 g1 : List An} {s l : Int} {K : Nat} {f : (Int → Int) → Int} (h : AddOk n g0 g1 s K f) (h0 : NtOk (withG n g0)) (hl : LtOk l (n.fst + g0.length)) : LtOk l (n.fst + g1.length) := h.lits hl
theorem cov_stepA {n : Nt} {g g2 g3 : List An} {ls : List Int} {d : Nat × Nat} {p z l : Int} {K k : Nat} (hn : NtOk (withG n g)) (hp : AddOk n g g2 p K (cubF ls d k)) (hl : LtOk l (n.fst + g.length)) (ha : AddOk n g2 g3 z 1 (fAnd p l)) (hc : ((d.1 / 2 ^ k % 2 : Nat) : Int) ≠ 0) (he : litF ls d k = l) : AddOk n g g3 z (K + 1) (cubF ls d (k + 1)) := by
  rw [cub_and hc, he]; exact AddOk.gand hn hp hl ha
set_option maxHeartbeats 4000000 in
set_option maxRecDepth 100000 in
theorem addCover_mut (b : Nat) (n : Nt) (v : Value) (g : List An) (ls : List Int) (cs : List (Nat × Nat)) (lv cv : Value) (w0 : World) (l : List HP) (w : World) (hm0 : Mem w0 (netP b n v g :: l) w) (hn : NtOk (withG n g)) (hls : ∀ q, q < ls.length → LtOk (ls.getD q 0) (n.fst + g.length)) (hl4 : ls.length ≤ 4) (hok : CubsOk 16 cs) (hc81 : cs.length ≤ 57) (hl : g.length + 5 * cs.length ≤ 300) (hlv : RdsW w0 lv 1 ls.length (ls.map (Value.int .i64))) (hcv : RdsW w0 cv 2 cs.length (cs.flatMap cubC)) (hso : ∀ w, Mem w0 l w → RdsW w n.sv 3 n.ss.length (n.ss.flatMap sqC) ∧ (∀ s ∈ n.ss, RdsW w s.iv 1 s.xs.length (s.xs.map (Value.int .i64))) ∧ RdsW w n.ov 1 n.os.length (n.os.map (Value.int .i64))) (hone : n.sv.oneCell' = true ∧ n.ov.oneCell' = true) :
  Calls Try.prog 100 #[.pointer (some ⟨b, 0, none⟩), lv, cv] w (fun e_ w_ => ∃ v_ p_, e_ = .returned v_ ∧ (fun u_ p_ => ∃ z v_ g_, u_ = .int .i64 z ∧ p_ = netP b n v_ g_ ∧ AddOk n g g_ z (5 * cs.length) (covF ls cs cs.length)) v_ p_ ∧ Mem w0 (p_ :: l) w_) := by
 have hi0 : 0 ≤ n.ins := hn.i0
 have hi1 : n.ins ≤ 20 := hn.i1
 have hs1 : n.ss.length ≤ 12 := hn.s1
 have hf : n.fst = 1 + n.ins + n.ss.length := rfl
 refine calls_hcM (N := 57) (args := [.pointer (some ⟨b, 0, none⟩), lv, cv]) Try.func100 rfl rfl hm0 ?_
 refine hc_less _ (sx 0 rfl (sx 1 rfl (sx 2 rfl (sub_nil _)))) (.refl _) ?_
 refine hc_seq ?_
 refine hc_region ?_
 refine hl_v rfl rfl rfl (rv_ev rfl) ?_
 refine hl_less (sx 0 rfl (sx 1 rfl (sx 2 rfl (sx 6 rfl (sub_nil _))))) (.refl _) ?_
 refine hl_nil ?_
 refine hq_then ?_
 refine hc_seq ?_
 refine hc_region ?_
 refine hl_v rfl rfl rfl (rv_ev rfl) ?_
 refine hl_less (sx 0 rfl (sx 1 rfl (sx 2 rfl (sx 6 rfl (sx 7 rfl (sub_nil _)))))) (.refl _) ?_
 refine hl_nil ?_
 refine hq_then ?_
 refine hc_seq ?_
 refine hc_seq ?_
 refine hc_region ?_
 refine hl_v rfl rfl rfl (rv_ev rfl) ?_
 refine hl_v rfl rfl rfl (rv_len rfl Try.underlying62 rfl (rd_old hcv)) ?_
 refine hl_v rfl rfl rfl (rv_ev rfl) ?_
 refine hl_less (sx 0 rfl (sx 1 rfl (sx 2 rfl (sx 6 rfl (sx 7 rfl (sx 13 rfl (sx 14 rfl (sx 15 rfl (sub_nil _))))))))) (.refl _) ?_
 refine hl_nil ?_
 refine hq_then ?_
 refine hc_block ?_
 refine hc_loop4 (α := Nat) (β := Int) (γ := Value) (δ := List An) (fun j s v1 g1 => (netP b n v1 g1 :: l)) (fun j s v1 g1 => [(0, .pointer (some ⟨b, 0, none⟩)), (1, lv), (2, cv), (6, .int .i64 0), (7, .int .i64 s), (13, cv), (14, .int .i64 (cs.length : Int)), (15, .int .i64 (j : Int))]) (fun j s v1 g1 => j ≤ cs.length ∧ AddOk n g g1 s (5 * j) (covF ls cs j)) (fun j s v1 g1 => cs.length - j) 0 0 v g ⟨Nat.zero_le _, AddOk.zero hn⟩ (sx 0 rfl (sx 1 rfl (sx 2 rfl (sx 6 rfl (sx 7 rfl (sx 13 rfl (sx 14 rfl (sx 15 rfl (sub_nil _))))))))) ((.cons_cons _ (.refl _))) ?_
 intro j s v1 g1 hi1
 obtain ⟨hj, hs⟩ := hi1
 obtain ⟨hs0, hs1⟩ := id hs.lit
 refine hc_seq ?_
 refine hc_region ?_
 refine hl_lss rfl rfl rfl rfl rfl rfl (fun h2 => ?_) (fun h2 => ?_)
 ·
  refine hl_less (sx 0 rfl (sx 1 rfl (sx 2 rfl (sx 6 rfl (sx 7 rfl (sx 13 rfl (sx 14 rfl (sx 15 rfl (sx 16 rfl (sub_nil _)))))))))) (.refl _) ?_
  refine hl_nil ?_
  refine hq_then ?_
  refine hc_seq ?_
  refine hc_true rfl ?_
  refine hc_skip ?_
  refine hq_then ?_
  refine hc_seq ?_
  refine hc_block ?_
  refine hc_seq ?_
  refine hc_region ?_
  refine hl_v rfl rfl rfl (rv_index (s := 2) rfl Try.underlying62 (by kernel_rfl) rfl rfl (rd_old hcv) (by omega) (by first | omega | (simp only [List.length_set]; omega))) ?_
  refine hl_v rfl rfl rfl (rv_loadElN (us := [.int .i64 ((cs.getD j c0_o).1 : Int), .int .i64 ((cs.getD j c0_o).2 : Int)]) rfl (by kernel_rfl) (by kernel_rfl) rfl (rd_old hcv) (by omega) rfl (flat_atN cubC 2 (fun _ => rfl) cs c0_o (show j < _ by first | omega | (simp only [List.length_set]; omega)) rfl)) ?_
  refine hl_box rfl rfl rfl (rq_alloc (z := .agg #[.int .i64 0, .int .i64 0]) rfl (by kernel_rfl)) ?_
  intro b3
  refine hl_storeBoxN (i := 0) (off := 0) (us := [.int .i64 ((cs.getD j c0_o).1 : Int), .int .i64 ((cs.getD j c0_o).2 : Int)]) (l' := (boxE b3 #[.int .i64 ((cs.getD j c0_o).1 : Int), .int .i64 ((cs.getD j c0_o).2 : Int)] 139 :: netP b n v1 g1 :: l)) rfl rfl rfl (by kernel_rfl) rfl rfl rfl (all_cons rfl (all_cons rfl all_nil)) rfl rfl rfl ?_
  refine hl_less (sx 0 rfl (sx 1 rfl (sx 2 rfl (sx 6 rfl (sx 7 rfl (sx 9 rfl (sx 13 rfl (sx 14 rfl (sx 15 rfl (sx 16 rfl (sub_nil _))))))))))) (.refl _) ?_
  refine hl_nil ?_
  refine hq_then ?_
  refine hc_seq ?_
  refine hc_region ?_
  refine hl_v rfl rfl rfl (rv_ev rfl) ?_
  refine hl_less (sx 0 rfl (sx 1 rfl (sx 2 rfl (sx 6 rfl (sx 7 rfl (sx 9 rfl (sx 10 rfl (sx 13 rfl (sx 14 rfl (sx 15 rfl (sx 16 rfl (sub_nil _)))))))))))) (.refl _) ?_
  refine hl_nil ?_
  refine hq_then ?_
  refine hc_seq ?_
  refine hc_seq ?_
  refine hc_region ?_
  refine hl_v rfl rfl rfl (rv_ev rfl) ?_
  refine hl_v rfl rfl rfl (rv_len rfl Try.underlying26 rfl (rd_old hlv)) ?_
  refine hl_v rfl rfl rfl (rv_ev rfl) ?_
  refine hl_less (sx 0 rfl (sx 1 rfl (sx 2 rfl (sx 6 rfl (sx 7 rfl (sx 9 rfl (sx 10 rfl (sx 13 rfl (sx 14 rfl (sx 15 rfl (sx 16 rfl (sx 19 rfl (sx 20 rfl (sx 21 rfl (sub_nil _))))))))))))))) (.refl _) ?_
  refine hl_nil ?_
  refine hq_then ?_
  refine hc_block ?_
  refine hc_loop4 (α := Nat) (β := Int) (γ := Value) (δ := List An) (fun k p v2 g2 => (boxE b3 #[.int .i64 ((cs.getD j c0_o).1 : Int), .int .i64 ((cs.getD j c0_o).2 : Int)] 139 :: netP b n v2 g2 :: l)) (fun k p v2 g2 => [(0, .pointer (some ⟨b, 0, none⟩)), (1, lv), (2, cv), (6, .int .i64 0), (7, .int .i64 s), (9, .pointer (some ⟨b3, 0, none⟩)), (10, .int .i64 p), (13, cv), (14, .int .i64 (cs.length : Int)), (15, .int .i64 (j : Int)), (16, .bool true), (19, lv), (20, .int .i64 (ls.length : Int)), (21, .int .i64 (k : Int))]) (fun k p v2 g2 => k ≤ ls.length ∧ AddOk n g g2 p (5 * j + k) (cubF ls (cs.getD j c0_o) k) ∧ AddOk n g g2 s (5 * j + k) (covF ls cs j)) (fun k p v2 g2 => ls.length - k) 0 1 v1 g1 ⟨Nat.zero_le _, hs.one', hs⟩ (sx 0 rfl (sx 1 rfl (sx 2 rfl (sx 6 rfl (sx 7 rfl (sx 9 rfl (sx 10 rfl (sx 13 rfl (sx 14 rfl (sx 15 rfl (sx 16 rfl (sx 19 rfl (sx 20 rfl (sx 21 rfl (sub_nil _))))))))))))))) ((.cons_cons _ (.cons_cons _ (.refl _)))) ?_
  intro k p v2 g2 hi4
  obtain ⟨hk, hp, hq⟩ := hi4
  obtain ⟨hp0, hp1⟩ := id hp.lit
  refine hc_seq ?_
  refine hc_region ?_
  refine hl_lss rfl rfl rfl rfl rfl rfl (fun h5 => ?_) (fun h5 => ?_)
  ·
   refine hl_less (sx 0 rfl (sx 1 rfl (sx 2 rfl (sx 6 rfl (sx 7 rfl (sx 9 rfl (sx 10 rfl (sx 13 rfl (sx 14 rfl (sx 15 rfl (sx 16 rfl (sx 19 rfl (sx 20 rfl (sx 21 rfl (sx 22 rfl (sub_nil _)))))))))))))))) (.refl _) ?_
   refine hl_nil ?_
   refine hq_then ?_
   refine hc_seq ?_
   refine hc_true rfl ?_
   refine hc_skip ?_
   refine hq_then ?_
   refine hc_seq ?_
   refine hc_block ?_
   refine hc_seq ?_
   refine hc_region ?_
   refine hl_v rfl rfl rfl (rv_ev rfl) ?_
   refine hl_v rfl rfl rfl (rv_index (s := 1) rfl Try.underlying26 (by kernel_rfl) rfl rfl (rd_old hlv) (by omega) (by first | omega | (simp only [List.length_set]; omega))) ?_
   refine hl_v rfl rfl rfl (rv_loadEl (u := .int .i64 (ls.getD k 0)) rfl (by kernel_rfl) rfl (rd_old hlv) (ints_at1 (show _ < ls.length by first | omega | (simp only [List.length_set]; omega)))) ?_
   refine hl_v rfl rfl rfl (rv_ev rfl) ?_
   refine hl_v rfl rfl rfl (rv_ev rfl) ?_
   refine hl_less (sx 0 rfl (sx 1 rfl (sx 2 rfl (sx 6 rfl (sx 7 rfl (sx 9 rfl (sx 10 rfl (sx 11 rfl (sx 12 rfl (sx 13 rfl (sx 14 rfl (sx 15 rfl (sx 16 rfl (sx 19 rfl (sx 20 rfl (sx 21 rfl (sx 22 rfl (sub_nil _)))))))))))))))))) (.refl _) ?_
   refine hl_nil ?_
   refine hq_then ?_
   refine hc_seq ?_
   refine hc_seq ?_
   refine hc_region ?_
   have hlq := hls k (by omega)
   obtain ⟨hlq0, hlq1⟩ := id hlq
   have hdk := hok _ (getD_memX (d := c0_o) (show j < cs.length by omega))
   have hg2 := hp.len
   refine hl_v rfl rfl rfl (rv_field (k0 := 0) rfl (by kernel_rfl) rfl) ?_
   refine hl_v rfl rfl rfl (rv_load rfl (by kernel_rfl) rfl (box_cell 0 rfl rfl)) ?_
   refine hl_v rfl rfl rfl (rv_ev rfl) ?_
   refine hl_v rfl rfl rfl (rv_conv rfl Try.underlying3 Try.underlying98 rfl (IntWalk.u64_in _ (by omega))) ?_
   refine hl_v rfl rfl rfl (rv_shr rfl rfl rfl (by omega)) ?_
   refine hl_v rfl rfl rfl (rv_bits rfl (by decide) rfl rfl (r := (((cs.getD j c0_o).1 / 2 ^ k % 2 : Nat) : Int)) (bitI (by omega))) ?_
   refine hl_eql rfl rfl rfl rfl rfl rfl (fun h6 => ?_) (fun h6 => ?_)
   ·
    refine hl_less (sx 0 rfl (sx 1 rfl (sx 2 rfl (sx 6 rfl (sx 7 rfl (sx 9 rfl (sx 10 rfl (sx 11 rfl (sx 12 rfl (sx 13 rfl (sx 14 rfl (sx 15 rfl (sx 16 rfl (sx 19 rfl (sx 20 rfl (sx 21 rfl (sx 22 rfl (sx 32 rfl (sub_nil _))))))))))))))))))) (.refl _) ?_
    refine hl_nil ?_
    refine hq_then ?_
    refine hc_true rfl ?_
    refine hc_exit ?_
    refine hq_then_exit ?_
    refine hq_block_exit ?_
    refine hq_then ?_
    refine hc_region ?_
    refine hl_v rfl rfl rfl (rv_add rfl rfl rfl (by constructor <;> omega)) ?_
    refine hl_v rfl rfl rfl (rv_ev rfl) ?_
    refine hl_less (sx 0 rfl (sx 1 rfl (sx 2 rfl (sx 6 rfl (sx 7 rfl (sx 9 rfl (sx 10 rfl (sx 11 rfl (sx 12 rfl (sx 13 rfl (sx 14 rfl (sx 15 rfl (sx 16 rfl (sx 19 rfl (sx 20 rfl (sx 21 rfl (sx 22 rfl (sx 32 rfl (sub_nil _))))))))))))))))))) (.refl _) ?_
    refine hl_nil ?_
    exact hq_round4 (k + 1) p v2 g2 ⟨by omega, (by rw [cub_skip (by assumption)]; exact hp.le (by omega)), hq.le (by omega)⟩ (by omega) (sx 0 rfl (sx 1 rfl (sx 2 rfl (sx 6 rfl (sx 7 rfl (sx 9 rfl (sx 10 rfl (sx 13 rfl (sx 14 rfl (sx 15 rfl (sx 16 rfl (sx 19 rfl (sx 20 rfl (sx 21 rfl (sub_nil _))))))))))))))) ((.cons_cons _ (.cons_cons _ (.refl _))))
   ·
    refine hl_less (sx 0 rfl (sx 1 rfl (sx 2 rfl (sx 6 rfl (sx 7 rfl (sx 9 rfl (sx 10 rfl (sx 11 rfl (sx 12 rfl (sx 13 rfl (sx 14 rfl (sx 15 rfl (sx 16 rfl (sx 19 rfl (sx 20 rfl (sx 21 rfl (sx 22 rfl (sx 32 rfl (sub_nil _))))))))))))))))))) (.refl _) ?_
    refine hl_nil ?_
    refine hq_then ?_
    refine hc_false rfl ?_
    refine hc_skip ?_
    refine hq_then ?_
    refine hc_seq ?_
    refine hc_seq ?_
    refine hc_region ?_
    refine hl_v rfl rfl rfl (rv_field (k0 := 1) rfl (by kernel_rfl) rfl) ?_
    refine hl_v rfl rfl rfl (rv_load rfl (by kernel_rfl) rfl (box_cell 0 rfl rfl)) ?_
    refine hl_v rfl rfl rfl (rv_ev rfl) ?_
    refine hl_v rfl rfl rfl (rv_conv rfl Try.underlying3 Try.underlying98 rfl (IntWalk.u64_in _ (by omega))) ?_
    refine hl_v rfl rfl rfl (rv_shr rfl rfl rfl (by omega)) ?_
    refine hl_v rfl rfl rfl (rv_bits rfl (by decide) rfl rfl (r := (((cs.getD j c0_o).2 / 2 ^ k % 2 : Nat) : Int)) (bitI (by omega))) ?_
    refine hl_eql rfl rfl rfl rfl rfl rfl (fun h7 => ?_) (fun h7 => ?_)
    ·
     refine hl_less (sx 0 rfl (sx 1 rfl (sx 2 rfl (sx 6 rfl (sx 7 rfl (sx 9 rfl (sx 10 rfl (sx 11 rfl (sx 12 rfl (sx 13 rfl (sx 14 rfl (sx 15 rfl (sx 16 rfl (sx 19 rfl (sx 20 rfl (sx 21 rfl (sx 22 rfl (sx 32 rfl (sx 39 rfl (sub_nil _)))))))))))))))))))) (.refl _) ?_
     refine hl_nil ?_
     refine hq_then ?_
     refine hc_true rfl ?_
     refine hc_region ?_
     refine hl_v rfl rfl rfl (rv_ev rfl) ?_
     refine hl_v rfl rfl rfl (rv_bits rfl (by decide) rfl rfl (r := xr (ls.getD k 0)) (xor_xr hlq0 (by omega))) ?_
     refine hl_v rfl rfl rfl (rv_ev rfl) ?_
     refine hl_less (sx 0 rfl (sx 1 rfl (sx 2 rfl (sx 6 rfl (sx 7 rfl (sx 9 rfl (sx 10 rfl (sx 11 rfl (sx 12 rfl (sx 13 rfl (sx 14 rfl (sx 15 rfl (sx 16 rfl (sx 19 rfl (sx 20 rfl (sx 21 rfl (sx 22 rfl (sx 32 rfl (sx 39 rfl (sub_nil _)))))))))))))))))))) (.refl _) ?_
     refine hl_nil ?_
     refine hq_then ?_
     refine hc_seq ?_
     refine hc_region ?_
     refine hl_v rfl rfl rfl (rv_ev rfl) ?_
     refine hl_v rfl rfl rfl (rv_ev rfl) ?_
     refine hl_v rfl rfl rfl (rv_ev rfl) ?_
     refine hl_callM2 (R := (fun u_ p_ => ∃ z v_ g_, u_ = .int .i64 z ∧ p_ = netP b n v_ g_ ∧ AddOk n g2 g_ z 1 (fAnd p (xr (ls.getD k 0))))) 1 rfl rfl (by kernel_rfl) rfl rfl (fun L w hX hm => addAnd_on b n v2 g2 p (xr (ls.getD k 0)) _ _ _ hm hp.ok hp.lit (xr_ok (hp.more0 hn hlq)) (by have := hp.len; omega) (fun w hm => hso w ((hX w hm).sub (.cons _ (.refl _)))) hone) ?_
     intro v8 p9 hR10
     obtain ⟨zhR10, vhR10, ghR10, rfl, rfl, ahR10⟩ := hR10
     obtain ⟨thR10a, thR10b⟩ := id ahR10.lit
     refine hl_eqL (l' := (boxE b3 #[.int .i64 ((cs.getD j c0_o).1 : Int), .int .i64 ((cs.getD j c0_o).2 : Int)] 139 :: netP b n vhR10 ghR10 :: l)) rfl ?_
     refine hl_v rfl rfl rfl (rv_ev rfl) ?_
     refine hl_less (sx 0 rfl (sx 1 rfl (sx 2 rfl (sx 6 rfl (sx 7 rfl (sx 9 rfl (sx 10 rfl (sx 11 rfl (sx 12 rfl (sx 13 rfl (sx 14 rfl (sx 15 rfl (sx 16 rfl (sx 19 rfl (sx 20 rfl (sx 21 rfl (sx 22 rfl (sx 32 rfl (sx 39 rfl (sub_nil _)))))))))))))))))))) (.refl _) ?_
     refine hl_nil ?_
     refine hq_then ?_
     refine hc_seq ?_
     refine hc_region ?_
     refine hl_v rfl rfl rfl (rv_ev rfl) ?_
     refine hl_lss rfl rfl rfl rfl rfl rfl (fun h11 => absurd h11 (by omega)) (fun h11 => ?_)
     refine hl_less (sx 0 rfl (sx 1 rfl (sx 2 rfl (sx 6 rfl (sx 7 rfl (sx 9 rfl (sx 10 rfl (sx 11 rfl (sx 12 rfl (sx 13 rfl (sx 14 rfl (sx 15 rfl (sx 16 rfl (sx 19 rfl (sx 20 rfl (sx 21 rfl (sx 22 rfl (sx 32 rfl (sx 39 rfl (sx 47 rfl (sub_nil _))))))))))))))))))))) (.refl _) ?_
     refine hl_nil ?_
     refine hq_then ?_
     refine hc_false rfl ?_
     refine hc_skip ?_
     refine hq_block_normal ?_
     refine hq_then ?_
     refine hc_region ?_
     refine hl_v rfl rfl rfl (rv_add rfl rfl rfl (by constructor <;> omega)) ?_
     refine hl_v rfl rfl rfl (rv_ev rfl) ?_
     refine hl_less (sx 0 rfl (sx 1 rfl (sx 2 rfl (sx 6 rfl (sx 7 rfl (sx 9 rfl (sx 10 rfl (sx 11 rfl (sx 12 rfl (sx 13 rfl (sx 14 rfl (sx 15 rfl (sx 16 rfl (sx 19 rfl (sx 20 rfl (sx 21 rfl (sx 22 rfl (sx 32 rfl (sx 39 rfl (sx 47 rfl (sub_nil _))))))))))))))))))))) (.refl _) ?_
     refine hl_nil ?_
     exact hq_round4 (k + 1) zhR10 vhR10 ghR10 ⟨by omega, cov_stepA hn hp (xr_ok hlq) ahR10 (by assumption) (lit_no (by assumption)), (hq.more ahR10).le (by omega)⟩ (by omega) (sx 0 rfl (sx 1 rfl (sx 2 rfl (sx 6 rfl (sx 7 rfl (sx 9 rfl (sx 10 rfl (sx 13 rfl (sx 14 rfl (sx 15 rfl (sx 16 rfl (sx 19 rfl (sx 20 rfl (sx 21 rfl (sub_nil _))))))))))))))) ((.cons_cons _ (.cons_cons _ (.refl _))))
    ·
     refine hl_less (sx 0 rfl (sx 1 rfl (sx 2 rfl (sx 6 rfl (sx 7 rfl (sx 9 rfl (sx 10 rfl (sx 11 rfl (sx 12 rfl (sx 13 rfl (sx 14 rfl (sx 15 rfl (sx 16 rfl (sx 19 rfl (sx 20 rfl (sx 21 rfl (sx 22 rfl (sx 32 rfl (sx 39 rfl (sub_nil _)))))))))))))))))))) (.refl _) ?_
     refine hl_nil ?_
     refine hq_then ?_
     refine hc_false rfl ?_
     refine hc_skip ?_
     refine hq_then ?_
     refine hc_seq ?_
     refine hc_region ?_
     refine hl_v rfl rfl rfl (rv_ev rfl) ?_
     refine hl_v rfl rfl rfl (rv_ev rfl) ?_
     refine hl_v rfl rfl rfl (rv_ev rfl) ?_
     refine hl_callM2 (R := (fun u_ p_ => ∃ z v_ g_, u_ = .int .i64 z ∧ p_ = netP b n v_ g_ ∧ AddOk n g2 g_ z 1 (fAnd p (ls.getD k 0)))) 1 rfl rfl (by kernel_rfl) rfl rfl (fun L w hX hm => addAnd_on b n v2 g2 p (ls.getD k 0) _ _ _ hm hp.ok hp.lit (hp.more0 hn hlq) (by have := hp.len; omega) (fun w hm => hso w ((hX w hm).sub (.cons _ (.refl _)))) hone) ?_
     intro v12 p13 hR14
     obtain ⟨zhR14, vhR14, ghR14, rfl, rfl, ahR14⟩ := hR14
     obtain ⟨thR14a, thR14b⟩ := id ahR14.lit
     refine hl_eqL (l' := (boxE b3 #[.int .i64 ((cs.getD j c0_o).1 : Int), .int .i64 ((cs.getD j c0_o).2 : Int)] 139 :: netP b n vhR14 ghR14 :: l)) rfl ?_
     refine hl_v rfl rfl rfl (rv_ev rfl) ?_
     refine hl_less (sx 0 rfl (sx 1 rfl (sx 2 rfl (sx 6 rfl (sx 7 rfl (sx 9 rfl (sx 10 rfl (sx 11 rfl (sx 12 rfl (sx 13 rfl (sx 14 rfl (sx 15 rfl (sx 16 rfl (sx 19 rfl (sx 20 rfl (sx 21 rfl (sx 22 rfl (sx 32 rfl (sx 39 rfl (sub_nil _)))))))))))))))))))) (.refl _) ?_
     refine hl_nil ?_
     refine hq_then ?_
     refine hc_seq ?_
     refine hc_region ?_
     refine hl_v rfl rfl rfl (rv_ev rfl) ?_
     refine hl_lss rfl rfl rfl rfl rfl rfl (fun h15 => absurd h15 (by omega)) (fun h15 => ?_)
     refine hl_less (sx 0 rfl (sx 1 rfl (sx 2 rfl (sx 6 rfl (sx 7 rfl (sx 9 rfl (sx 10 rfl (sx 11 rfl (sx 12 rfl (sx 13 rfl (sx 14 rfl (sx 15 rfl (sx 16 rfl (sx 19 rfl (sx 20 rfl (sx 21 rfl (sx 22 rfl (sx 32 rfl (sx 39 rfl (sx 47 rfl (sub_nil _))))))))))))))))))))) (.refl _) ?_
     refine hl_nil ?_
     refine hq_then ?_
     refine hc_false rfl ?_
     refine hc_skip ?_
     refine hq_block_normal ?_
     refine hq_then ?_
     refine hc_region ?_
     refine hl_v rfl rfl rfl (rv_add rfl rfl rfl (by constructor <;> omega)) ?_
     refine hl_v rfl rfl rfl (rv_ev rfl) ?_
     refine hl_less (sx 0 rfl (sx 1 rfl (sx 2 rfl (sx 6 rfl (sx 7 rfl (sx 9 rfl (sx 10 rfl (sx 11 rfl (sx 12 rfl (sx 13 rfl (sx 14 rfl (sx 15 rfl (sx 16 rfl (sx 19 rfl (sx 20 rfl (sx 21 rfl (sx 22 rfl (sx 32 rfl (sx 39 rfl (sx 47 rfl (sub_nil _))))))))))))))))))))) (.refl _) ?_
     refine hl_nil ?_
     exact hq_round4 (k + 1) zhR14 vhR14 ghR14 ⟨by omega, cov_stepA hn hp hlq ahR14 (by assumption) (lit_yes (by assumption)), (hq.more ahR14).le (by omega)⟩ (by omega) (sx 0 rfl (sx 1 rfl (sx 2 rfl (sx 6 rfl (sx 7 rfl (sx 9 rfl (sx 10 rfl (sx 13 rfl (sx 14 rfl (sx 15 rfl (sx 16 rfl (sx 19 rfl (sx 20 rfl (sx 21 rfl (sub_nil _))))))))))))))) ((.cons_cons _ (.cons_cons _ (.refl _))))
  ·
   refine hl_less (sx 0 rfl (sx 1 rfl (sx 2 rfl (sx 6 rfl (sx 7 rfl (sx 9 rfl (sx 10 rfl (sx 13 rfl (sx 14 rfl (sx 15 rfl (sx 16 rfl (sx 19 rfl (sx 20 rfl (sx 21 rfl (sx 22 rfl (sub_nil _)))))))))))))))) (.refl _) ?_
   refine hl_nil ?_
   refine hq_then ?_
   refine hc_seq ?_
   refine hc_false rfl ?_
   refine hc_exit ?_
   refine hq_then_exit ?_
   refine hq_then_exit ?_
   refine hq_block_exit ?_
   refine hq_then ?_
   refine hc_seq ?_
   refine hc_region ?_
   have hkk : k = ls.length := by omega
   rw [hkk] at hp hq
   have hke : (fun ev => 1 - (1 - covF ls cs j ev) * (1 - cubF ls (cs.getD j c0_o) ls.length ev)) = covF ls cs (j + 1) := rfl
   refine hl_v rfl rfl rfl (rv_ev rfl) ?_
   refine hl_v rfl rfl rfl (rv_ev rfl) ?_
   refine hl_v rfl rfl rfl (rv_ev rfl) ?_
   refine hl_callM2 (R := (fun u_ p_ => ∃ z v_ g_, u_ = .int .i64 z ∧ p_ = netP b n v_ g_ ∧ AddOk n g2 g_ z 1 (fOr s p))) 1 rfl rfl (by kernel_rfl) rfl rfl (fun L w hX hm => addOr_mut b n v2 g2 s p _ _ _ hm hp.ok hq.lit hp.lit (by have := hp.len; omega) (fun w hm => hso w ((hX w hm).sub (.cons _ (.refl _)))) hone) ?_
   intro v16 p17 hR18
   obtain ⟨zhR18, vhR18, ghR18, rfl, rfl, ahR18⟩ := hR18
   obtain ⟨thR18a, thR18b⟩ := id ahR18.lit
   refine hl_eqL (l' := (boxE b3 #[.int .i64 ((cs.getD j c0_o).1 : Int), .int .i64 ((cs.getD j c0_o).2 : Int)] 139 :: netP b n vhR18 ghR18 :: l)) rfl ?_
   refine hl_v rfl rfl rfl (rv_ev rfl) ?_
   refine hl_less (sx 0 rfl (sx 1 rfl (sx 2 rfl (sx 6 rfl (sx 7 rfl (sx 9 rfl (sx 10 rfl (sx 13 rfl (sx 14 rfl (sx 15 rfl (sx 16 rfl (sx 19 rfl (sx 20 rfl (sx 21 rfl (sx 22 rfl (sub_nil _)))))))))))))))) (.refl _) ?_
   refine hl_nil ?_
   refine hq_then ?_
   refine hc_seq ?_
   refine hc_region ?_
   refine hl_v rfl rfl rfl (rv_ev rfl) ?_
   refine hl_lss rfl rfl rfl rfl rfl rfl (fun h19 => absurd h19 (by omega)) (fun h19 => ?_)
   refine hl_less (sx 0 rfl (sx 1 rfl (sx 2 rfl (sx 6 rfl (sx 7 rfl (sx 9 rfl (sx 10 rfl (sx 13 rfl (sx 14 rfl (sx 15 rfl (sx 16 rfl (sx 19 rfl (sx 20 rfl (sx 21 rfl (sx 22 rfl (sx 54 rfl (sub_nil _))))))))))))))))) (.refl _) ?_
   refine hl_nil ?_
   refine hq_then ?_
   refine hc_false rfl ?_
   refine hc_skip ?_
   refine hq_block_normal ?_
   refine hq_then ?_
   refine hc_region ?_
   refine hl_v rfl rfl rfl (rv_add rfl rfl rfl (by constructor <;> omega)) ?_
   refine hl_v rfl rfl rfl (rv_ev rfl) ?_
   refine hl_less (sx 0 rfl (sx 1 rfl (sx 2 rfl (sx 6 rfl (sx 7 rfl (sx 9 rfl (sx 10 rfl (sx 13 rfl (sx 14 rfl (sx 15 rfl (sx 16 rfl (sx 19 rfl (sx 20 rfl (sx 21 rfl (sx 22 rfl (sx 54 rfl (sub_nil _))))))))))))))))) (.refl _) ?_
   refine hl_nil ?_
   exact hq_round4 (j + 1) zhR18 vhR18 ghR18 ⟨by omega, (by have h9 := AddOk.gor hq hp ahR18; rw [hke] at h9; exact h9.le (by omega))⟩ (by omega) (sx 0 rfl (sx 1 rfl (sx 2 rfl (sx 6 rfl (sx 7 rfl (sx 13 rfl (sx 14 rfl (sx 15 rfl (sub_nil _))))))))) ((.cons _ (.cons_cons _ (.refl _))))
 ·
  refine hl_less (sx 0 rfl (sx 1 rfl (sx 2 rfl (sx 6 rfl (sx 7 rfl (sx 13 rfl (sx 14 rfl (sx 15 rfl (sx 16 rfl (sub_nil _)))))))))) (.refl _) ?_
  refine hl_nil ?_
  refine hq_then ?_
  refine hc_seq ?_
  refine hc_false rfl ?_
  refine hc_exit ?_
  refine hq_then_exit ?_
  refine hq_then_exit ?_
  refine hq_block_exit ?_
  refine hq_then ?_
  refine hc_seq ?_
  refine hc_region ?_
  refine hl_v rfl rfl rfl (rv_ev rfl) ?_
  refine hl_v rfl rfl rfl (rv_ev rfl) ?_
  refine hl_less (sx 0 rfl (sx 1 rfl (sx 2 rfl (sx 6 rfl (sx 7 rfl (sx 13 rfl (sx 14 rfl (sx 15 rfl (sx 16 rfl (sub_nil _)))))))))) (.refl _) ?_
  refine hl_nil ?_
  refine hq_then ?_
  refine hc_ret ?_
  exact hq_ret (rs := [.tmp 6]) (vs := [.int .i64 s]) rfl ⟨rfl, trivial⟩ rfl (fun w hm => ⟨_, netP b n v1 g1, rfl, ⟨_, _, _, rfl, rfl, by rw [show cs.length = j by omega]; exact hs⟩, hm.sub ((.cons_cons _ (.refl _)))⟩)
set_option maxHeartbeats 4000000 in
set_option maxRecDepth 100000 in
theorem addCoverC_mut (b : Nat) (n : Nt) (v : Value) (g : List An) (ls : List Int) (cs : List (Nat × Nat)) (lv cv : Value) (c1 c2 : Nat) (w0 : World) (l : List HP) (w : World) (hm0 : Mem w0 (netP b n v g :: l) w) (hn : NtOk (withG n g)) (hls : ∀ q, q < ls.length → LtOk (ls.getD q 0) (n.fst + g.length)) (hl4 : ls.length ≤ 4) (hok : CubsOk 16 cs) (hc81 : cs.length ≤ 57) (hl : g.length + 5 * cs.length ≤ 300) (hlv : RdsW w0 lv 1 ls.length (ls.map (Value.int .i64))) (hcv : RdsW w0 cv 2 cs.length (cs.flatMap cubC)) (hso : ∀ w, Mem w0 l w → RdsW w n.sv 3 n.ss.length (n.ss.flatMap sqC) ∧ (∀ s ∈ n.ss, RdsW w s.iv 1 s.xs.length (s.xs.map (Value.int .i64))) ∧ RdsW w n.ov 1 n.os.length (n.os.map (Value.int .i64))) (hone : n.sv.oneCell' = true ∧ n.ov.oneCell' = true) (hc1b : c1 < w0.heap.size) (hc1c : w0.cell? ⟨c1, 0, none⟩ = some lv) (hc2b : c2 < w0.heap.size) (hc2c : w0.cell? ⟨c2, 0, none⟩ = some cv) :
  Calls Try.prog 99 #[.pointer (some ⟨b, 0, none⟩), .pointer (some ⟨c1, 0, none⟩), .pointer (some ⟨c2, 0, none⟩)] w (fun e_ w_ => ∃ v_ p_, e_ = .returned v_ ∧ (fun u_ p_ => ∃ z v_ g_, u_ = .int .i64 z ∧ p_ = netP b n v_ g_ ∧ AddOk n g g_ z (5 * cs.length) (covF ls cs cs.length)) v_ p_ ∧ Mem w0 (p_ :: l) w_) := by
 refine calls_hcM (N := 9) (args := [.pointer (some ⟨b, 0, none⟩), .pointer (some ⟨c1, 0, none⟩), .pointer (some ⟨c2, 0, none⟩)]) Try.func99 rfl rfl hm0 ?_
 refine hc_less _ (sx 0 rfl (sx 1 rfl (sx 2 rfl (sub_nil _)))) (.refl _) ?_
 refine hc_seq ?_
 refine hc_region ?_
 refine hl_v rfl rfl rfl (rv_ev rfl) ?_
 refine hl_less (sx 0 rfl (sx 1 rfl (sx 2 rfl (sx 4 rfl (sub_nil _))))) (.refl _) ?_
 refine hl_nil ?_
 refine hq_then ?_
 refine hc_seq ?_
 refine hc_region ?_
 refine hl_v rfl rfl rfl (rv_ev rfl) ?_
 refine hl_v rfl rfl rfl (rv_load rfl (by kernel_rfl) rfl (fun w hm => (hm.bel.cell (p := ⟨c1, 0, none⟩) hc1b).trans hc1c)) ?_
 refine hl_v rfl rfl rfl (rv_load rfl (by kernel_rfl) rfl (fun w hm => (hm.bel.cell (p := ⟨c2, 0, none⟩) hc2b).trans hc2c)) ?_
 refine hl_callM2 (R := (fun u_ p_ => ∃ z v_ g_, u_ = .int .i64 z ∧ p_ = netP b n v_ g_ ∧ AddOk n g g_ z (5 * cs.length) (covF ls cs cs.length))) 0 rfl rfl (by kernel_rfl) rfl rfl (fun L w hX hm => addCover_mut b n v g ls cs lv cv _ _ _ hm hn hls hl4 hok hc81 hl hlv hcv (fun w hm => hso w (hX w hm)) hone) ?_
 intro v1 p2 hR3
 obtain ⟨zhR3, vhR3, ghR3, rfl, rfl, ahR3⟩ := hR3
 refine hl_eqL (l' := (netP b n vhR3 ghR3 :: l)) rfl ?_
 refine hl_v rfl rfl rfl (rv_ev rfl) ?_
 refine hl_less (sx 0 rfl (sx 1 rfl (sx 2 rfl (sx 4 rfl (sub_nil _))))) (.refl _) ?_
 refine hl_nil ?_
 refine hq_then ?_
 refine hc_ret ?_
 exact hq_ret (rs := [.tmp 4]) (vs := [.int .i64 zhR3]) rfl ⟨rfl, trivial⟩ rfl (fun w hm => ⟨_, netP b n vhR3 ghR3, rfl, ⟨_, _, _, rfl, rfl, ahR3⟩, hm.sub ((.cons_cons _ (.refl _)))⟩)
set_option maxHeartbeats 4000000 in
set_option maxRecDepth 100000 in
theorem AddCover_ret (n : Nt) (ls : List Int) (cs : List (Nat × Nat)) (lv cv : Value) (w : World) (hr : RdsNt w n) (hn : NtOk n) (hls : ∀ q, q < ls.length → LtOk (ls.getD q 0) n.cnt) (hl4 : ls.length ≤ 4) (hok : CubsOk 16 cs) (hokn : CubsOk (pn (ls.length : Int)) cs) (hc81 : cs.length ≤ 57) (hl : n.gs.length + 5 * cs.length ≤ 300) (hlv : RdsW w lv 1 ls.length (ls.map (Value.int .i64))) (hcv : RdsW w cv 2 cs.length (cs.flatMap cubC)) :
  Calls Try.prog 41 #[.agg #[.int .i64 n.ins, n.sv, n.av, n.ov], lv, cv] w (Ret w (Added n (5 * cs.length) (covF ls cs cs.length))) := by
 have hi0 := hn.i0
 have hi1 := hn.i1
 have hs1 := hn.s1
 have ha1 := hn.a1
 have ho1 := hn.o1
 have hcnt : n.cnt = 1 + n.ins + n.ss.length + n.gs.length := rfl
 have hfst : n.fst = 1 + n.ins + n.ss.length := rfl
 refine calls_hc (N := 26) (args := [.agg #[.int .i64 n.ins, n.sv, n.av, n.ov], lv, cv]) Try.func41 rfl rfl ?_
 refine hc_less _ (sx 0 rfl (sx 1 rfl (sx 2 rfl (sub_nil _)))) (.refl _) ?_
 refine hc_seq ?_
 refine hc_region ?_
 refine hl_box rfl rfl rfl (rq_box rfl rfl) ?_
 intro b1
 refine hl_box rfl rfl rfl (rq_box1 rfl rfl hlv.one) ?_
 intro b2
 refine hl_box rfl rfl rfl (rq_box1 rfl rfl hcv.one) ?_
 intro b3
 refine hl_box rfl rfl rfl (rq_alloc (z := .agg #[.int .i64 0, .slice none 0 0, .slice none 0 0, .slice none 0 0]) rfl (by kernel_rfl)) ?_
 intro b4
 refine hl_v rfl rfl rfl (rv_ev rfl) ?_
 refine hl_less (sx 0 rfl (sx 1 rfl (sx 2 rfl (sx 3 rfl (sx 4 rfl (sx 5 rfl (sx 6 rfl (sx 7 rfl (sub_nil _))))))))) (.refl _) ?_
 refine hl_nil ?_
 refine hq_then ?_
 refine hc_seq ?_
 refine hc_seq ?_
 refine hc_region ?_
 refine hl_v rfl rfl rfl (rv_load rfl (by kernel_rfl) rfl (box_cell 2 rfl rfl)) ?_
 refine hl_v rfl rfl rfl (rv_len rfl Try.underlying26 rfl (rd_old hlv)) ?_
 refine hl_gtr rfl rfl rfl rfl rfl rfl (fun h5 => absurd h5 (by omega)) (fun h5 => ?_)
 refine hl_v rfl rfl rfl (rv_ev rfl) ?_
 refine hl_v rfl rfl rfl (rv_load rfl (by kernel_rfl) rfl (box_cell 2 rfl rfl)) ?_
 refine hl_v rfl rfl rfl (rv_len rfl Try.underlying26 rfl (rd_old hlv)) ?_
 refine hl_v rfl rfl rfl (rv_load rfl (by kernel_rfl) rfl (box_cell 1 rfl rfl)) ?_
 refine hl_callV rfl rfl rfl (rq_call (by kernel_rfl) rfl (fun w hm => ret_ans (coverOk_yes (ls.length : Int) cs _ w (by omega) (hcv.below hm.bel) (by omega) hokn))) ?_
 refine hl_v rfl rfl rfl (rv_ev rfl) ?_
 refine hl_v rfl rfl rfl (rv_ev rfl) ?_
 refine hl_less (sx 0 rfl (sx 1 rfl (sx 2 rfl (sx 3 rfl (sx 4 rfl (sx 5 rfl (sx 6 rfl (sx 7 rfl (sx 17 rfl (sub_nil _)))))))))) (.refl _) ?_
 refine hl_nil ?_
 refine hq_then ?_
 refine hc_false rfl ?_
 refine hc_skip ?_
 refine hq_then ?_
 refine hc_seq ?_
 refine hc_region ?_
 refine hl_v rfl rfl rfl (rv_loadN (cs := [.int .i64 n.ins, n.sv, n.av, n.ov]) rfl (by kernel_rfl) (by kernel_rfl) rfl rfl (box_part 3 rfl 0 rfl)) ?_
 refine hl_v rfl rfl rfl (rv_load rfl (by kernel_rfl) rfl (box_cell 2 rfl rfl)) ?_
 refine hl_v rfl rfl rfl (rv_makeFunc (us := []) (vs := [.pointer (some ⟨b2, 0, none⟩), .pointer (some ⟨b3, 0, none⟩)]) rfl rfl rfl) ?_
 refine hl_q rfl rfl rfl (rq_call (by kernel_rfl) rfl (fun w hm => adding_ret n ls _ 99 [.pointer (some ⟨b2, 0, none⟩), .pointer (some ⟨b3, 0, none⟩)] (5 * cs.length) (covF ls cs cs.length) w (hr.below hm.bel) hn (hlv.below hm.bel) hls (by omega) (by kernel_rfl) (fun b n2 L w1 hlk hm1 hso hone => addCoverC_mut b n2 n2.av n2.gs ls cs lv cv b2 b3 w L w1 hm1 (hlk.ok hn) (fun q hq => hlk.lit (hls q hq)) hl4 hok hc81 (by rw [hlk.gs]; exact hl) (hlv.below hm.bel) (hcv.below hm.bel) hso hone (box_lt 2 rfl hm) (cellW hm 2 rfl rfl) (box_lt 1 rfl hm) (cellW hm 1 rfl rfl)))) ?_
 intro v6 p7 hR8
 obtain ⟨nhR8, xhR8, rfl, rfl, ⟨o1hR8, o2hR8, o3hR8⟩, grhR8⟩ := hR8
 refine hl_v rfl rfl rfl (rv_ev rfl) ?_
 refine hl_v rfl rfl rfl (rv_ev rfl) ?_
 refine hl_storeBoxN (i := 1) (off := 0) (us := [.int .i64 nhR8.ins, nhR8.sv, nhR8.av, nhR8.ov]) (l' := [ntE nhR8, boxE b4 #[.int .i64 nhR8.ins, nhR8.sv, nhR8.av, nhR8.ov] 28, boxE b3 #[cv] 62, boxE b2 #[lv] 26, boxE b1 #[.int .i64 n.ins, n.sv, n.av, n.ov] 28]) rfl rfl rfl (by kernel_rfl) rfl rfl rfl (all_cons rfl (all_cons o1hR8 (all_cons o2hR8 (all_cons o3hR8 all_nil)))) rfl rfl rfl ?_
 refine hl_v rfl rfl rfl (rv_ev rfl) ?_
 refine hl_less (sx 0 rfl (sx 1 rfl (sx 2 rfl (sx 3 rfl (sx 4 rfl (sx 5 rfl (sx 6 rfl (sx 7 rfl (sx 17 rfl (sub_nil _)))))))))) (.refl _) ?_
 refine hl_nil ?_
 refine hq_then ?_
 refine hc_ret ?_
 exact hq_retM (rs := [.cell 6 28, .tmp 7]) (vs := [.agg #[.int .i64 nhR8.ins, nhR8.sv, nhR8.av, nhR8.ov], .int .i64 xhR8]) (post := [ntE nhR8]) rfl ⟨⟨b4, 0, [.int .i64 nhR8.ins, nhR8.sv, nhR8.av, nhR8.ov], rfl, rfl, by kernel_rfl, by kernel_rfl, box_part 1 rfl 0 rfl⟩, rfl, trivial⟩ rfl ((.cons_cons _ (.cons _ (.cons _ (.cons _ (.cons _ .slnil)))))) ⟨nhR8, xhR8, rfl, rfl, ⟨o1hR8, o2hR8, o3hR8⟩, grhR8⟩
open Go.RowKit
open Go.RowKit
/-- the literals drawn, their bits -/
def lvF (z : List Int) (len : Nat) (n : Nt) (q : Nat) : Int := (cod z len (((q : Int) + 1)).toNat : Int) % (2 * n.cnt)
def lsL (z : List Int) (len : Nat) (n : Nt) (k : Nat) : List Int := (List.range k).map (lvF z len n)
def lvB (z0 : List Int) (len0 : Nat) (n : Nt) (q : Nat) : Bool := bitL (valsL n (stL n) (cod z0 len0 0 : Int)) (lvF z0 len0 n q) == 1
theorem lsL_len (z : List Int) (len : Nat) (n : Nt) (k : Nat) : (lsL z len n k).length = k := by simp [lsL]
theorem lsL_succ (z : List Int) (len : Nat) (n : Nt) (k : Nat) : lsL z len n (k + 1) = lsL z len n k ++ [lvF z len n k] := by simp [lsL, List.range_succ]
theorem lsL_at {z : List Int} {len : Nat} {n : Nt} {k q : Nat} (h : q < k) : (lsL z len n k).getD q 0 = lvF z len n q := by simp [lsL, h]
theorem lvF_ok (z : List Int) (len : Nat) {n : Nt} (h : 0 < n.cnt) (q : Nat) : LtOk (lvF z len n q) n.cnt := ⟨Int.emod_nonneg _ (by omega), Int.emod_lt_of_pos _ (by omega)⟩
def tIn (v : Value) : Int := match v with | .tuple #[.agg #[.int .i64 i, _, _, _], _] => i | _ => 0
def tSv (v : Value) : Value := match v with | .tuple #[.agg #[_, x, _, _], _] => x | _ => undef
def tAv (v : Value) : Value := match v with | .tuple #[.agg #[_, _, x, _], _] => x | _ => undef
def tOv (v : Value) : Value := match v with | .tuple #[.agg #[_, _, _, x], _] => x | _ => undef
def tX (v : Value) : Int := match v with | .tuple #[_, .int .i64 i] => i | _ => 0
def AddedC (n : Nt) (t : Tab) (zs : List Int) (v : Value) (post : List HP) : Prop := ∃ cs : List (Nat × Nat), MinOk t 0 cs ∧ cs.length ≤ 16 ∧ Added n (5 * cs.length) (covF zs cs cs.length) v post
theorem added_ex {n : Nt} {t : Tab} {zs : List Int} {cs : List (Nat × Nat)} {w : World} (h1 : MinOk t 0 cs) (h2 : cs.length ≤ 16) (e : Ending) (w' : World) (h : Ret w (Added n (5 * cs.length) (covF zs cs cs.length)) e w') : Ret w (AddedC n t zs) e w' := by
  obtain ⟨v, post, he, ha, hm⟩ := h; exact ⟨v, post, he, ⟨cs, h1, h2, ha⟩, hm⟩
theorem shl_b {b : Int} {k : Nat} (hb : b = 0 ∨ b = 1) (hk : k ≤ 16) : IntKind.i64.wrap (b * 2 ^ ((k : Int)).toNat) = ((if (b == 1) = true then 2 ^ k else 0 : Nat) : Int) := by
  rw [shl_i hk (by omega)]
  rcases hb with e | e <;> rw [e] <;> simp
theorem cover_value {n m : Nt} {t : Tab} {z0 : List Int} {len0 : Nat} {x : Int} {k : Nat} {cs : List (Nat × Nat)} (hn : NtOk n) (hc : 0 < n.cnt) (ht : TabOk t) (hk : (k : Int) = t.N) (hmn : MinOk t 0 cs) (gr : Grow n m x (5 * cs.length) (covF (lsL z0 len0 n k) cs cs.length)) :
    bitL (valsL m (stL n) (cod z0 len0 0 : Int)) x = if tabB t (tbN (lvB z0 len0 n) k) = true then 1 else 0 := by
  have hst0 : (stL n).length = n.ss.length := str_len n (Nat.le_refl _)
  have hk2 : pn t.N = 2 ^ k := by unfold pn; rw [← hk, Int.toNat_natCast]
  rw [gr.val _ _ hst0]
  have hl := lsL_len z0 len0 n k
  have hlt := tbN_lt (lvB z0 len0 n) k
  have hv01 : ∀ q, bitL (valsL n (stL n) (cod z0 len0 0 : Int)) (lvF z0 len0 n q) = 0 ∨ bitL (valsL n (stL n) (cod z0 len0 0 : Int)) (lvF z0 len0 n q) = 1 := fun q => bits01 (gs := n.gs) hn hst0 _ (lvF_ok z0 len0 hc q)
  rw [covF_val (n := k) (i := tbN (lvB z0 len0 n) k) (by have := ht.1; omega) hl hlt (by rw [← hk2]; exact hmn.ok) (fun q hq => by rw [bit_xr]; rw [lsL_at (by omega)]; exact (lvF_ok z0 len0 hc q).1) (fun q hq => by
    rw [lsL_at (by omega), tbN_at _ _ _ (by omega)]
    unfold lvB
    rcases hv01 q with e | e <;> rw [e] <;> simp) _ (Nat.le_refl _), List.take_length, hmn.cov _ (by rw [hk2]; exact hlt)]
set_option maxHeartbeats 4000000 in
set_option maxRecDepth 100000 in
theorem btoi_t  (w : World)  :
  Calls Try.prog 38 #[.bool true] w (Ans w (.int .i64 1)) := by
 refine calls_hc (N := 4) (args := [.bool true]) Try.func38 rfl rfl ?_
 refine hc_less _ (sx 0 rfl (sub_nil _)) (.refl _) ?_
 refine hc_seq ?_
 refine hc_region ?_
 refine hl_v rfl rfl rfl (rv_ev rfl) ?_
 refine hl_less (sx 0 rfl (sx 2 rfl (sub_nil _))) (.refl _) ?_
 refine hl_nil ?_
 refine hq_then ?_
 refine hc_seq ?_
 refine hc_seq ?_
 refine hc_region ?_
 refine hl_v rfl rfl rfl (rv_ev rfl) ?_
 refine hl_less (sx 0 rfl (sx 2 rfl (sx 3 rfl (sub_nil _)))) (.refl _) ?_
 refine hl_nil ?_
 refine hq_then ?_
 refine hc_true rfl ?_
 refine hc_seq ?_
 refine hc_region ?_
 refine hl_v rfl rfl rfl (rv_ev rfl) ?_
 refine hl_less (sx 0 rfl (sx 2 rfl (sx 3 rfl (sub_nil _)))) (.refl _) ?_
 refine hl_nil ?_
 refine hq_then ?_
 refine hc_ret ?_
 refine hq_then_ret ?_
 exact hq_ans rfl rfl rfl
set_option maxHeartbeats 4000000 in
set_option maxRecDepth 100000 in
theorem btoi_f  (w : World)  :
  Calls Try.prog 38 #[.bool false] w (Ans w (.int .i64 0)) := by
 refine calls_hc (N := 4) (args := [.bool false]) Try.func38 rfl rfl ?_
 refine hc_less _ (sx 0 rfl (sub_nil _)) (.refl _) ?_
 refine hc_seq ?_
 refine hc_region ?_
 refine hl_v rfl rfl rfl (rv_ev rfl) ?_
 refine hl_less (sx 0 rfl (sx 2 rfl (sub_nil _))) (.refl _) ?_
 refine hl_nil ?_
 refine hq_then ?_
 refine hc_seq ?_
 refine hc_seq ?_
 refine hc_region ?_
 refine hl_v rfl rfl rfl (rv_ev rfl) ?_
 refine hl_less (sx 0 rfl (sx 2 rfl (sx 3 rfl (sub_nil _)))) (.refl _) ?_
 refine hl_nil ?_
 refine hq_then ?_
 refine hc_false rfl ?_
 refine hc_skip ?_
 refine hq_then ?_
 refine hc_seq ?_
 refine hc_region ?_
 refine hl_v rfl rfl rfl (rv_ev rfl) ?_
 refine hl_less (sx 0 rfl (sx 2 rfl (sx 3 rfl (sub_nil _)))) (.refl _) ?_
 refine hl_nil ?_
 refine hq_then ?_
 refine hc_ret ?_
 exact hq_ans rfl rfl rfl
set_option maxHeartbeats 4000000 in
set_option maxRecDepth 100000 in
theorem walk_FnCoverLogic (a0 : Option Addr) (len0 cap0 : Nat) (z0 : List Int) (w : World) (hbr : BRow .u8 w a0 len0 cap0 z0) :
  Calls Try.prog 8 #[.slice a0 len0 cap0] w (Ans w (.bool true)) := by
 have hcd0 := cod_le hbr 0
 refine calls_hc (N := 87) (args := [.slice a0 len0 cap0]) Try.func8 rfl rfl ?_
 refine hc_less _ (sx 0 rfl (sub_nil _)) (.refl _) ?_
 refine hc_seq ?_
 refine hc_region ?_
 refine hl_v rfl rfl rfl (rv_ev rfl) ?_
 refine hl_less (sx 0 rfl (sx 2 rfl (sub_nil _))) (.refl _) ?_
 refine hl_nil ?_
 refine hq_then ?_
 refine hc_seq ?_
 refine hc_seq ?_
 refine hc_region ?_
 refine hl_v rfl rfl rfl (rv_ev rfl) ?_
 refine hl_callV rfl rfl rfl (rq_call (by kernel_rfl) rfl (fun w hm => ret_ans (ans_of (big_any a0 len0 cap0 w (hbr.len_le))))) ?_
 refine hl_bool (fun h1 => ?_) (fun h1 => ?_)
 ·
  have h1p := of_decide_eq_true h1
  refine hl_less (sx 0 rfl (sx 2 rfl (sx 14 rfl (sub_nil _)))) (.refl _) ?_
  refine hl_nil ?_
  refine hq_then ?_
  refine hc_true rfl ?_
  refine hc_seq ?_
  refine hc_region ?_
  refine hl_v rfl rfl rfl (rv_ev rfl) ?_
  refine hl_less (sx 0 rfl (sx 2 rfl (sx 14 rfl (sub_nil _)))) (.refl _) ?_
  refine hl_nil ?_
  refine hq_then ?_
  refine hc_ret ?_
  refine hq_then_ret ?_
  exact hq_ans rfl rfl rfl
 ·
  have h1p := of_decide_eq_false h1
  refine hl_less (sx 0 rfl (sx 2 rfl (sx 14 rfl (sub_nil _)))) (.refl _) ?_
  refine hl_nil ?_
  refine hq_then ?_
  refine hc_false rfl ?_
  refine hc_skip ?_
  refine hq_then ?_
  refine hc_seq ?_
  refine hc_region ?_
  refine hl_v rfl rfl rfl (rv_ev rfl) ?_
  refine hl_q rfl rfl rfl (rq_call (by kernel_rfl) rfl (fun w hm => DrawTable_ret _ _ _ z0 w (hbr.below hm.bel) (by omega))) ?_
  intro v2 p3 hR4
  obtain ⟨rfl, t, x9, ht, rfl⟩ := hR4
  have hn4 := ht.1
  have hpn := pn_rng hn4
  refine hl_v rfl rfl rfl (rv_ev rfl) ?_
  refine hl_v rfl rfl rfl (rv_ev rfl) ?_
  refine hl_v rfl rfl rfl (rv_ev rfl) ?_
  refine hl_box rfl rfl rfl (rq_alloc (z := .agg #[.int .i64 0, .int .i64 0]) rfl (by kernel_rfl)) ?_
  intro b5
  refine hl_storeBoxN (i := 0) (off := 0) (us := [.int .i64 t.N, .int .i64 t.B]) (l' := [boxE b5 #[.int .i64 t.N, .int .i64 t.B] 55]) rfl rfl rfl (by kernel_rfl) rfl rfl rfl (all_cons rfl (all_cons rfl all_nil)) rfl rfl rfl ?_
  refine hl_v rfl rfl rfl (rv_ev rfl) ?_
  refine hl_less (sx 0 rfl (sx 2 rfl (sx 3 rfl (sx 14 rfl (sub_nil _))))) (.refl _) ?_
  refine hl_nil ?_
  refine hq_then ?_
  refine hc_seq ?_
  refine hc_region ?_
  refine hl_v rfl rfl rfl (rv_ev rfl) ?_
  refine hl_q rfl rfl rfl (rq_call (by kernel_rfl) rfl (fun w hm => DrawNet_ret _ _ _ z0 w (hbr.below hm.bel) (by omega))) ?_
  intro v6 p7 hR8
  obtain ⟨n, rfl, rfl, ⟨o1n, o2n, o3n⟩, hn, hnq1, hnq2, hnq3⟩ := hR8
  have hi0 := hn.i0
  have hi1 := hn.i1
  have hs1 := hn.s1
  have ha1 := hn.a1
  have ho1 := hn.o1
  have hcnt : n.cnt = 1 + n.ins + n.ss.length + n.gs.length := rfl
  have hfst : n.fst = 1 + n.ins + n.ss.length := rfl
  refine hl_box rfl rfl rfl (rq_alloc (z := .agg #[.int .i64 0, .slice none 0 0, .slice none 0 0, .slice none 0 0]) rfl (by kernel_rfl)) ?_
  intro b9
  refine hl_storeBoxN (i := 0) (off := 0) (us := [.int .i64 n.ins, n.sv, n.av, n.ov]) (l' := [boxE b9 #[.int .i64 n.ins, n.sv, n.av, n.ov] 28, ntE n, boxE b5 #[.int .i64 t.N, .int .i64 t.B] 55]) rfl rfl rfl (by kernel_rfl) rfl rfl rfl (all_cons rfl (all_cons o1n (all_cons o2n (all_cons o3n all_nil)))) rfl rfl rfl ?_
  refine hl_less (sx 0 rfl (sx 2 rfl (sx 3 rfl (sx 5 rfl (sx 14 rfl (sub_nil _)))))) (.refl _) ?_
  refine hl_nil ?_
  refine hq_then ?_
  refine hc_seq ?_
  refine hc_region ?_
  refine hl_row rfl rfl rfl (rq_slice0 (s := 1) rfl Try.underlying26 (by kernel_rfl)) ?_
  intro g10
  refine hl_v rfl rfl rfl (rv_ev rfl) ?_
  refine hl_less (sx 0 rfl (sx 2 rfl (sx 3 rfl (sx 5 rfl (sx 6 rfl (sx 14 rfl (sub_nil _))))))) (.refl _) ?_
  refine hl_nil ?_
  refine hq_then ?_
  refine hc_seq ?_
  refine hc_draw (by kernel_rfl) 6 [0, 1, 2, 3, 4, 5] (List.take 6 _) (List.drop 6 _) [[], [], [1], [], [3], [0, 2, 4]] [23, 24, 25, 26, 27, 28] (fun i_ vs_ v_ p_ => match i_ with | 0 => v_ = .agg #[.int .i64 n.ins, n.sv, n.av, n.ov] ∧ p_ = [] | 1 => v_ = .agg #[.int .i64 n.ins, n.sv, n.av, n.ov] ∧ p_ = [] | 2 => (fun v' post => post = [rowE 3 1 v' (stL n).length ((stL n).map (Value.int .i64))]) v_ p_ | 3 => v_ = .slice a0 len0 cap0 ∧ p_ = [] | 4 => v_ = .int .i64 (cod z0 len0 0 : Int) ∧ p_ = [] | 5 => (fun v' post => post = [rowE 3 1 v' (valsL n (stL n) (cod z0 len0 0 : Int)).length ((valsL n (stL n) (cod z0 len0 0 : Int)).map (Value.int .i64))]) v_ p_ | _ => True) (List.take_append_drop 6 _).symm (by kernel_rfl) (by kernel_rfl) rfl rfl ?_ ?_
  ·
   refine ⟨?_, ?_, ?_, ?_, ?_, ?_, trivial⟩
   ·
    intro vf pf hR
    refine Or.inl ⟨rfl, ?_⟩
    refine rq_less (sx 5 rfl (sub_nil _)) (List.sublist_append_right _ _) ?_
    exact rq_v (rv_loadN (cs := [.int .i64 n.ins, n.sv, n.av, n.ov]) rfl (by kernel_rfl) (by kernel_rfl) rfl rfl (box_part 1 rfl 0 rfl))
   ·
    intro vf pf hR
    refine Or.inl ⟨rfl, ?_⟩
    refine rq_less (sx 5 rfl (sub_nil _)) (List.sublist_append_right _ _) ?_
    exact rq_v (rv_loadN (cs := [.int .i64 n.ins, n.sv, n.av, n.ov]) rfl (by kernel_rfl) (by kernel_rfl) rfl rfl (box_part 1 rfl 0 rfl))
   ·
    intro vf pf hR
    have e1 : (vf 1) = .agg #[.int .i64 n.ins, n.sv, n.av, n.ov] ∧ (pf 1) = [] := hR 1 (by decide)
    refine Or.inl ⟨rfl, ?_⟩
    refine rq_less (sx 24 (congrArg some e1.1) (sub_nil _)) (List.sublist_append_right _ _) ?_
    exact rq_call (by kernel_rfl) rfl (fun w hm => NetStart_ret n w (nt_rds 2 rfl w hm) hn)
   ·
    intro vf pf hR
    refine Or.inl ⟨rfl, ?_⟩
    refine rq_less (sx 0 rfl (sub_nil _)) (List.sublist_append_right _ _) ?_
    exact rq_v (rv_ev rfl)
   ·
    intro vf pf hR
    have e3 : (vf 3) = .slice a0 len0 cap0 ∧ (pf 3) = [] := hR 3 (by decide)
    refine Or.inl ⟨rfl, ?_⟩
    refine rq_less (sx 26 (congrArg some e3.1) (sub_nil _)) (List.sublist_append_right _ _) ?_
    exact (rq_call (by kernel_rfl) rfl (fun w hm => ret_ans (at_ans hbr 0 (by omega) w hm)))
   ·
    intro vf pf hR
    have e0 : (vf 0) = .agg #[.int .i64 n.ins, n.sv, n.av, n.ov] ∧ (pf 0) = [] := hR 0 (by decide)
    have e2 : (fun v' post => post = [rowE 3 1 v' (stL n).length ((stL n).map (Value.int .i64))]) (vf 2) (pf 2) := hR 2 (by decide)
    obtain ⟨v11, v2⟩ : ∃ x, vf 2 = x := ⟨_, rfl⟩
    obtain ⟨p12, p2⟩ : ∃ x, pf 2 = x := ⟨_, rfl⟩
    have hR13 := e2
    rw [v2, p2] at hR13
    subst hR13
    have e4 : (vf 4) = .int .i64 (cod z0 len0 0 : Int) ∧ (pf 4) = [] := hR 4 (by decide)
    refine Or.inl ⟨rfl, ?_⟩
    refine rq_less (l' := [rowE 3 1 v11 ((stL n).length) ((stL n).map (Value.int .i64)), rowE 3 1 (.slice (some ⟨g10, 0, none⟩) 0 0) 0 ([]), boxE b9 #[.int .i64 n.ins, n.sv, n.av, n.ov] 28, ntE n, boxE b5 #[.int .i64 t.N, .int .i64 t.B] 55]) (sx 23 (congrArg some e0.1) (sx 25 (congrArg some v2) (sx 27 (congrArg some e4.1) (sub_nil _)))) (by first | (simp only [p2, v2, e0.2, e4.2, List.flatMap_cons, List.flatMap_nil, List.append_nil, List.nil_append, List.cons_append]; exact List.Sublist.refl _) | simp [p2, v2, e0.2, e4.2]) ?_
    exact rq_call (by kernel_rfl) rfl (fun w hm => specNodeValues_ret n (stL n) _ (cod z0 len0 0 : Int) w (nt_rds 3 rfl w hm) hn ((rd_row 0 rfl) w hm) (start_ok hn) (by omega))
  ·
   intro vf pf hR
   have e2 : (fun v' post => post = [rowE 3 1 v' (stL n).length ((stL n).map (Value.int .i64))]) (vf 2) (pf 2) := hR 2 (by decide)
   obtain ⟨v11, v2⟩ : ∃ x, vf 2 = x := ⟨_, rfl⟩
   obtain ⟨p12, p2⟩ : ∃ x, pf 2 = x := ⟨_, rfl⟩
   have hR13 := e2
   rw [v2, p2] at hR13
   subst hR13
   have e5 : (fun v' post => post = [rowE 3 1 v' (valsL n (stL n) (cod z0 len0 0 : Int)).length ((valsL n (stL n) (cod z0 len0 0 : Int)).map (Value.int .i64))]) (vf 5) (pf 5) := hR 5 (by decide)
   obtain ⟨v14, v5⟩ : ∃ x, vf 5 = x := ⟨_, rfl⟩
   obtain ⟨p15, p5⟩ : ∃ x, pf 5 = x := ⟨_, rfl⟩
   have hR16 := e5
   rw [v5, p5] at hR16
   subst hR16
   have q0 : (vf 0) = .agg #[.int .i64 n.ins, n.sv, n.av, n.ov] ∧ (pf 0) = [] := hR 0 (by decide)
   have q1 : (vf 1) = .agg #[.int .i64 n.ins, n.sv, n.av, n.ov] ∧ (pf 1) = [] := hR 1 (by decide)
   have q3 : (vf 3) = .slice a0 len0 cap0 ∧ (pf 3) = [] := hR 3 (by decide)
   have q4 : (vf 4) = .int .i64 (cod z0 len0 0 : Int) ∧ (pf 4) = [] := hR 4 (by decide)
   refine hl_less (l' := [rowE 3 1 v11 ((stL n).length) ((stL n).map (Value.int .i64)), rowE 3 1 v14 ((valsL n (stL n) (cod z0 len0 0 : Int)).length) ((valsL n (stL n) (cod z0 len0 0 : Int)).map (Value.int .i64)), rowE 3 1 (.slice (some ⟨g10, 0, none⟩) 0 0) 0 ([]), boxE b9 #[.int .i64 n.ins, n.sv, n.av, n.ov] 28, ntE n, boxE b5 #[.int .i64 t.N, .int .i64 t.B] 55]) (sx 0 rfl (sx 2 rfl (sx 3 rfl (sx 5 rfl (sx 6 rfl (sx 14 rfl (sx 28 (congrArg some v5) (sub_nil _)))))))) (by first | (simp only [p2, v2, p5, v5, q0.2, q1.2, q3.2, q4.2, List.flatMap_cons, List.flatMap_nil, List.append_nil, List.nil_append, List.cons_append]; exact List.Sublist.refl _) | simp [p2, v2, p5, v5, q0.2, q1.2, q3.2, q4.2]) ?_
   simp only [List.drop_succ_cons, List.drop_zero]
   refine hl_v rfl rfl rfl (rv_ev rfl) ?_
   refine hl_less (sx 0 rfl (sx 2 rfl (sx 3 rfl (sx 5 rfl (sx 6 rfl (sx 7 rfl (sx 14 rfl (sub_nil _)))))))) (.refl _) ?_
   refine hl_nil ?_
   refine hq_then ?_
   refine hc_seq ?_
   refine hc_region ?_
   have hst0 : (stL n).length = n.ss.length := str_len n (Nat.le_refl _)
   have hvl : ((valsL n (stL n) (cod z0 len0 0 : Int)).length : Int) = n.cnt := by have h9 : (valsL n (stL n) (cod z0 len0 0 : Int)).length = _ := val_len n (stL n) (cod z0 len0 0 : Int) n.gs.length (Nat.le_refl _); omega
   have hv01 : B01 (valsL n (stL n) (cod z0 len0 0 : Int)) := val01 hn hst0 _ _ (Nat.le_refl _)
   refine hl_v rfl rfl rfl (rv_ev rfl) ?_
   refine hl_less (sx 0 rfl (sx 2 rfl (sx 3 rfl (sx 5 rfl (sx 6 rfl (sx 7 rfl (sx 8 rfl (sx 14 rfl (sub_nil _))))))))) (.refl _) ?_
   refine hl_nil ?_
   refine hq_then ?_
   refine hc_seq ?_
   refine hc_seq ?_
   refine hc_region ?_
   refine hl_v rfl rfl rfl (rv_ev rfl) ?_
   refine hl_less (sx 0 rfl (sx 2 rfl (sx 3 rfl (sx 5 rfl (sx 6 rfl (sx 7 rfl (sx 8 rfl (sx 9 rfl (sx 14 rfl (sub_nil _)))))))))) (.refl _) ?_
   refine hl_nil ?_
   refine hq_then ?_
   refine hc_block ?_
   refine hc_loop3 (α := Nat) (β := Value) (γ := List Int) (fun k u zs => [rowE 3 1 v11 ((stL n).length) ((stL n).map (Value.int .i64)), rowE 3 1 v14 ((valsL n (stL n) (cod z0 len0 0 : Int)).length) ((valsL n (stL n) (cod z0 len0 0 : Int)).map (Value.int .i64)), rowE 3 1 u zs.length (zs.map (Value.int .i64)), boxE b9 #[.int .i64 n.ins, n.sv, n.av, n.ov] 28, ntE n, boxE b5 #[.int .i64 t.N, .int .i64 t.B] 55]) (fun k u zs => [(0, .slice a0 len0 cap0), (2, .bool false), (3, .pointer (some ⟨b5, 0, none⟩)), (5, .pointer (some ⟨b9, 0, none⟩)), (6, u), (7, v14), (8, .int .i64 (tbN (lvB z0 len0 n) k : Int)), (9, .int .i64 (k : Int)), (14, .bool false)]) (fun k u zs => (k : Int) ≤ t.N ∧ zs = lsL z0 len0 n k) (fun k u zs => t.N.toNat - k) 0 _ [] ⟨by omega, rfl⟩ (sx 0 rfl (sx 2 rfl (sx 3 rfl (sx 5 rfl (sx 6 rfl (sx 7 rfl (sx 8 rfl (sx 9 rfl (sx 14 rfl (sub_nil _)))))))))) ((.cons_cons _ (.cons_cons _ (.cons_cons _ (.cons_cons _ (.cons_cons _ (.cons_cons _ .slnil))))))) ?_
   intro k u zs hi17
   obtain ⟨hk, hz⟩ := hi17
   have hzl : zs.length = k := by rw [hz]; exact lsL_len _ _ _ _
   have htl := tbN_lt (lvB z0 len0 n) k
   have htl2 : 2 ^ k ≤ 2 ^ 4 := Nat.pow_le_pow_right (by decide) (by omega)
   have hcdk := cod_le hbr (((k : Int) + 1)).toNat
   refine hc_seq ?_
   refine hc_seq ?_
   refine hc_region ?_
   refine hl_v rfl rfl rfl (rv_ev rfl) ?_
   refine hl_v rfl rfl rfl (rv_field (k0 := 0) rfl (by kernel_rfl) rfl) ?_
   refine hl_v rfl rfl rfl (rv_load rfl (by kernel_rfl) rfl (box_cell 5 rfl rfl)) ?_
   refine hl_lss rfl rfl rfl rfl rfl rfl (fun h18 => ?_) (fun h18 => ?_)
   ·
    refine hl_less (sx 0 rfl (sx 2 rfl (sx 3 rfl (sx 5 rfl (sx 6 rfl (sx 7 rfl (sx 8 rfl (sx 9 rfl (sx 14 rfl (sx 32 rfl (sub_nil _))))))))))) (.refl _) ?_
    refine hl_nil ?_
    refine hq_then ?_
    refine hc_true rfl ?_
    refine hc_skip ?_
    refine hq_then ?_
    refine hc_seq ?_
    refine hc_block ?_
    refine hc_seq ?_
    refine hc_draw (by kernel_rfl) 10 [0, 1, 2, 3, 4, 5, 6, 7, 8, 9] (List.take 10 _) (List.drop 10 _) [[], [], [], [2], [1, 3], [], [5], [6], [4, 7], [8]] [35, 36, 37, 38, 39, 40, 41, 42, 43, 44] (fun i_ vs_ v_ p_ => match i_ with | 0 => v_ = u ∧ p_ = [] | 1 => v_ = .slice a0 len0 cap0 ∧ p_ = [] | 2 => v_ = .int .i64 (k : Int) ∧ p_ = [] | 3 => v_ = .int .i64 ((k : Int) + 1) ∧ p_ = [] | 4 => v_ = .int .i64 (cod z0 len0 ((k : Int) + 1).toNat : Int) ∧ p_ = [] | 5 => v_ = .agg #[.int .i64 n.ins, n.sv, n.av, n.ov] ∧ p_ = [] | 6 => v_ = .int .i64 n.cnt ∧ p_ = [] | 7 => v_ = .int .i64 (2 * n.cnt) ∧ p_ = [] | 8 => v_ = .int .i64 ((cod z0 len0 ((k : Int) + 1).toNat : Int) % (2 * n.cnt)) ∧ p_ = [] | 9 => IsRow_o 3 1 1 ([(cod z0 len0 ((k : Int) + 1).toNat : Int) % (2 * n.cnt)].map (Value.int .i64)) v_ p_ | _ => True) (List.take_append_drop 10 _).symm (by kernel_rfl) (by kernel_rfl) rfl rfl ?_ ?_
    ·
     refine ⟨?_, ?_, ?_, ?_, ?_, ?_, ?_, ?_, ?_, ?_, trivial⟩
     ·
      intro vf pf hR
      refine Or.inl ⟨rfl, ?_⟩
      refine rq_less (sx 6 rfl (sub_nil _)) (List.sublist_append_right _ _) ?_
      exact rq_v (rv_ev rfl)
     ·
      intro vf pf hR
      refine Or.inl ⟨rfl, ?_⟩
      refine rq_less (sx 0 rfl (sub_nil _)) (List.sublist_append_right _ _) ?_
      exact rq_v (rv_ev rfl)
     ·
      intro vf pf hR
      refine Or.inl ⟨rfl, ?_⟩
      refine rq_less (sx 9 rfl (sub_nil _)) (List.sublist_append_right _ _) ?_
      exact rq_v (rv_ev rfl)
     ·
      intro vf pf hR
      have e2 : (vf 2) = .int .i64 (k : Int) ∧ (pf 2) = [] := hR 2 (by decide)
      refine Or.inl ⟨rfl, ?_⟩
      refine rq_less (sx 37 (congrArg some e2.1) (sub_nil _)) (List.sublist_append_right _ _) ?_
      exact rq_v (rv_add rfl rfl rfl (by constructor <;> omega))
     ·
      intro vf pf hR
      have e1 : (vf 1) = .slice a0 len0 cap0 ∧ (pf 1) = [] := hR 1 (by decide)
      have e3 : (vf 3) = .int .i64 ((k : Int) + 1) ∧ (pf 3) = [] := hR 3 (by decide)
      refine Or.inl ⟨rfl, ?_⟩
      refine rq_less (sx 36 (congrArg some e1.1) (sx 38 (congrArg some e3.1) (sub_nil _))) (List.sublist_append_right _ _) ?_
      exact (rq_call (by kernel_rfl) rfl (fun w hm => ret_ans (at_ans hbr ((k : Int) + 1).toNat (by omega) w hm)))
     ·
      intro vf pf hR
      refine Or.inl ⟨rfl, ?_⟩
      refine rq_less (sx 5 rfl (sub_nil _)) (List.sublist_append_right _ _) ?_
      exact rq_v (rv_loadN (cs := [.int .i64 n.ins, n.sv, n.av, n.ov]) rfl (by kernel_rfl) (by kernel_rfl) rfl rfl (box_part 3 rfl 0 rfl))
     ·
      intro vf pf hR
      have e5 : (vf 5) = .agg #[.int .i64 n.ins, n.sv, n.av, n.ov] ∧ (pf 5) = [] := hR 5 (by decide)
      refine Or.inl ⟨rfl, ?_⟩
      refine rq_less (sx 40 (congrArg some e5.1) (sub_nil _)) (List.sublist_append_right _ _) ?_
      exact (rq_call (by kernel_rfl) rfl (fun w hm => ret_ans (specNodeCount_yes n w (nt_rds 4 rfl w hm) hn)))
     ·
      intro vf pf hR
      have e6 : (vf 6) = .int .i64 n.cnt ∧ (pf 6) = [] := hR 6 (by decide)
      refine Or.inl ⟨rfl, ?_⟩
      refine rq_less (sx 41 (congrArg some e6.1) (sub_nil _)) (List.sublist_append_right _ _) ?_
      exact rq_v (rv_mul rfl rfl rfl (by constructor <;> omega))
     ·
      intro vf pf hR
      have e4 : (vf 4) = .int .i64 (cod z0 len0 ((k : Int) + 1).toNat : Int) ∧ (pf 4) = [] := hR 4 (by decide)
      have e7 : (vf 7) = .int .i64 (2 * n.cnt) ∧ (pf 7) = [] := hR 7 (by decide)
      refine Or.inl ⟨rfl, ?_⟩
      refine rq_less (sx 39 (congrArg some e4.1) (sx 42 (congrArg some e7.1) (sub_nil _))) (List.sublist_append_right _ _) ?_
      exact rq_v (rv_rem rfl rfl rfl (by constructor <;> omega))
     ·
      intro vf pf hR
      have e8 : (vf 8) = .int .i64 ((cod z0 len0 ((k : Int) + 1).toNat : Int) % (2 * n.cnt)) ∧ (pf 8) = [] := hR 8 (by decide)
      refine Or.inl ⟨rfl, ?_⟩
      refine rq_less (sx 43 (congrArg some e8.1) (sub_nil _)) (List.sublist_append_right _ _) ?_
      exact rq_buildSlice (z := .int .i64 0) (s := 1) (cs := ([(cod z0 len0 ((k : Int) + 1).toNat : Int) % (2 * n.cnt)].map (Value.int .i64))) rfl Try.underlying26 (by kernel_rfl) (by decide) rfl (by kernel_rfl) rfl
    ·
     intro vf pf hR
     have e0 : (vf 0) = u ∧ (pf 0) = [] := hR 0 (by decide)
     have e9 : IsRow_o 3 1 1 ([(cod z0 len0 ((k : Int) + 1).toNat : Int) % (2 * n.cnt)].map (Value.int .i64)) (vf 9) (pf 9) := hR 9 (by decide)
     obtain ⟨g19, v9, p9⟩ := e9
     have q0 : (vf 0) = u ∧ (pf 0) = [] := hR 0 (by decide)
     have q1 : (vf 1) = .slice a0 len0 cap0 ∧ (pf 1) = [] := hR 1 (by decide)
     have q2 : (vf 2) = .int .i64 (k : Int) ∧ (pf 2) = [] := hR 2 (by decide)
     have q3 : (vf 3) = .int .i64 ((k : Int) + 1) ∧ (pf 3) = [] := hR 3 (by decide)
     have q4 : (vf 4) = .int .i64 (cod z0 len0 ((k : Int) + 1).toNat : Int) ∧ (pf 4) = [] := hR 4 (by decide)
     have q5 : (vf 5) = .agg #[.int .i64 n.ins, n.sv, n.av, n.ov] ∧ (pf 5) = [] := hR 5 (by decide)
     have q6 : (vf 6) = .int .i64 n.cnt ∧ (pf 6) = [] := hR 6 (by decide)
     have q7 : (vf 7) = .int .i64 (2 * n.cnt) ∧ (pf 7) = [] := hR 7 (by decide)
     have q8 : (vf 8) = .int .i64 ((cod z0 len0 ((k : Int) + 1).toNat : Int) % (2 * n.cnt)) ∧ (pf 8) = [] := hR 8 (by decide)
     refine hl_less (l' := [rowE 3 1 (.slice (some ⟨g19, 0, none⟩) 1 1) 1 ([(cod z0 len0 ((k : Int) + 1).toNat : Int) % (2 * n.cnt)].map (Value.int .i64)), rowE 3 1 v11 ((stL n).length) ((stL n).map (Value.int .i64)), rowE 3 1 v14 ((valsL n (stL n) (cod z0 len0 0 : Int)).length) ((valsL n (stL n) (cod z0 len0 0 : Int)).map (Value.int .i64)), rowE 3 1 u zs.length (zs.map (Value.int .i64)), boxE b9 #[.int .i64 n.ins, n.sv, n.av, n.ov] 28, ntE n, boxE b5 #[.int .i64 t.N, .int .i64 t.B] 55]) (sx 0 rfl (sx 2 rfl (sx 3 rfl (sx 5 rfl (sx 6 rfl (sx 7 rfl (sx 8 rfl (sx 9 rfl (sx 14 rfl (sx 32 rfl (sx 35 (congrArg some e0.1) (sx 44 (congrArg some v9) (sub_nil _))))))))))))) (by first | (simp only [p9, v9, q0.2, q1.2, q2.2, q3.2, q4.2, q5.2, q6.2, q7.2, q8.2, List.flatMap_cons, List.flatMap_nil, List.append_nil, List.nil_append, List.cons_append]; exact List.Sublist.refl _) | simp [p9, v9, q0.2, q1.2, q2.2, q3.2, q4.2, q5.2, q6.2, q7.2, q8.2]) ?_
     simp only [List.drop_succ_cons, List.drop_zero]
     refine hl_append (i := 3) (z := .int .i64 0) (bytes := 8) (n' := (zs ++ ([(cod z0 len0 ((k : Int) + 1).toNat : Int) % (2 * n.cnt)])).length) (xs' := ((zs ++ ([(cod z0 len0 ((k : Int) + 1).toNat : Int) % (2 * n.cnt)])).map (Value.int .i64))) (L := fun v20 => [rowE 3 1 (.slice (some ⟨g19, 0, none⟩) 1 1) 1 ([(cod z0 len0 ((k : Int) + 1).toNat : Int) % (2 * n.cnt)].map (Value.int .i64)), rowE 3 1 v11 ((stL n).length) ((stL n).map (Value.int .i64)), rowE 3 1 v14 ((valsL n (stL n) (cod z0 len0 0 : Int)).length) ((valsL n (stL n) (cod z0 len0 0 : Int)).map (Value.int .i64)), rowE 3 1 v20 ((zs ++ ([(cod z0 len0 ((k : Int) + 1).toNat : Int) % (2 * n.cnt)])).length) ((zs ++ ([(cod z0 len0 ((k : Int) + 1).toNat : Int) % (2 * n.cnt)])).map (Value.int .i64)), boxE b9 #[.int .i64 n.ins, n.sv, n.av, n.ov] 28, ntE n, boxE b5 #[.int .i64 t.N, .int .i64 t.B] 55]) rfl rfl rfl rfl Try.underlying26 (by kernel_rfl) (by kernel_rfl) rfl rfl rfl (rd_row 0 rfl) (ints_one _) (by first | omega | (simp; omega)) (len_app zs ([(cod z0 len0 ((k : Int) + 1).toNat : Int) % (2 * n.cnt)])) (ints_app zs ([(cod z0 len0 ((k : Int) + 1).toNat : Int) % (2 * n.cnt)])) (fun _ => rfl) ?_
     intro v20
     refine hl_v rfl rfl rfl (rv_ev rfl) ?_
     refine hl_less (sx 0 rfl (sx 2 rfl (sx 3 rfl (sx 5 rfl (sx 6 rfl (sx 7 rfl (sx 8 rfl (sx 9 rfl (sx 14 rfl (sx 32 rfl (sub_nil _))))))))))) (.refl _) ?_
     refine hl_nil ?_
     refine hq_then ?_
     refine hc_region ?_
     refine hl_v rfl rfl rfl (rv_ev rfl) ?_
     refine hl_v rfl rfl rfl (rv_ev rfl) ?_
     refine hl_v rfl rfl rfl (rv_ev rfl) ?_
     refine hl_v rfl rfl rfl (rv_ev rfl) ?_
     have hzl2 : (zs ++ ([(cod z0 len0 ((k : Int) + 1).toNat : Int) % (2 * n.cnt)])).length = k + 1 := by simp [hzl]
     refine hl_v rfl rfl rfl (rv_index (s := 1) rfl Try.underlying26 (by kernel_rfl) rfl rfl (rd_row 3 rfl) (by omega) (by first | omega | (simp only [List.length_set]; omega))) ?_
     refine hl_v rfl rfl rfl (rv_loadEl (u := .int .i64 ((zs ++ ([(cod z0 len0 ((k : Int) + 1).toNat : Int) % (2 * n.cnt)])).getD k 0)) rfl (by kernel_rfl) rfl (rd_row 3 rfl) (ints_at1 (show _ < (zs ++ ([(cod z0 len0 ((k : Int) + 1).toNat : Int) % (2 * n.cnt)])).length by first | omega | (simp only [List.length_set]; omega)))) ?_
     rw [show (zs ++ ([(cod z0 len0 ((k : Int) + 1).toNat : Int) % (2 * n.cnt)])).getD k 0 = lvF z0 len0 n k by rw [getD_right (by omega), hzl, Nat.sub_self]; rfl]
     obtain ⟨hlk0, hlk1⟩ := lvF_ok z0 len0 (n := n) (by omega) k
     have hb01 : bitL (valsL n (stL n) (cod z0 len0 0 : Int)) (lvF z0 len0 n k) = 0 ∨ bitL (valsL n (stL n) (cod z0 len0 0 : Int)) (lvF z0 len0 n k) = 1 := bits01 (gs := n.gs) hn hst0 _ (lvF_ok z0 len0 (by omega) k)
     refine hl_callV rfl rfl rfl (rq_call (by kernel_rfl) rfl (fun w hm => ret_ans (specLitValue_ans (valsL n (stL n) (cod z0 len0 0 : Int)) (lvF z0 len0 n k) _ w ((rd_row 2 rfl) w hm) (by omega) (hv01 _ (by omega)) (by omega)))) ?_
     refine hl_v rfl rfl rfl (rv_ev rfl) ?_
     refine hl_v rfl rfl rfl (rv_shlG (k := .i64) (kk := .i64) (r := ((if (lvB z0 len0 n) k = true then 2 ^ k else 0 : Nat) : Int)) rfl rfl rfl rfl (by omega) (shl_b hb01 (by omega))) ?_
     refine hl_v rfl rfl rfl (rv_add rfl rfl rfl (by constructor <;> (split <;> omega))) ?_
     refine hl_v rfl rfl rfl (rv_ev rfl) ?_
     refine hl_less (sx 0 rfl (sx 2 rfl (sx 3 rfl (sx 5 rfl (sx 6 rfl (sx 7 rfl (sx 8 rfl (sx 9 rfl (sx 14 rfl (sx 32 rfl (sub_nil _))))))))))) (.refl _) ?_
     refine hl_nil ?_
     refine hq_block_normal ?_
     refine hq_then ?_
     refine hc_region ?_
     refine hl_v rfl rfl rfl (rv_ev rfl) ?_
     refine hl_v rfl rfl rfl (rv_add rfl rfl rfl (by constructor <;> omega)) ?_
     refine hl_v rfl rfl rfl (rv_ev rfl) ?_
     refine hl_less (sx 0 rfl (sx 2 rfl (sx 3 rfl (sx 5 rfl (sx 6 rfl (sx 7 rfl (sx 8 rfl (sx 9 rfl (sx 14 rfl (sx 32 rfl (sub_nil _))))))))))) (.refl _) ?_
     refine hl_nil ?_
     exact hq_round3 (k + 1) v20 (zs ++ ([(cod z0 len0 ((k : Int) + 1).toNat : Int) % (2 * n.cnt)])) ⟨by omega, by rw [lsL_succ, hz]; rfl⟩ (by omega) (sx 0 rfl (sx 2 rfl (sx 3 rfl (sx 5 rfl (sx 6 rfl (sx 7 rfl (sx 8 rfl (sx 9 rfl (sx 14 rfl (sub_nil _)))))))))) ((.cons _ (.cons_cons _ (.cons_cons _ (.cons_cons _ (.cons_cons _ (.cons_cons _ (.cons_cons _ .slnil))))))))
   ·
    refine hl_less (sx 0 rfl (sx 2 rfl (sx 3 rfl (sx 5 rfl (sx 6 rfl (sx 7 rfl (sx 8 rfl (sx 9 rfl (sx 14 rfl (sx 32 rfl (sub_nil _))))))))))) (.refl _) ?_
    refine hl_nil ?_
    refine hq_then ?_
    refine hc_false rfl ?_
    refine hc_exit ?_
    refine hq_then_exit ?_
    refine hq_then_exit ?_
    refine hq_block_exit ?_
    refine hq_then ?_
    refine hc_seq ?_
    have hkN : (k : Int) = t.N := by omega
    have hls9 : ∀ q, q < zs.length → LtOk (zs.getD q 0) n.cnt := fun q hq => by rw [hz, lsL_at (by omega)]; exact lvF_ok z0 len0 (by omega) q
    have hl49 : zs.length ≤ 4 := by omega
    refine hc_draw3 (l := [rowE 3 1 v11 ((stL n).length) ((stL n).map (Value.int .i64)), rowE 3 1 v14 ((valsL n (stL n) (cod z0 len0 0 : Int)).length) ((valsL n (stL n) (cod z0 len0 0 : Int)).map (Value.int .i64)), rowE 3 1 u zs.length (zs.map (Value.int .i64)), boxE b9 #[.int .i64 n.ins, n.sv, n.av, n.ov] 28, ntE n, boxE b5 #[.int .i64 t.N, .int .i64 t.B] 55]) (by kernel_rfl) 10 [0, 1, 2, 3, 4, 5, 6, 7, 8, 9] (List.take 10 _) (List.drop 10 _) [[], [], [], [2], [0, 1, 3], [4], [4, 5], [4, 5], [], [4, 6, 8]] [some 57, some 58, some 59, some 60, some 61, some 56, some 62, some 63, some 10, none] (fun i_ vs_ v_ p_ => match i_ with | 0 => v_ = .agg #[.int .i64 n.ins, n.sv, n.av, n.ov] ∧ p_ = [] | 1 => v_ = u ∧ p_ = [] | 2 => v_ = .agg #[.int .i64 t.N, .int .i64 t.B] ∧ p_ = [] | 3 => (fun v_ p_ => ∃ cs : List (Nat × Nat), p_ = [rowE 139 2 v_ cs.length (cs.flatMap cubC)] ∧ MinOk t 0 cs) v_ p_ | 4 => (AddedC n t zs) v_ p_ | 5 => v_ = .tuple #[.agg #[.int .i64 (tIn (List.getD vs_ 0 undef)), (tSv (List.getD vs_ 0 undef)), (tAv (List.getD vs_ 0 undef)), (tOv (List.getD vs_ 0 undef))], .int .i64 (tX (List.getD vs_ 0 undef))] ∧ p_ = [] | 6 => v_ = .agg #[.int .i64 (tIn (List.getD vs_ 0 undef)), (tSv (List.getD vs_ 0 undef)), (tAv (List.getD vs_ 0 undef)), (tOv (List.getD vs_ 0 undef))] ∧ p_ = [] | 7 => v_ = .int .i64 (tX (List.getD vs_ 0 undef)) ∧ p_ = [] | 8 => IsBox #[.int .i64 0, .slice none 0 0, .slice none 0 0, .slice none 0 0] 28 v_ p_ | 9 => p_ = [boxE (blkOf (List.getD vs_ 2 undef)) #[.int .i64 (tIn (List.getD vs_ 0 undef)), (tSv (List.getD vs_ 0 undef)), (tAv (List.getD vs_ 0 undef)), (tOv (List.getD vs_ 0 undef))] 28] | _ => True) [[], [], [], [2], [0, 1, 3], [4], [4, 5], [4, 5], [], [4, 6]] [none, none, none, none, none, none, none, none, none, some 8] [] [0, 1, 2, 3, 4, 5, 6, 7, 9] 11 (List.take_append_drop 10 _).symm (by kernel_rfl) (by kernel_rfl) (by kernel_rfl) rfl rfl ?_ ?_
    ·
     refine ⟨?_, ?_, ?_, ?_, ?_, ?_, ?_, ?_, ?_, ?_, trivial⟩
     ·
      intro vf pf hmu hR
      refine Or.inl ⟨rfl, ?_⟩
      show RunQ _ _ _ (([] : List Nat).flatMap pf ++ _) (envOf3 _ vf [] ++ _) _ _
      refine rq_less (sx 5 rfl (sub_nil _)) (List.sublist_append_right _ _) ?_
      exact rq_v (rv_loadN (cs := [.int .i64 n.ins, n.sv, n.av, n.ov]) rfl (by kernel_rfl) (by kernel_rfl) rfl rfl (box_part 3 rfl 0 rfl))
     ·
      intro vf pf hmu hR
      refine Or.inl ⟨rfl, ?_⟩
      show RunQ _ _ _ (([] : List Nat).flatMap pf ++ _) (envOf3 _ vf [] ++ _) _ _
      refine rq_less (sx 6 rfl (sub_nil _)) (List.sublist_append_right _ _) ?_
      exact rq_v (rv_ev rfl)
     ·
      intro vf pf hmu hR
      refine Or.inl ⟨rfl, ?_⟩
      show RunQ _ _ _ (([] : List Nat).flatMap pf ++ _) (envOf3 _ vf [] ++ _) _ _
      refine rq_less (sx 3 rfl (sub_nil _)) (List.sublist_append_right _ _) ?_
      exact rq_v (rv_loadN (cs := [.int .i64 t.N, .int .i64 t.B]) rfl (by kernel_rfl) (by kernel_rfl) rfl rfl (box_part 5 rfl 0 rfl))
     ·
      intro vf pf hmu hR
      have e2 : (vf 2) = .agg #[.int .i64 t.N, .int .i64 t.B] ∧ (pf 2) = [] := hR 2 (by decide)
      refine Or.inl ⟨rfl, ?_⟩
      show RunQ _ _ _ (([2] : List Nat).flatMap pf ++ _) (envOf3 _ vf [2] ++ _) _ _
      refine rq_less (sx 59 (congrArg some e2.1) (sub_nil _)) (List.sublist_append_right _ _) ?_
      exact rq_call (by kernel_rfl) rfl (fun w hm => MinimalCover_ret t w ht)
     ·
      intro vf pf hmu hR
      have e0 : (vf 0) = .agg #[.int .i64 n.ins, n.sv, n.av, n.ov] ∧ (pf 0) = [] := hR 0 (by decide)
      have e1 : (vf 1) = u ∧ (pf 1) = [] := hR 1 (by decide)
      have e3 : (fun v_ p_ => ∃ cs : List (Nat × Nat), p_ = [rowE 139 2 v_ cs.length (cs.flatMap cubC)] ∧ MinOk t 0 cs) (vf 3) (pf 3) := hR 3 (by decide)
      obtain ⟨v21, v3⟩ : ∃ x, vf 3 = x := ⟨_, rfl⟩
      obtain ⟨p22, p3⟩ : ∃ x, pf 3 = x := ⟨_, rfl⟩
      have hR23 := e3
      rw [v3, p3] at hR23
      obtain ⟨cs, rfl, hmn⟩ := hR23
      have hc16 := hmn.len hn4
      have hok16 : CubsOk 16 cs := fun d hd => by have := hmn.ok d hd; omega
      have hokn : CubsOk (pn (zs.length : Int)) cs := by rw [hzl, hkN]; exact hmn.ok
      have hc57 : cs.length ≤ 57 := by omega
      refine Or.inl ⟨rfl, ?_⟩
      show RunQ _ _ _ (([0, 1, 3] : List Nat).flatMap pf ++ _) (envOf3 _ vf [0, 1, 3] ++ _) _ _
      refine rq_less (l' := [rowE 139 2 v21 cs.length (cs.flatMap cubC), rowE 3 1 v11 ((stL n).length) ((stL n).map (Value.int .i64)), rowE 3 1 v14 ((valsL n (stL n) (cod z0 len0 0 : Int)).length) ((valsL n (stL n) (cod z0 len0 0 : Int)).map (Value.int .i64)), rowE 3 1 u zs.length (zs.map (Value.int .i64)), boxE b9 #[.int .i64 n.ins, n.sv, n.av, n.ov] 28, ntE n, boxE b5 #[.int .i64 t.N, .int .i64 t.B] 55]) (sx 57 (congrArg some e0.1) (sx 58 (congrArg some e1.1) (sx 60 (congrArg some v3) (sub_nil _)))) (by first | (simp only [p3, v3, e0.2, e1.2, List.flatMap_cons, List.flatMap_nil, List.append_nil, List.nil_append, List.cons_append]; exact List.Sublist.refl _) | simp [p3, v3, e0.2, e1.2]) ?_
      exact rq_call (by kernel_rfl) rfl (fun w hm => (AddCover_ret n zs cs _ _ w (nt_rds 5 rfl w hm) hn hls9 hl49 hok16 hokn hc57 (by omega) ((rd_row 3 rfl) w hm) ((rd_row 0 rfl) w hm)).mono (added_ex hmn hc16))
     ·
      intro vf pf hmu hR
      have e4 : (AddedC n t zs) (vf 4) (pf 4) := hR 4 (by decide)
      obtain ⟨v24, v4⟩ : ∃ x, vf 4 = x := ⟨_, rfl⟩
      obtain ⟨p25, p4⟩ : ∃ x, pf 4 = x := ⟨_, rfl⟩
      have hR26 := e4
      rw [v4, p4] at hR26
      obtain ⟨cs9, hmn9, hc9, m, x, rfl, rfl, ⟨o1m, o2m, o3m⟩, gr⟩ := hR26
      have gl := gr.len
      have gc := gr.cnt
      have gv := vals_len gr.ss
      have gi := gr.ins
      have hcntm : m.cnt = 1 + m.ins + m.ss.length + m.gs.length := rfl
      refine Or.inl ⟨rfl, ?_⟩
      show RunQ _ _ _ (([4] : List Nat).flatMap pf ++ _) (envOf3 _ vf [4] ++ _) _ _
      refine rq_less (l' := [ntE m, rowE 3 1 v11 ((stL n).length) ((stL n).map (Value.int .i64)), rowE 3 1 v14 ((valsL n (stL n) (cod z0 len0 0 : Int)).length) ((valsL n (stL n) (cod z0 len0 0 : Int)).map (Value.int .i64)), rowE 3 1 u zs.length (zs.map (Value.int .i64)), boxE b9 #[.int .i64 n.ins, n.sv, n.av, n.ov] 28, ntE n, boxE b5 #[.int .i64 t.N, .int .i64 t.B] 55]) (sx 61 (congrArg some v4) (sub_nil _)) (by first | (simp only [p4, v4, List.flatMap_cons, List.flatMap_nil, List.append_nil, List.nil_append, List.cons_append]; exact List.Sublist.refl _) | simp [p4, v4]) ?_
      exact rq_mono (rq_v (rv_ev rfl)) (fun _ _ h => ⟨h.1.trans (by show _ = (.tuple #[.agg #[.int .i64 (tIn (vf 4)), (tSv (vf 4)), (tAv (vf 4)), (tOv (vf 4))], .int .i64 (tX (vf 4))] : Value); first | (rw [v4]; done) | (rw [v4]; rfl)), h.2⟩)
     ·
      intro vf pf hmu hR
      have e4 : (AddedC n t zs) (vf 4) (pf 4) := hR 4 (by decide)
      obtain ⟨v24, v4⟩ : ∃ x, vf 4 = x := ⟨_, rfl⟩
      obtain ⟨p25, p4⟩ : ∃ x, pf 4 = x := ⟨_, rfl⟩
      have hR26 := e4
      rw [v4, p4] at hR26
      obtain ⟨cs9, hmn9, hc9, m, x, rfl, rfl, ⟨o1m, o2m, o3m⟩, gr⟩ := hR26
      have gl := gr.len
      have gc := gr.cnt
      have gv := vals_len gr.ss
      have gi := gr.ins
      have hcntm : m.cnt = 1 + m.ins + m.ss.length + m.gs.length := rfl
      have e5 : (vf 5) = .tuple #[.agg #[.int .i64 (tIn (vf 4)), (tSv (vf 4)), (tAv (vf 4)), (tOv (vf 4))], .int .i64 (tX (vf 4))] ∧ (pf 5) = [] := hR 5 (by decide)
      rw [v4] at e5
      refine Or.inl ⟨rfl, ?_⟩
      show RunQ _ _ _ (([4, 5] : List Nat).flatMap pf ++ _) (envOf3 _ vf [4, 5] ++ _) _ _
      refine rq_less (l' := [ntE m, rowE 3 1 v11 ((stL n).length) ((stL n).map (Value.int .i64)), rowE 3 1 v14 ((valsL n (stL n) (cod z0 len0 0 : Int)).length) ((valsL n (stL n) (cod z0 len0 0 : Int)).map (Value.int .i64)), rowE 3 1 u zs.length (zs.map (Value.int .i64)), boxE b9 #[.int .i64 n.ins, n.sv, n.av, n.ov] 28, ntE n, boxE b5 #[.int .i64 t.N, .int .i64 t.B] 55]) (sx 56 (congrArg some e5.1) (sub_nil _)) (by first | (simp only [p4, v4, e5.2, List.flatMap_cons, List.flatMap_nil, List.append_nil, List.nil_append, List.cons_append]; exact List.Sublist.refl _) | simp [p4, v4, e5.2]) ?_
      exact rq_mono (rq_v (rv_ev rfl)) (fun _ _ h => ⟨h.1.trans (by show _ = (.agg #[.int .i64 (tIn (vf 4)), (tSv (vf 4)), (tAv (vf 4)), (tOv (vf 4))] : Value); first | (rw [v4]; done) | (rw [v4]; rfl)), h.2⟩)
     ·
      intro vf pf hmu hR
      have e4 : (AddedC n t zs) (vf 4) (pf 4) := hR 4 (by decide)
      obtain ⟨v24, v4⟩ : ∃ x, vf 4 = x := ⟨_, rfl⟩
      obtain ⟨p25, p4⟩ : ∃ x, pf 4 = x := ⟨_, rfl⟩
      have hR26 := e4
      rw [v4, p4] at hR26
      obtain ⟨cs9, hmn9, hc9, m, x, rfl, rfl, ⟨o1m, o2m, o3m⟩, gr⟩ := hR26
      have gl := gr.len
      have gc := gr.cnt
      have gv := vals_len gr.ss
      have gi := gr.ins
      have hcntm : m.cnt = 1 + m.ins + m.ss.length + m.gs.length := rfl
      have e5 : (vf 5) = .tuple #[.agg #[.int .i64 (tIn (vf 4)), (tSv (vf 4)), (tAv (vf 4)), (tOv (vf 4))], .int .i64 (tX (vf 4))] ∧ (pf 5) = [] := hR 5 (by decide)
      rw [v4] at e5
      refine Or.inl ⟨rfl, ?_⟩
      show RunQ _ _ _ (([4, 5] : List Nat).flatMap pf ++ _) (envOf3 _ vf [4, 5] ++ _) _ _
      refine rq_less (l' := [ntE m, rowE 3 1 v11 ((stL n).length) ((stL n).map (Value.int .i64)), rowE 3 1 v14 ((valsL n (stL n) (cod z0 len0 0 : Int)).length) ((valsL n (stL n) (cod z0 len0 0 : Int)).map (Value.int .i64)), rowE 3 1 u zs.length (zs.map (Value.int .i64)), boxE b9 #[.int .i64 n.ins, n.sv, n.av, n.ov] 28, ntE n, boxE b5 #[.int .i64 t.N, .int .i64 t.B] 55]) (sx 56 (congrArg some e5.1) (sub_nil _)) (by first | (simp only [p4, v4, e5.2, List.flatMap_cons, List.flatMap_nil, List.append_nil, List.nil_append, List.cons_append]; exact List.Sublist.refl _) | simp [p4, v4, e5.2]) ?_
      exact rq_mono (rq_v (rv_ev rfl)) (fun _ _ h => ⟨h.1.trans (by show _ = (.int .i64 (tX (vf 4)) : Value); first | (rw [v4]; done) | (rw [v4]; rfl)), h.2⟩)
     ·
      intro vf pf hmu hR
      refine Or.inl ⟨rfl, ?_⟩
      show RunQ _ _ _ (([] : List Nat).flatMap pf ++ _) (envOf3 _ vf [] ++ _) _ _
      refine rq_less (sub_nil _) (List.sublist_append_right _ _) ?_
      exact rq_alloc (z := .agg #[.int .i64 0, .slice none 0 0, .slice none 0 0, .slice none 0 0]) rfl (by kernel_rfl)
     ·
      intro vf pf hmu hR
      have e4 : (AddedC n t zs) (vf 4) (pf 4) := hR 4 (by decide)
      obtain ⟨v24, v4⟩ : ∃ x, vf 4 = x := ⟨_, rfl⟩
      obtain ⟨p25, p4⟩ : ∃ x, pf 4 = x := ⟨_, rfl⟩
      have hR26 := e4
      rw [v4, p4] at hR26
      obtain ⟨cs9, hmn9, hc9, m, x, rfl, rfl, ⟨o1m, o2m, o3m⟩, gr⟩ := hR26
      have gl := gr.len
      have gc := gr.cnt
      have gv := vals_len gr.ss
      have gi := gr.ins
      have hcntm : m.cnt = 1 + m.ins + m.ss.length + m.gs.length := rfl
      have e6 : (vf 6) = .agg #[.int .i64 (tIn (vf 4)), (tSv (vf 4)), (tAv (vf 4)), (tOv (vf 4))] ∧ (pf 6) = [] := hR 6 (by decide)
      rw [v4] at e6
      have e8 : IsBox #[.int .i64 0, .slice none 0 0, .slice none 0 0, .slice none 0 0] 28 (vf 8) (pf 8) := hR 8 (by decide)
      obtain ⟨b27, v8, p8⟩ := e8
      refine Or.inl ⟨rfl, ?_⟩
      show RunM _ _ _ (pf 8) (([4, 6] : List Nat).flatMap pf ++ _) (envOf3 _ vf [4, 6, 8] ++ _) _ _
      rw [p8]
      refine rm_less (X' := [ntE m, rowE 3 1 v11 ((stL n).length) ((stL n).map (Value.int .i64)), rowE 3 1 v14 ((valsL n (stL n) (cod z0 len0 0 : Int)).length) ((valsL n (stL n) (cod z0 len0 0 : Int)).map (Value.int .i64)), rowE 3 1 u zs.length (zs.map (Value.int .i64)), boxE b9 #[.int .i64 n.ins, n.sv, n.av, n.ov] 28, ntE n, boxE b5 #[.int .i64 t.N, .int .i64 t.B] 55]) (sx 10 (congrArg some v8) (sx 62 (congrArg some e6.1) (sub_nil _))) (by first | (simp only [p4, v4, e6.2, List.flatMap_cons, List.flatMap_nil, List.append_nil, List.nil_append, List.cons_append]; exact List.Sublist.refl _) | simp [p4, v4, e6.2]) ?_
      exact rm_mono (rm_storeBoxN (us := [.int .i64 m.ins, m.sv, m.av, m.ov]) (off := 0) 0 rfl rfl (by kernel_rfl) rfl rfl rfl (all_cons rfl (all_cons o1m (all_cons o2m (all_cons o3m all_nil)))) rfl rfl) (fun v_ p_ h => by show p_ = [boxE (blkOf (vf 8)) #[.int .i64 (tIn (vf 4)), (tSv (vf 4)), (tAv (vf 4)), (tOv (vf 4))] 28]; rw [v4, v8]; exact h)
    ·
     intro vf pf hmu hR
     have e3 : (fun v_ p_ => ∃ cs : List (Nat × Nat), p_ = [rowE 139 2 v_ cs.length (cs.flatMap cubC)] ∧ MinOk t 0 cs) (vf 3) (pf 3) := hR 3 (by decide)
     obtain ⟨v21, v3⟩ : ∃ x, vf 3 = x := ⟨_, rfl⟩
     obtain ⟨p22, p3⟩ : ∃ x, pf 3 = x := ⟨_, rfl⟩
     have hR23 := e3
     rw [v3, p3] at hR23
     obtain ⟨cs, rfl, hmn⟩ := hR23
     have hc16 := hmn.len hn4
     have hok16 : CubsOk 16 cs := fun d hd => by have := hmn.ok d hd; omega
     have hokn : CubsOk (pn (zs.length : Int)) cs := by rw [hzl, hkN]; exact hmn.ok
     have hc57 : cs.length ≤ 57 := by omega
     have e4 : (AddedC n t zs) (vf 4) (pf 4) := hR 4 (by decide)
     obtain ⟨v24, v4⟩ : ∃ x, vf 4 = x := ⟨_, rfl⟩
     obtain ⟨p25, p4⟩ : ∃ x, pf 4 = x := ⟨_, rfl⟩
     have hR26 := e4
     rw [v4, p4] at hR26
     obtain ⟨cs9, hmn9, hc9, m, x, rfl, rfl, ⟨o1m, o2m, o3m⟩, gr⟩ := hR26
     have gl := gr.len
     have gc := gr.cnt
     have gv := vals_len gr.ss
     have gi := gr.ins
     have hcntm : m.cnt = 1 + m.ins + m.ss.length + m.gs.length := rfl
     have e7 : (vf 7) = .int .i64 (tX (vf 4)) ∧ (pf 7) = [] := hR 7 (by decide)
     rw [v4] at e7
     have e8 : IsBox #[.int .i64 0, .slice none 0 0, .slice none 0 0, .slice none 0 0] 28 (vf 8) (pf 8) := hR 8 (by decide)
     obtain ⟨b27, v8, p8⟩ := e8
     have e9 : (pf 9) = [boxE (blkOf (vf 8)) #[.int .i64 (tIn (vf 4)), (tSv (vf 4)), (tAv (vf 4)), (tOv (vf 4))] 28] := hR 9 (by decide)
     rw [v4, v8] at e9
     have p9 := e9
     have q0 : (vf 0) = .agg #[.int .i64 n.ins, n.sv, n.av, n.ov] ∧ (pf 0) = [] := hR 0 (by decide)
     have q1 : (vf 1) = u ∧ (pf 1) = [] := hR 1 (by decide)
     have q2 : (vf 2) = .agg #[.int .i64 t.N, .int .i64 t.B] ∧ (pf 2) = [] := hR 2 (by decide)
     have q5 : (vf 5) = .tuple #[.agg #[.int .i64 (tIn (vf 4)), (tSv (vf 4)), (tAv (vf 4)), (tOv (vf 4))], .int .i64 (tX (vf 4))] ∧ (pf 5) = [] := hR 5 (by decide)
     have q6 : (vf 6) = .agg #[.int .i64 (tIn (vf 4)), (tSv (vf 4)), (tAv (vf 4)), (tOv (vf 4))] ∧ (pf 6) = [] := hR 6 (by decide)
     have q7 : (vf 7) = .int .i64 (tX (vf 4)) ∧ (pf 7) = [] := hR 7 (by decide)
     refine hl_less (l' := [rowE 139 2 v21 cs.length (cs.flatMap cubC), ntE m, boxE b27 #[.int .i64 m.ins, m.sv, m.av, m.ov] 28, rowE 3 1 v11 ((stL n).length) ((stL n).map (Value.int .i64)), rowE 3 1 v14 ((valsL n (stL n) (cod z0 len0 0 : Int)).length) ((valsL n (stL n) (cod z0 len0 0 : Int)).map (Value.int .i64)), rowE 3 1 u zs.length (zs.map (Value.int .i64)), boxE b9 #[.int .i64 n.ins, n.sv, n.av, n.ov] 28, ntE n, boxE b5 #[.int .i64 t.N, .int .i64 t.B] 55]) (sx 0 rfl (sx 2 rfl (sx 3 rfl (sx 5 rfl (sx 6 rfl (sx 7 rfl (sx 8 rfl (sx 9 rfl (sx 10 (congrArg some v8) (sx 14 rfl (sx 32 rfl (sx 63 (congrArg some e7.1) (sub_nil _))))))))))))) (by first | (simp only [p3, v3, p4, v4, p9, q0.2, q1.2, q2.2, q5.2, q6.2, q7.2, List.flatMap_cons, List.flatMap_nil, List.append_nil, List.nil_append, List.cons_append]; exact List.Sublist.refl _) | simp [p3, v3, p4, v4, p9, q0.2, q1.2, q2.2, q5.2, q6.2, q7.2]) ?_
     simp only [List.drop_succ_cons, List.drop_zero]
     refine hl_v rfl rfl rfl (rv_ev rfl) ?_
     refine hl_less (sx 0 rfl (sx 2 rfl (sx 3 rfl (sx 5 rfl (sx 6 rfl (sx 7 rfl (sx 8 rfl (sx 9 rfl (sx 10 rfl (sx 11 rfl (sx 14 rfl (sx 32 rfl (sub_nil _))))))))))))) (.refl _) ?_
     refine hl_nil ?_
     refine hq_then ?_
     refine hc_seq ?_
     refine hc_draw (by kernel_rfl) 6 [0, 1, 2, 3, 4, 5] (List.take 6 _) (List.drop 6 _) [[], [], [1], [], [3], [0, 2, 4]] [64, 65, 66, 67, 68, 69] (fun i_ vs_ v_ p_ => match i_ with | 0 => v_ = .agg #[.int .i64 m.ins, m.sv, m.av, m.ov] ∧ p_ = [] | 1 => v_ = .agg #[.int .i64 n.ins, n.sv, n.av, n.ov] ∧ p_ = [] | 2 => (fun v' post => post = [rowE 3 1 v' (stL n).length ((stL n).map (Value.int .i64))]) v_ p_ | 3 => v_ = .slice a0 len0 cap0 ∧ p_ = [] | 4 => v_ = .int .i64 (cod z0 len0 0 : Int) ∧ p_ = [] | 5 => (fun v' post => post = [rowE 3 1 v' (valsL m (stL n) (cod z0 len0 0 : Int)).length ((valsL m (stL n) (cod z0 len0 0 : Int)).map (Value.int .i64))]) v_ p_ | _ => True) (List.take_append_drop 6 _).symm (by kernel_rfl) (by kernel_rfl) rfl rfl ?_ ?_
     ·
      refine ⟨?_, ?_, ?_, ?_, ?_, ?_, trivial⟩
      ·
       intro vf pf hR
       refine Or.inl ⟨rfl, ?_⟩
       refine rq_less (sx 10 rfl (sub_nil _)) (List.sublist_append_right _ _) ?_
       exact rq_v (rv_loadN (cs := [.int .i64 m.ins, m.sv, m.av, m.ov]) rfl (by kernel_rfl) (by kernel_rfl) rfl rfl (box_part 2 rfl 0 rfl))
      ·
       intro vf pf hR
       refine Or.inl ⟨rfl, ?_⟩
       refine rq_less (sx 5 rfl (sub_nil _)) (List.sublist_append_right _ _) ?_
       exact rq_v (rv_loadN (cs := [.int .i64 n.ins, n.sv, n.av, n.ov]) rfl (by kernel_rfl) (by kernel_rfl) rfl rfl (box_part 6 rfl 0 rfl))
      ·
       intro vf pf hR
       have e1 : (vf 1) = .agg #[.int .i64 n.ins, n.sv, n.av, n.ov] ∧ (pf 1) = [] := hR 1 (by decide)
       refine Or.inl ⟨rfl, ?_⟩
       refine rq_less (sx 65 (congrArg some e1.1) (sub_nil _)) (List.sublist_append_right _ _) ?_
       exact rq_call (by kernel_rfl) rfl (fun w hm => NetStart_ret n w (nt_rds 7 rfl w hm) hn)
      ·
       intro vf pf hR
       refine Or.inl ⟨rfl, ?_⟩
       refine rq_less (sx 0 rfl (sub_nil _)) (List.sublist_append_right _ _) ?_
       exact rq_v (rv_ev rfl)
      ·
       intro vf pf hR
       have e3 : (vf 3) = .slice a0 len0 cap0 ∧ (pf 3) = [] := hR 3 (by decide)
       refine Or.inl ⟨rfl, ?_⟩
       refine rq_less (sx 67 (congrArg some e3.1) (sub_nil _)) (List.sublist_append_right _ _) ?_
       exact (rq_call (by kernel_rfl) rfl (fun w hm => ret_ans (at_ans hbr 0 (by omega) w hm)))
      ·
       intro vf pf hR
       have e0 : (vf 0) = .agg #[.int .i64 m.ins, m.sv, m.av, m.ov] ∧ (pf 0) = [] := hR 0 (by decide)
       have e2 : (fun v' post => post = [rowE 3 1 v' (stL n).length ((stL n).map (Value.int .i64))]) (vf 2) (pf 2) := hR 2 (by decide)
       obtain ⟨v28, v2⟩ : ∃ x, vf 2 = x := ⟨_, rfl⟩
       obtain ⟨p29, p2⟩ : ∃ x, pf 2 = x := ⟨_, rfl⟩
       have hR30 := e2
       rw [v2, p2] at hR30
       subst hR30
       have e4 : (vf 4) = .int .i64 (cod z0 len0 0 : Int) ∧ (pf 4) = [] := hR 4 (by decide)
       refine Or.inl ⟨rfl, ?_⟩
       refine rq_less (l' := [rowE 3 1 v28 ((stL n).length) ((stL n).map (Value.int .i64)), rowE 139 2 v21 cs.length (cs.flatMap cubC), ntE m, boxE b27 #[.int .i64 m.ins, m.sv, m.av, m.ov] 28, rowE 3 1 v11 ((stL n).length) ((stL n).map (Value.int .i64)), rowE 3 1 v14 ((valsL n (stL n) (cod z0 len0 0 : Int)).length) ((valsL n (stL n) (cod z0 len0 0 : Int)).map (Value.int .i64)), rowE 3 1 u zs.length (zs.map (Value.int .i64)), boxE b9 #[.int .i64 n.ins, n.sv, n.av, n.ov] 28, ntE n, boxE b5 #[.int .i64 t.N, .int .i64 t.B] 55]) (sx 64 (congrArg some e0.1) (sx 66 (congrArg some v2) (sx 68 (congrArg some e4.1) (sub_nil _)))) (by first | (simp only [p2, v2, e0.2, e4.2, List.flatMap_cons, List.flatMap_nil, List.append_nil, List.nil_append, List.cons_append]; exact List.Sublist.refl _) | simp [p2, v2, e0.2, e4.2]) ?_
       exact rq_call (by kernel_rfl) rfl (fun w hm => implNodeValues_ret m (stL n) _ (cod z0 len0 0 : Int) w (nt_rds 2 rfl w hm) gr.ok ((rd_row 0 rfl) w hm) (gr.sok (start_ok hn)) (by omega))
     ·
      intro vf pf hR
      have e2 : (fun v' post => post = [rowE 3 1 v' (stL n).length ((stL n).map (Value.int .i64))]) (vf 2) (pf 2) := hR 2 (by decide)
      obtain ⟨v28, v2⟩ : ∃ x, vf 2 = x := ⟨_, rfl⟩
      obtain ⟨p29, p2⟩ : ∃ x, pf 2 = x := ⟨_, rfl⟩
      have hR30 := e2
      rw [v2, p2] at hR30
      subst hR30
      have e5 : (fun v' post => post = [rowE 3 1 v' (valsL m (stL n) (cod z0 len0 0 : Int)).length ((valsL m (stL n) (cod z0 len0 0 : Int)).map (Value.int .i64))]) (vf 5) (pf 5) := hR 5 (by decide)
      obtain ⟨v31, v5⟩ : ∃ x, vf 5 = x := ⟨_, rfl⟩
      obtain ⟨p32, p5⟩ : ∃ x, pf 5 = x := ⟨_, rfl⟩
      have hR33 := e5
      rw [v5, p5] at hR33
      subst hR33
      have hul : ((valsL m (stL n) (cod z0 len0 0 : Int)).length : Int) = m.cnt := by have h9 : (valsL m (stL n) (cod z0 len0 0 : Int)).length = _ := val_len m (stL n) (cod z0 len0 0 : Int) m.gs.length (Nat.le_refl _); omega
      have hu01 : B01 (valsL m (stL n) (cod z0 len0 0 : Int)) := val01 gr.ok (by omega) _ _ (Nat.le_refl _)
      obtain ⟨hx0, hx1⟩ := gr.lit
      have q0 : (vf 0) = .agg #[.int .i64 m.ins, m.sv, m.av, m.ov] ∧ (pf 0) = [] := hR 0 (by decide)
      have q1 : (vf 1) = .agg #[.int .i64 n.ins, n.sv, n.av, n.ov] ∧ (pf 1) = [] := hR 1 (by decide)
      have q3 : (vf 3) = .slice a0 len0 cap0 ∧ (pf 3) = [] := hR 3 (by decide)
      have q4 : (vf 4) = .int .i64 (cod z0 len0 0 : Int) ∧ (pf 4) = [] := hR 4 (by decide)
      refine hl_less (l' := [rowE 3 1 v28 ((stL n).length) ((stL n).map (Value.int .i64)), rowE 3 1 v31 ((valsL m (stL n) (cod z0 len0 0 : Int)).length) ((valsL m (stL n) (cod z0 len0 0 : Int)).map (Value.int .i64)), rowE 139 2 v21 cs.length (cs.flatMap cubC), ntE m, boxE b27 #[.int .i64 m.ins, m.sv, m.av, m.ov] 28, rowE 3 1 v11 ((stL n).length) ((stL n).map (Value.int .i64)), rowE 3 1 v14 ((valsL n (stL n) (cod z0 len0 0 : Int)).length) ((valsL n (stL n) (cod z0 len0 0 : Int)).map (Value.int .i64)), rowE 3 1 u zs.length (zs.map (Value.int .i64)), boxE b9 #[.int .i64 n.ins, n.sv, n.av, n.ov] 28, ntE n, boxE b5 #[.int .i64 t.N, .int .i64 t.B] 55]) (sx 0 rfl (sx 2 rfl (sx 3 rfl (sx 5 rfl (sx 6 rfl (sx 7 rfl (sx 8 rfl (sx 9 rfl (sx 10 rfl (sx 11 rfl (sx 14 rfl (sx 32 rfl (sx 69 (congrArg some v5) (sub_nil _)))))))))))))) (by first | (simp only [p2, v2, p5, v5, q0.2, q1.2, q3.2, q4.2, List.flatMap_cons, List.flatMap_nil, List.append_nil, List.nil_append, List.cons_append]; exact List.Sublist.refl _) | simp [p2, v2, p5, v5, q0.2, q1.2, q3.2, q4.2]) ?_
      simp only [List.drop_succ_cons, List.drop_zero]
      refine hl_v rfl rfl rfl (rv_ev rfl) ?_
      refine hl_less (sx 0 rfl (sx 2 rfl (sx 3 rfl (sx 5 rfl (sx 6 rfl (sx 7 rfl (sx 8 rfl (sx 9 rfl (sx 10 rfl (sx 11 rfl (sx 12 rfl (sx 14 rfl (sx 32 rfl (sub_nil _)))))))))))))) (.refl _) ?_
      refine hl_nil ?_
      refine hq_then ?_
      refine hc_seq ?_
      have hix : tbN (lvB z0 len0 n) k < pn t.N := by have h9 : pn t.N = 2 ^ k := by { unfold pn; rw [← hkN, Int.toNat_natCast] }; omega
      have hXV := cover_value hn (by omega) ht hkN hmn9 (by rw [← hz]; exact gr)
      rcases Bool.eq_false_or_eq_true (tabB t (tbN (lvB z0 len0 n) k)) with hb34 | hb34
      ·
       rw [show tabB t (tbN (lvB z0 len0 n) k) = true from hb34] at hXV
       simp only [if_true, Bool.false_eq_true, if_false] at hXV
       have hix : tbN (lvB z0 len0 n) k < pn t.N := by have h9 : pn t.N = 2 ^ k := by { unfold pn; rw [← hkN, Int.toNat_natCast] }; omega
       have hXV := cover_value hn (by omega) ht hkN hmn9 (by rw [← hz]; exact gr)
       have hb35 : ((bitL (valsL m (stL n) (cod z0 len0 0 : Int)) x) == 1) = true := beq_iff_eq.2 (by omega)
       have hb36 : (decide ((n.gs.length : Int) ≤ (m.gs.length : Int))) = true := decide_eq_true (by omega)
       refine hc_draw (by kernel_rfl) 17 [0, 1, 2, 3, 4, 5, 6, 7, 8, 9, 10, 11, 12, 13, 14, 15, 16] (List.take 17 _) (List.drop 17 _) [[], [], [0, 1], [], [], [3, 4], [5], [2, 6], [7], [8], [8, 9], [8, 10], [8], [8, 12], [8, 13], [8, 11, 14], [8, 15]] [70, 71, 72, 73, 74, 75, 76, 77, 78, 79, 80, 81, 82, 83, 84, 85, 86] (fun i_ vs_ v_ p_ => match i_ with | 0 => v_ = v31 ∧ p_ = [] | 1 => v_ = .int .i64 x ∧ p_ = [] | 2 => v_ = .int .i64 (bitL (valsL m (stL n) (cod z0 len0 0 : Int)) x) ∧ p_ = [] | 3 => v_ = .agg #[.int .i64 t.N, .int .i64 t.B] ∧ p_ = [] | 4 => v_ = .int .i64 (tbN (lvB z0 len0 n) k : Int) ∧ p_ = [] | 5 => v_ = .bool true ∧ p_ = [] | 6 => v_ = .int .i64 1 ∧ p_ = [] | 7 => v_ = .bool true ∧ p_ = [] | 8 => v_ = .bool true ∧ p_ = [] | 9 => v_ = .pointer (some ⟨b27, 0 + 2, none⟩) ∧ p_ = [] | 10 => v_ = m.av ∧ p_ = [] | 11 => v_ = .int .i64 (m.gs.length : Int) ∧ p_ = [] | 12 => v_ = .pointer (some ⟨b9, 0 + 2, none⟩) ∧ p_ = [] | 13 => v_ = n.av ∧ p_ = [] | 14 => v_ = .int .i64 (n.gs.length : Int) ∧ p_ = [] | 15 => v_ = .bool true ∧ p_ = [] | 16 => v_ = .bool true ∧ p_ = [] | _ => True) (List.take_append_drop 17 _).symm (by kernel_rfl) (by kernel_rfl) rfl rfl ?_ ?_
       ·
        refine ⟨?_, ?_, ?_, ?_, ?_, ?_, ?_, ?_, ?_, ?_, ?_, ?_, ?_, ?_, ?_, ?_, ?_, trivial⟩
        ·
         intro vf pf hR
         refine Or.inl ⟨rfl, ?_⟩
         refine rq_less (sx 12 rfl (sub_nil _)) (List.sublist_append_right _ _) ?_
         exact rq_v (rv_ev rfl)
        ·
         intro vf pf hR
         refine Or.inl ⟨rfl, ?_⟩
         refine rq_less (sx 11 rfl (sub_nil _)) (List.sublist_append_right _ _) ?_
         exact rq_v (rv_ev rfl)
        ·
         intro vf pf hR
         have e0 : (vf 0) = v31 ∧ (pf 0) = [] := hR 0 (by decide)
         have e1 : (vf 1) = .int .i64 x ∧ (pf 1) = [] := hR 1 (by decide)
         refine Or.inl ⟨rfl, ?_⟩
         refine rq_less (sx 70 (congrArg some e0.1) (sx 71 (congrArg some e1.1) (sub_nil _))) (List.sublist_append_right _ _) ?_
         exact (rq_call (by kernel_rfl) rfl (fun w hm => ret_ans (impLitValue_ans (valsL m (stL n) (cod z0 len0 0 : Int)) x _ w ((rd_row 1 rfl) w hm) (by omega) (hu01 _ (by omega)) (by omega))))
        ·
         intro vf pf hR
         refine Or.inl ⟨rfl, ?_⟩
         refine rq_less (sx 3 rfl (sub_nil _)) (List.sublist_append_right _ _) ?_
         exact rq_v (rv_loadN (cs := [.int .i64 t.N, .int .i64 t.B]) rfl (by kernel_rfl) (by kernel_rfl) rfl rfl (box_part 10 rfl 0 rfl))
        ·
         intro vf pf hR
         refine Or.inl ⟨rfl, ?_⟩
         refine rq_less (sx 8 rfl (sub_nil _)) (List.sublist_append_right _ _) ?_
         exact rq_v (rv_ev rfl)
        ·
         intro vf pf hR
         have e3 : (vf 3) = .agg #[.int .i64 t.N, .int .i64 t.B] ∧ (pf 3) = [] := hR 3 (by decide)
         have e4 : (vf 4) = .int .i64 (tbN (lvB z0 len0 n) k : Int) ∧ (pf 4) = [] := hR 4 (by decide)
         refine Or.inl ⟨rfl, ?_⟩
         refine rq_less (sx 73 (congrArg some e3.1) (sx 74 (congrArg some e4.1) (sub_nil _))) (List.sublist_append_right _ _) ?_
         exact rq_mono (rq_call (by kernel_rfl) rfl (fun w hm => ret_ans (specTableEval_ans t (tbN (lvB z0 len0 n) k) w ht hix))) (fun _ _ h => ⟨h.1.trans (congrArg Value.bool hb34), h.2⟩)
        ·
         intro vf pf hR
         have e5 : (vf 5) = .bool true ∧ (pf 5) = [] := hR 5 (by decide)
         refine Or.inl ⟨rfl, ?_⟩
         refine rq_less (sx 75 (congrArg some e5.1) (sub_nil _)) (List.sublist_append_right _ _) ?_
         exact (rq_call (by kernel_rfl) rfl (fun w hm => ret_ans (btoi_t w)))
        ·
         intro vf pf hR
         have e2 : (vf 2) = .int .i64 (bitL (valsL m (stL n) (cod z0 len0 0 : Int)) x) ∧ (pf 2) = [] := hR 2 (by decide)
         have e6 : (vf 6) = .int .i64 1 ∧ (pf 6) = [] := hR 6 (by decide)
         refine Or.inl ⟨rfl, ?_⟩
         refine rq_less (sx 72 (congrArg some e2.1) (sx 76 (congrArg some e6.1) (sub_nil _))) (List.sublist_append_right _ _) ?_
         exact rq_mono (rq_v (rv_cmp rfl rfl rfl rfl)) (fun _ _ h => ⟨h.1.trans (congrArg Value.bool hb35), h.2⟩)
        ·
         intro vf pf hR
         have e7 : (vf 7) = .bool true ∧ (pf 7) = [] := hR 7 (by decide)
         refine Or.inl ⟨rfl, ?_⟩
         refine rq_less (sx 77 (congrArg some e7.1) (sub_nil _)) (List.sublist_append_right _ _) ?_
         exact rq_v (rv_ev rfl)
        ·
         intro vf pf hR
         have e8 : (vf 8) = .bool true ∧ (pf 8) = [] := hR 8 (by decide)
         refine Or.inl ⟨want_of (congrArg some e8.1) rfl, ?_⟩
         refine rq_less (sx 10 rfl (sub_nil _)) (List.sublist_append_right _ _) ?_
         exact rq_v (rv_field (k0 := 2) rfl (by kernel_rfl) rfl)
        ·
         intro vf pf hR
         have e8 : (vf 8) = .bool true ∧ (pf 8) = [] := hR 8 (by decide)
         have e9 : (vf 9) = .pointer (some ⟨b27, 0 + 2, none⟩) ∧ (pf 9) = [] := hR 9 (by decide)
         refine Or.inl ⟨want_of (congrArg some e8.1) rfl, ?_⟩
         refine rq_less (sx 79 (congrArg some e9.1) (sub_nil _)) (List.sublist_append_right _ _) ?_
         exact rq_v (rv_load rfl (by kernel_rfl) rfl (box_cell 4 rfl rfl))
        ·
         intro vf pf hR
         have e8 : (vf 8) = .bool true ∧ (pf 8) = [] := hR 8 (by decide)
         have e10 : (vf 10) = m.av ∧ (pf 10) = [] := hR 10 (by decide)
         refine Or.inl ⟨want_of (congrArg some e8.1) rfl, ?_⟩
         refine rq_less (sx 80 (congrArg some e10.1) (sub_nil _)) (List.sublist_append_right _ _) ?_
         exact rq_v (rv_len rfl Try.underlying25 rfl (fun w hm => (nt_rds 3 rfl w hm).an))
        ·
         intro vf pf hR
         have e8 : (vf 8) = .bool true ∧ (pf 8) = [] := hR 8 (by decide)
         refine Or.inl ⟨want_of (congrArg some e8.1) rfl, ?_⟩
         refine rq_less (sx 5 rfl (sub_nil _)) (List.sublist_append_right _ _) ?_
         exact rq_v (rv_field (k0 := 2) rfl (by kernel_rfl) rfl)
        ·
         intro vf pf hR
         have e8 : (vf 8) = .bool true ∧ (pf 8) = [] := hR 8 (by decide)
         have e12 : (vf 12) = .pointer (some ⟨b9, 0 + 2, none⟩) ∧ (pf 12) = [] := hR 12 (by decide)
         refine Or.inl ⟨want_of (congrArg some e8.1) rfl, ?_⟩
         refine rq_less (sx 82 (congrArg some e12.1) (sub_nil _)) (List.sublist_append_right _ _) ?_
         exact rq_v (rv_load rfl (by kernel_rfl) rfl (box_cell 8 rfl rfl))
        ·
         intro vf pf hR
         have e8 : (vf 8) = .bool true ∧ (pf 8) = [] := hR 8 (by decide)
         have e13 : (vf 13) = n.av ∧ (pf 13) = [] := hR 13 (by decide)
         refine Or.inl ⟨want_of (congrArg some e8.1) rfl, ?_⟩
         refine rq_less (sx 83 (congrArg some e13.1) (sub_nil _)) (List.sublist_append_right _ _) ?_
         exact rq_v (rv_len rfl Try.underlying25 rfl (fun w hm => (nt_rds 9 rfl w hm).an))
        ·
         intro vf pf hR
         have e8 : (vf 8) = .bool true ∧ (pf 8) = [] := hR 8 (by decide)
         have e11 : (vf 11) = .int .i64 (m.gs.length : Int) ∧ (pf 11) = [] := hR 11 (by decide)
         have e14 : (vf 14) = .int .i64 (n.gs.length : Int) ∧ (pf 14) = [] := hR 14 (by decide)
         refine Or.inl ⟨want_of (congrArg some e8.1) rfl, ?_⟩
         refine rq_less (sx 81 (congrArg some e11.1) (sx 84 (congrArg some e14.1) (sub_nil _))) (List.sublist_append_right _ _) ?_
         exact rq_mono (rq_v (rv_cmp rfl rfl rfl rfl)) (fun _ _ h => ⟨h.1.trans (congrArg Value.bool hb36), h.2⟩)
        ·
         intro vf pf hR
         have e8 : (vf 8) = .bool true ∧ (pf 8) = [] := hR 8 (by decide)
         have e15 : (vf 15) = .bool true ∧ (pf 15) = [] := hR 15 (by decide)
         refine Or.inl ⟨rfl, ?_⟩
         refine rq_less (sx 78 (congrArg some e8.1) (sx 85 (congrArg some e15.1) (sub_nil _))) (List.sublist_append_right _ _) ?_
         exact rq_v (rv_ev rfl)
       ·
        intro vf pf hR
        have e16 : (vf 16) = .bool true ∧ (pf 16) = [] := hR 16 (by decide)
        refine hl_less (l' := [rowE 3 1 v28 ((stL n).length) ((stL n).map (Value.int .i64)), rowE 3 1 v31 ((valsL m (stL n) (cod z0 len0 0 : Int)).length) ((valsL m (stL n) (cod z0 len0 0 : Int)).map (Value.int .i64)), rowE 139 2 v21 cs.length (cs.flatMap cubC), ntE m, boxE b27 #[.int .i64 m.ins, m.sv, m.av, m.ov] 28, rowE 3 1 v11 ((stL n).length) ((stL n).map (Value.int .i64)), rowE 3 1 v14 ((valsL n (stL n) (cod z0 len0 0 : Int)).length) ((valsL n (stL n) (cod z0 len0 0 : Int)).map (Value.int .i64)), rowE 3 1 u zs.length (zs.map (Value.int .i64)), boxE b9 #[.int .i64 n.ins, n.sv, n.av, n.ov] 28, ntE n, boxE b5 #[.int .i64 t.N, .int .i64 t.B] 55]) (sx 0 rfl (sx 2 rfl (sx 3 rfl (sx 5 rfl (sx 6 rfl (sx 7 rfl (sx 8 rfl (sx 9 rfl (sx 10 rfl (sx 11 rfl (sx 12 rfl (sx 14 rfl (sx 32 rfl (sx 86 (congrArg some e16.1) (sub_nil _))))))))))))))) (List.sublist_append_right _ _) ?_
        simp only [List.drop_succ_cons, List.drop_zero]
        refine hl_v rfl rfl rfl (rv_ev rfl) ?_
        refine hl_less (sx 0 rfl (sx 2 rfl (sx 3 rfl (sx 5 rfl (sx 6 rfl (sx 7 rfl (sx 8 rfl (sx 9 rfl (sx 10 rfl (sx 11 rfl (sx 12 rfl (sx 14 rfl (sx 32 rfl (sub_nil _)))))))))))))) (.refl _) ?_
        refine hl_nil ?_
        refine hq_then ?_
        refine hc_ret ?_
        exact hq_ans rfl rfl rfl
      ·
       rw [show tabB t (tbN (lvB z0 len0 n) k) = false from hb34] at hXV
       simp only [if_true, Bool.false_eq_true, if_false] at hXV
       have hix : tbN (lvB z0 len0 n) k < pn t.N := by have h9 : pn t.N = 2 ^ k := by { unfold pn; rw [← hkN, Int.toNat_natCast] }; omega
       have hXV := cover_value hn (by omega) ht hkN hmn9 (by rw [← hz]; exact gr)
       have hb37 : ((bitL (valsL m (stL n) (cod z0 len0 0 : Int)) x) == 0) = true := beq_iff_eq.2 (by omega)
       have hb38 : (decide ((n.gs.length : Int) ≤ (m.gs.length : Int))) = true := decide_eq_true (by omega)
       refine hc_draw (by kernel_rfl) 17 [0, 1, 2, 3, 4, 5, 6, 7, 8, 9, 10, 11, 12, 13, 14, 15, 16] (List.take 17 _) (List.drop 17 _) [[], [], [0, 1], [], [], [3, 4], [5], [2, 6], [7], [8], [8, 9], [8, 10], [8], [8, 12], [8, 13], [8, 11, 14], [8, 15]] [70, 71, 72, 73, 74, 75, 76, 77, 78, 79, 80, 81, 82, 83, 84, 85, 86] (fun i_ vs_ v_ p_ => match i_ with | 0 => v_ = v31 ∧ p_ = [] | 1 => v_ = .int .i64 x ∧ p_ = [] | 2 => v_ = .int .i64 (bitL (valsL m (stL n) (cod z0 len0 0 : Int)) x) ∧ p_ = [] | 3 => v_ = .agg #[.int .i64 t.N, .int .i64 t.B] ∧ p_ = [] | 4 => v_ = .int .i64 (tbN (lvB z0 len0 n) k : Int) ∧ p_ = [] | 5 => v_ = .bool false ∧ p_ = [] | 6 => v_ = .int .i64 0 ∧ p_ = [] | 7 => v_ = .bool true ∧ p_ = [] | 8 => v_ = .bool true ∧ p_ = [] | 9 => v_ = .pointer (some ⟨b27, 0 + 2, none⟩) ∧ p_ = [] | 10 => v_ = m.av ∧ p_ = [] | 11 => v_ = .int .i64 (m.gs.length : Int) ∧ p_ = [] | 12 => v_ = .pointer (some ⟨b9, 0 + 2, none⟩) ∧ p_ = [] | 13 => v_ = n.av ∧ p_ = [] | 14 => v_ = .int .i64 (n.gs.length : Int) ∧ p_ = [] | 15 => v_ = .bool true ∧ p_ = [] | 16 => v_ = .bool true ∧ p_ = [] | _ => True) (List.take_append_drop 17 _).symm (by kernel_rfl) (by kernel_rfl) rfl rfl ?_ ?_
       ·
        refine ⟨?_, ?_, ?_, ?_, ?_, ?_, ?_, ?_, ?_, ?_, ?_, ?_, ?_, ?_, ?_, ?_, ?_, trivial⟩
        ·
         intro vf pf hR
         refine Or.inl ⟨rfl, ?_⟩
         refine rq_less (sx 12 rfl (sub_nil _)) (List.sublist_append_right _ _) ?_
         exact rq_v (rv_ev rfl)
        ·
         intro vf pf hR
         refine Or.inl ⟨rfl, ?_⟩
         refine rq_less (sx 11 rfl (sub_nil _)) (List.sublist_append_right _ _) ?_
         exact rq_v (rv_ev rfl)
        ·
         intro vf pf hR
         have e0 : (vf 0) = v31 ∧ (pf 0) = [] := hR 0 (by decide)
         have e1 : (vf 1) = .int .i64 x ∧ (pf 1) = [] := hR 1 (by decide)
         refine Or.inl ⟨rfl, ?_⟩
         refine rq_less (sx 70 (congrArg some e0.1) (sx 71 (congrArg some e1.1) (sub_nil _))) (List.sublist_append_right _ _) ?_
         exact (rq_call (by kernel_rfl) rfl (fun w hm => ret_ans (impLitValue_ans (valsL m (stL n) (cod z0 len0 0 : Int)) x _ w ((rd_row 1 rfl) w hm) (by omega) (hu01 _ (by omega)) (by omega))))
        ·
         intro vf pf hR
         refine Or.inl ⟨rfl, ?_⟩
         refine rq_less (sx 3 rfl (sub_nil _)) (List.sublist_append_right _ _) ?_
         exact rq_v (rv_loadN (cs := [.int .i64 t.N, .int .i64 t.B]) rfl (by kernel_rfl) (by kernel_rfl) rfl rfl (box_part 10 rfl 0 rfl))
        ·
         intro vf pf hR
         refine Or.inl ⟨rfl, ?_⟩
         refine rq_less (sx 8 rfl (sub_nil _)) (List.sublist_append_right _ _) ?_
         exact rq_v (rv_ev rfl)
        ·
         intro vf pf hR
         have e3 : (vf 3) = .agg #[.int .i64 t.N, .int .i64 t.B] ∧ (pf 3) = [] := hR 3 (by decide)
         have e4 : (vf 4) = .int .i64 (tbN (lvB z0 len0 n) k : Int) ∧ (pf 4) = [] := hR 4 (by decide)
         refine Or.inl ⟨rfl, ?_⟩
         refine rq_less (sx 73 (congrArg some e3.1) (sx 74 (congrArg some e4.1) (sub_nil _))) (List.sublist_append_right _ _) ?_
         exact rq_mono (rq_call (by kernel_rfl) rfl (fun w hm => ret_ans (specTableEval_ans t (tbN (lvB z0 len0 n) k) w ht hix))) (fun _ _ h => ⟨h.1.trans (congrArg Value.bool hb34), h.2⟩)
        ·
         intro vf pf hR
         have e5 : (vf 5) = .bool false ∧ (pf 5) = [] := hR 5 (by decide)
         refine Or.inl ⟨rfl, ?_⟩
         refine rq_less (sx 75 (congrArg some e5.1) (sub_nil _)) (List.sublist_append_right _ _) ?_
         exact (rq_call (by kernel_rfl) rfl (fun w hm => ret_ans (btoi_f w)))
        ·
         intro vf pf hR
         have e2 : (vf 2) = .int .i64 (bitL (valsL m (stL n) (cod z0 len0 0 : Int)) x) ∧ (pf 2) = [] := hR 2 (by decide)
         have e6 : (vf 6) = .int .i64 0 ∧ (pf 6) = [] := hR 6 (by decide)
         refine Or.inl ⟨rfl, ?_⟩
         refine rq_less (sx 72 (congrArg some e2.1) (sx 76 (congrArg some e6.1) (sub_nil _))) (List.sublist_append_right _ _) ?_
         exact rq_mono (rq_v (rv_cmp rfl rfl rfl rfl)) (fun _ _ h => ⟨h.1.trans (congrArg Value.bool hb37), h.2⟩)
        ·
         intro vf pf hR
         have e7 : (vf 7) = .bool true ∧ (pf 7) = [] := hR 7 (by decide)
         refine Or.inl ⟨rfl, ?_⟩
         refine rq_less (sx 77 (congrArg some e7.1) (sub_nil _)) (List.sublist_append_right _ _) ?_
         exact rq_v (rv_ev rfl)
        ·
         intro vf pf hR
         have e8 : (vf 8) = .bool true ∧ (pf 8) = [] := hR 8 (by decide)
         refine Or.inl ⟨want_of (congrArg some e8.1) rfl, ?_⟩
         refine rq_less (sx 10 rfl (sub_nil _)) (List.sublist_append_right _ _) ?_
         exact rq_v (rv_field (k0 := 2) rfl (by kernel_rfl) rfl)
        ·
         intro vf pf hR
         have e8 : (vf 8) = .bool true ∧ (pf 8) = [] := hR 8 (by decide)
         have e9 : (vf 9) = .pointer (some ⟨b27, 0 + 2, none⟩) ∧ (pf 9) = [] := hR 9 (by decide)
         refine Or.inl ⟨want_of (congrArg some e8.1) rfl, ?_⟩
         refine rq_less (sx 79 (congrArg some e9.1) (sub_nil _)) (List.sublist_append_right _ _) ?_
         exact rq_v (rv_load rfl (by kernel_rfl) rfl (box_cell 4 rfl rfl))
        ·
         intro vf pf hR
         have e8 : (vf 8) = .bool true ∧ (pf 8) = [] := hR 8 (by decide)
         have e10 : (vf 10) = m.av ∧ (pf 10) = [] := hR 10 (by decide)
         refine Or.inl ⟨want_of (congrArg some e8.1) rfl, ?_⟩
         refine rq_less (sx 80 (congrArg some e10.1) (sub_nil _)) (List.sublist_append_right _ _) ?_
         exact rq_v (rv_len rfl Try.underlying25 rfl (fun w hm => (nt_rds 3 rfl w hm).an))
        ·
         intro vf pf hR
         have e8 : (vf 8) = .bool true ∧ (pf 8) = [] := hR 8 (by decide)
         refine Or.inl ⟨want_of (congrArg some e8.1) rfl, ?_⟩
         refine rq_less (sx 5 rfl (sub_nil _)) (List.sublist_append_right _ _) ?_
         exact rq_v (rv_field (k0 := 2) rfl (by kernel_rfl) rfl)
        ·
         intro vf pf hR
         have e8 : (vf 8) = .bool true ∧ (pf 8) = [] := hR 8 (by decide)
         have e12 : (vf 12) = .pointer (some ⟨b9, 0 + 2, none⟩) ∧ (pf 12) = [] := hR 12 (by decide)
         refine Or.inl ⟨want_of (congrArg some e8.1) rfl, ?_⟩
         refine rq_less (sx 82 (congrArg some e12.1) (sub_nil _)) (List.sublist_append_right _ _) ?_
         exact rq_v (rv_load rfl (by kernel_rfl) rfl (box_cell 8 rfl rfl))
        ·
         intro vf pf hR
         have e8 : (vf 8) = .bool true ∧ (pf 8) = [] := hR 8 (by decide)
         have e13 : (vf 13) = n.av ∧ (pf 13) = [] := hR 13 (by decide)
         refine Or.inl ⟨want_of (congrArg some e8.1) rfl, ?_⟩
         refine rq_less (sx 83 (congrArg some e13.1) (sub_nil _)) (List.sublist_append_right _ _) ?_
         exact rq_v (rv_len rfl Try.underlying25 rfl (fun w hm => (nt_rds 9 rfl w hm).an))
        ·
         intro vf pf hR
         have e8 : (vf 8) = .bool true ∧ (pf 8) = [] := hR 8 (by decide)
         have e11 : (vf 11) = .int .i64 (m.gs.length : Int) ∧ (pf 11) = [] := hR 11 (by decide)
         have e14 : (vf 14) = .int .i64 (n.gs.length : Int) ∧ (pf 14) = [] := hR 14 (by decide)
         refine Or.inl ⟨want_of (congrArg some e8.1) rfl, ?_⟩
         refine rq_less (sx 81 (congrArg some e11.1) (sx 84 (congrArg some e14.1) (sub_nil _))) (List.sublist_append_right _ _) ?_
         exact rq_mono (rq_v (rv_cmp rfl rfl rfl rfl)) (fun _ _ h => ⟨h.1.trans (congrArg Value.bool hb38), h.2⟩)
        ·
         intro vf pf hR
         have e8 : (vf 8) = .bool true ∧ (pf 8) = [] := hR 8 (by decide)
         have e15 : (vf 15) = .bool true ∧ (pf 15) = [] := hR 15 (by decide)
         refine Or.inl ⟨rfl, ?_⟩
         refine rq_less (sx 78 (congrArg some e8.1) (sx 85 (congrArg some e15.1) (sub_nil _))) (List.sublist_append_right _ _) ?_
         exact rq_v (rv_ev rfl)
       ·
        intro vf pf hR
        have e16 : (vf 16) = .bool true ∧ (pf 16) = [] := hR 16 (by decide)
        refine hl_less (l' := [rowE 3 1 v28 ((stL n).length) ((stL n).map (Value.int .i64)), rowE 3 1 v31 ((valsL m (stL n) (cod z0 len0 0 : Int)).length) ((valsL m (stL n) (cod z0 len0 0 : Int)).map (Value.int .i64)), rowE 139 2 v21 cs.length (cs.flatMap cubC), ntE m, boxE b27 #[.int .i64 m.ins, m.sv, m.av, m.ov] 28, rowE 3 1 v11 ((stL n).length) ((stL n).map (Value.int .i64)), rowE 3 1 v14 ((valsL n (stL n) (cod z0 len0 0 : Int)).length) ((valsL n (stL n) (cod z0 len0 0 : Int)).map (Value.int .i64)), rowE 3 1 u zs.length (zs.map (Value.int .i64)), boxE b9 #[.int .i64 n.ins, n.sv, n.av, n.ov] 28, ntE n, boxE b5 #[.int .i64 t.N, .int .i64 t.B] 55]) (sx 0 rfl (sx 2 rfl (sx 3 rfl (sx 5 rfl (sx 6 rfl (sx 7 rfl (sx 8 rfl (sx 9 rfl (sx 10 rfl (sx 11 rfl (sx 12 rfl (sx 14 rfl (sx 32 rfl (sx 86 (congrArg some e16.1) (sub_nil _))))))))))))))) (List.sublist_append_right _ _) ?_
        simp only [List.drop_succ_cons, List.drop_zero]
        refine hl_v rfl rfl rfl (rv_ev rfl) ?_
        refine hl_less (sx 0 rfl (sx 2 rfl (sx 3 rfl (sx 5 rfl (sx 6 rfl (sx 7 rfl (sx 8 rfl (sx 9 rfl (sx 10 rfl (sx 11 rfl (sx 12 rfl (sx 14 rfl (sx 32 rfl (sub_nil _)))))))))))))) (.refl _) ?_
        refine hl_nil ?_
        refine hq_then ?_
        refine hc_ret ?_
        exact hq_ans rfl rfl rfl
end Go.Proofs.Ytakbbebpimlnpaa
