/- Texts of the law FnPathLeast, part 5: what it uses. -/
import Derived.Test.YtagjmgfcbmbkhaaPl4
set_option linter.unusedVariables false
set_option linter.unusedSimpArgs false
namespace Go.Proofs.Ytagjmgfcbmbkhaa
open Go.RowKit Go.ChangeShapes
open Go.RowKit
open Go.Maps
set_option maxHeartbeats 4000000 in
set_option maxRecDepth 100000 in
theorem distances_ret (b : Nat) (g : Gr) (cs st : List Int) (cv sv : Value) (SS : Int → List Int) (w : World) (hg : RdsGr w b g) (hkl : g.ks.length = cs.length) (hkz : ∀ x : Nat, x < cs.length → (g.ks.getD x ir0).xs.length ≤ 100000) (hN : GrS cs.length SS (kOf g.ks) cs) (hcv : RdsW w cv 1 cs.length (cs.map (Value.int .i64))) (hsv : RdsW w sv 1 st.length (st.map (Value.int .i64))) (hsl : st.length ≤ 1000000) (hst : ∀ s ∈ st, 0 ≤ s ∧ s < cs.length) :
  Calls Try.prog 54 #[.pointer (some ⟨b, 0, none⟩), cv, sv] w (Ret w (fun v' post => ∃ D : List Int, post = [rowE 3 1 v' D.length (D.map (Value.int .i64))] ∧ DistOk cs.length SS cs st D)) := by
 have hrl : (List.replicate cs.length (0 : Int)).length = cs.length := List.length_replicate
 have hN1 := hN.n1
 refine calls_hc (N := 107) (args := [.pointer (some ⟨b, 0, none⟩), cv, sv]) Try.func54 rfl rfl ?_
 refine hc_less _ (sx 0 rfl (sx 1 rfl (sx 2 rfl (sub_nil _)))) (.refl _) ?_
 refine hc_seq ?_
 refine hc_region ?_
 refine hl_v rfl rfl rfl (rv_ev rfl) ?_
 refine hl_less (sx 0 rfl (sx 1 rfl (sx 2 rfl (sx 6 rfl (sub_nil _))))) (.refl _) ?_
 refine hl_nil ?_
 refine hq_then ?_
 refine hc_seq ?_
 refine hc_region ?_
 refine hl_v rfl rfl rfl (rv_ev rfl) ?_
 refine hl_v rfl rfl rfl (rv_len rfl Try.underlying26 rfl (rd_old hcv)) ?_
 refine hl_row rfl rfl rfl (rq_make (z := .int .i64 0) (s := 1) (bytes := 8) (n := (List.replicate cs.length (0 : Int)).length) (cs := ((List.replicate cs.length (0 : Int)).map (Value.int .i64))) rfl Try.underlying26 (by kernel_rfl) (by decide) rfl rfl (by first | (rw [List.length_replicate]; done) | (rw [List.length_replicate]; omega)) (by first | (rw [List.length_replicate]; done) | (rw [List.length_replicate]; omega)) (by rw [List.length_replicate]; omega) (ints_make _)) ?_
 intro g1
 refine hl_v rfl rfl rfl (rv_ev rfl) ?_
 refine hl_less (sx 0 rfl (sx 1 rfl (sx 2 rfl (sx 6 rfl (sx 7 rfl (sub_nil _)))))) (.refl _) ?_
 refine hl_nil ?_
 refine hq_then ?_
 refine hc_seq ?_
 refine hc_seq ?_
 refine hc_region ?_
 refine hl_v rfl rfl rfl (rv_ev rfl) ?_
 refine hl_v rfl rfl rfl (rv_len rfl Try.underlying26 rfl (rd_row 0 rfl)) ?_
 refine hl_v rfl rfl rfl (rv_ev rfl) ?_
 refine hl_less (sx 0 rfl (sx 1 rfl (sx 2 rfl (sx 6 rfl (sx 7 rfl (sx 20 rfl (sx 21 rfl (sub_nil _)))))))) (.refl _) ?_
 refine hl_nil ?_
 refine hq_then ?_
 refine hc_block ?_
 refine hc_loop2 (α := Nat) (β := List Int) (fun k zs => [rowE 3 1 (.slice (some ⟨g1, 0, none⟩) ((List.replicate cs.length (0 : Int)).length) ((List.replicate cs.length (0 : Int)).length)) zs.length (zs.map (Value.int .i64))]) (fun k zs => [(0, .pointer (some ⟨b, 0, none⟩)), (1, cv), (2, sv), (6, .slice none 0 0), (7, .slice (some ⟨g1, 0, none⟩) ((List.replicate cs.length (0 : Int)).length) ((List.replicate cs.length (0 : Int)).length)), (20, .int .i64 ((List.replicate cs.length (0 : Int)).length : Int)), (21, .int .i64 (k : Int))]) (fun k zs => k ≤ cs.length ∧ zs = List.replicate k (-1) ++ List.replicate (cs.length - k) 0) (fun k zs => cs.length - k) 0 (List.replicate cs.length 0) ⟨by omega, by simp⟩ (sx 0 rfl (sx 1 rfl (sx 2 rfl (sx 6 rfl (sx 7 rfl (sx 20 rfl (sx 21 rfl (sub_nil _)))))))) ((.cons_cons _ .slnil)) ?_
 intro k zs hi2
 obtain ⟨hk, hz⟩ := hi2
 have hzl : zs.length = cs.length := by rw [hz, fillM_len hk]
 refine hc_seq ?_
 refine hc_region ?_
 refine hl_lss rfl rfl rfl rfl rfl rfl (fun h3 => ?_) (fun h3 => ?_)
 ·
  refine hl_less (sx 0 rfl (sx 1 rfl (sx 2 rfl (sx 6 rfl (sx 7 rfl (sx 20 rfl (sx 21 rfl (sx 22 rfl (sub_nil _))))))))) (.refl _) ?_
  refine hl_nil ?_
  refine hq_then ?_
  refine hc_seq ?_
  refine hc_true rfl ?_
  refine hc_skip ?_
  refine hq_then ?_
  refine hc_seq ?_
  refine hc_block ?_
  refine hc_seq ?_
  refine hc_region ?_
  refine hl_v rfl rfl rfl (rv_ev rfl) ?_
  refine hl_v rfl rfl rfl (rv_ev rfl) ?_
  refine hl_less (sx 0 rfl (sx 1 rfl (sx 2 rfl (sx 6 rfl (sx 7 rfl (sx 8 rfl (sx 20 rfl (sx 21 rfl (sx 22 rfl (sub_nil _)))))))))) (.refl _) ?_
  refine hl_nil ?_
  refine hq_then ?_
  refine hc_region ?_
  refine hl_v rfl rfl rfl (rv_ev rfl) ?_
  refine hl_v rfl rfl rfl (rv_ev rfl) ?_
  refine hl_v rfl rfl rfl (rv_index (s := 1) rfl Try.underlying26 (by kernel_rfl) rfl rfl (rd_row 0 rfl) (by omega) (by first | omega | (simp only [List.length_set]; omega))) ?_
  refine hl_storeEl (i := 0) (n' := (zs.set k (-1)).length) (xs' := ((zs.set k (-1)).map (Value.int .i64))) (l' := [rowE 3 1 (.slice (some ⟨g1, 0, none⟩) ((List.replicate cs.length (0 : Int)).length) ((List.replicate cs.length (0 : Int)).length)) ((zs.set k (-1)).length) ((zs.set k (-1)).map (Value.int .i64))]) rfl rfl rfl (by kernel_rfl) rfl rfl rfl rfl (by first | omega | (simp only [List.length_set]; omega)) List.length_set.symm (ints_set _ _ _) rfl ?_
  refine hl_less (sx 0 rfl (sx 1 rfl (sx 2 rfl (sx 6 rfl (sx 7 rfl (sx 8 rfl (sx 20 rfl (sx 21 rfl (sx 22 rfl (sub_nil _)))))))))) (.refl _) ?_
  refine hl_nil ?_
  refine hq_block_normal ?_
  refine hq_then ?_
  refine hc_region ?_
  refine hl_v rfl rfl rfl (rv_add rfl rfl rfl (by constructor <;> omega)) ?_
  refine hl_v rfl rfl rfl (rv_ev rfl) ?_
  refine hl_less (sx 0 rfl (sx 1 rfl (sx 2 rfl (sx 6 rfl (sx 7 rfl (sx 8 rfl (sx 20 rfl (sx 21 rfl (sx 22 rfl (sub_nil _)))))))))) (.refl _) ?_
  refine hl_nil ?_
  exact hq_round2 (k + 1) (zs.set k (-1)) ⟨by omega, by rw [hz]; exact fillM_set (by omega)⟩ (by omega) (sx 0 rfl (sx 1 rfl (sx 2 rfl (sx 6 rfl (sx 7 rfl (sx 20 rfl (sx 21 rfl (sub_nil _)))))))) ((.cons_cons _ .slnil))
 ·
  refine hl_less (sx 0 rfl (sx 1 rfl (sx 2 rfl (sx 6 rfl (sx 7 rfl (sx 20 rfl (sx 21 rfl (sx 22 rfl (sub_nil _))))))))) (.refl _) ?_
  refine hl_nil ?_
  refine hq_then ?_
  refine hc_seq ?_
  refine hc_false rfl ?_
  refine hc_exit ?_
  refine hq_then_exit ?_
  refine hq_then_exit ?_
  refine hq_block_exit ?_
  refine hq_then ?_
  refine hc_seq ?_
  refine hc_region ?_
  refine hl_nilRow 96 2 ?_
  refine hl_eqL (l' := [rowE 96 2 (.slice none 0 0) (([] : List Qu).length) (([] : List Qu).flatMap quC), rowE 3 1 (.slice (some ⟨g1, 0, none⟩) ((List.replicate cs.length (0 : Int)).length) ((List.replicate cs.length (0 : Int)).length)) zs.length (zs.map (Value.int .i64))]) rfl ?_
  refine hl_v rfl rfl rfl (rv_ev rfl) ?_
  refine hl_less (sx 0 rfl (sx 1 rfl (sx 2 rfl (sx 6 rfl (sx 7 rfl (sx 9 rfl (sx 20 rfl (sx 21 rfl (sx 22 rfl (sub_nil _)))))))))) (.refl _) ?_
  refine hl_nil ?_
  refine hq_then ?_
  refine hc_seq ?_
  refine hc_seq ?_
  refine hc_region ?_
  refine hl_v rfl rfl rfl (rv_ev rfl) ?_
  refine hl_v rfl rfl rfl (rv_len rfl Try.underlying26 rfl (rd_old hsv)) ?_
  refine hl_v rfl rfl rfl (rv_ev rfl) ?_
  refine hl_less (sx 0 rfl (sx 1 rfl (sx 2 rfl (sx 6 rfl (sx 7 rfl (sx 9 rfl (sx 20 rfl (sx 21 rfl (sx 22 rfl (sx 28 rfl (sx 29 rfl (sx 30 rfl (sub_nil _))))))))))))) (.refl _) ?_
  refine hl_nil ?_
  refine hq_then ?_
  refine hc_block ?_
  refine hc_loop4 (α := Nat) (β := Value) (γ := List Qu) (δ := List Int) (fun i u td os => [rowE 96 2 u td.length (td.flatMap quC), rowE 3 1 (.slice (some ⟨g1, 0, none⟩) ((List.replicate cs.length (0 : Int)).length) ((List.replicate cs.length (0 : Int)).length)) os.length (os.map (Value.int .i64))]) (fun i u td os => [(0, .pointer (some ⟨b, 0, none⟩)), (1, cv), (2, sv), (6, .slice none 0 0), (7, .slice (some ⟨g1, 0, none⟩) ((List.replicate cs.length (0 : Int)).length) ((List.replicate cs.length (0 : Int)).length)), (9, u), (22, .bool false), (28, sv), (29, .int .i64 (st.length : Int)), (30, .int .i64 (i : Int))]) (fun i u td os => i ≤ st.length ∧ DS cs.length cs st (st.take i) os td) (fun i u td os => st.length - i) 0 _ [] zs ⟨by omega, by rw [hz, show k = cs.length by omega, fillM_end]; exact ds_start _ _ _⟩ (sx 0 rfl (sx 1 rfl (sx 2 rfl (sx 6 rfl (sx 7 rfl (sx 9 rfl (sx 22 rfl (sx 28 rfl (sx 29 rfl (sx 30 rfl (sub_nil _))))))))))) ((.cons_cons _ (.cons_cons _ .slnil))) ?_
  intro i u td os hi5
  obtain ⟨hi, hds⟩ := hi5
  have hol := hds.len
  have hmea := hds.mea
  have hqb := hN.bnd
  refine hc_seq ?_
  refine hc_region ?_
  refine hl_lss rfl rfl rfl rfl rfl rfl (fun h6 => ?_) (fun h6 => ?_)
  ·
   refine hl_less (sx 0 rfl (sx 1 rfl (sx 2 rfl (sx 6 rfl (sx 7 rfl (sx 9 rfl (sx 22 rfl (sx 28 rfl (sx 29 rfl (sx 30 rfl (sx 31 rfl (sub_nil _)))))))))))) (.refl _) ?_
   refine hl_nil ?_
   refine hq_then ?_
   refine hc_seq ?_
   refine hc_true rfl ?_
   refine hc_skip ?_
   refine hq_then ?_
   refine hc_seq ?_
   refine hc_block ?_
   refine hc_seq ?_
   refine hc_region ?_
   refine hl_v rfl rfl rfl (rv_index (s := 1) rfl Try.underlying26 (by kernel_rfl) rfl rfl (rd_old hsv) (by omega) (by first | omega | (simp only [List.length_set]; omega))) ?_
   refine hl_v rfl rfl rfl (rv_loadEl (u := .int .i64 (st.getD i 0)) rfl (by kernel_rfl) rfl (rd_old hsv) (ints_at1 (show _ < st.length by first | omega | (simp only [List.length_set]; omega)))) ?_
   refine hl_v rfl rfl rfl (rv_ev rfl) ?_
   refine hl_less (sx 0 rfl (sx 1 rfl (sx 2 rfl (sx 6 rfl (sx 7 rfl (sx 9 rfl (sx 11 rfl (sx 22 rfl (sx 28 rfl (sx 29 rfl (sx 30 rfl (sx 31 rfl (sub_nil _))))))))))))) (.refl _) ?_
   refine hl_nil ?_
   refine hq_then ?_
   refine hc_seq ?_
   refine hc_region ?_
   have hsr := hst (st.getD i 0) (getD_memZ (by omega))
   refine hl_v rfl rfl rfl (rv_ev rfl) ?_
   refine hl_v rfl rfl rfl (rv_ev rfl) ?_
   refine hl_v rfl rfl rfl (rv_index (s := 1) rfl Try.underlying26 (by kernel_rfl) rfl rfl (rd_row 1 rfl) (by omega) (by first | omega | (simp only [List.length_set]; omega))) ?_
   refine hl_v rfl rfl rfl (rv_loadEl (u := .int .i64 (os.getD ((st.getD i 0).toNat) 0)) rfl (by kernel_rfl) rfl (rd_row 1 rfl) (ints_at1 (show _ < os.length by first | omega | (simp only [List.length_set]; omega)))) ?_
   refine hl_neq rfl rfl rfl rfl rfl rfl (fun h7 => ?_) (fun h7 => ?_)
   ·
    refine hl_less (sx 0 rfl (sx 1 rfl (sx 2 rfl (sx 6 rfl (sx 7 rfl (sx 9 rfl (sx 11 rfl (sx 22 rfl (sx 28 rfl (sx 29 rfl (sx 30 rfl (sx 31 rfl (sx 38 rfl (sub_nil _)))))))))))))) (.refl _) ?_
    refine hl_nil ?_
    refine hq_then ?_
    refine hc_true rfl ?_
    refine hc_seq ?_
    refine hc_region ?_
    refine hl_v rfl rfl rfl (rv_ev rfl) ?_
    refine hl_v rfl rfl rfl (rv_ev rfl) ?_
    refine hl_v rfl rfl rfl (rv_index (s := 1) rfl Try.underlying26 (by kernel_rfl) rfl rfl (rd_row 1 rfl) (by omega) (by first | omega | (simp only [List.length_set]; omega))) ?_
    refine hl_storeEl (i := 1) (n' := (os.set ((st.getD i 0).toNat) 0).length) (xs' := ((os.set ((st.getD i 0).toNat) 0).map (Value.int .i64))) (l' := [rowE 96 2 u td.length (td.flatMap quC), rowE 3 1 (.slice (some ⟨g1, 0, none⟩) ((List.replicate cs.length (0 : Int)).length) ((List.replicate cs.length (0 : Int)).length)) ((os.set ((st.getD i 0).toNat) 0).length) ((os.set ((st.getD i 0).toNat) 0).map (Value.int .i64))]) rfl rfl rfl (by kernel_rfl) rfl rfl rfl rfl (by first | omega | (simp only [List.length_set]; omega)) List.length_set.symm (ints_set _ _ _) rfl ?_
    refine hl_less (sx 0 rfl (sx 1 rfl (sx 2 rfl (sx 6 rfl (sx 7 rfl (sx 9 rfl (sx 11 rfl (sx 22 rfl (sx 28 rfl (sx 29 rfl (sx 30 rfl (sx 31 rfl (sx 38 rfl (sub_nil _)))))))))))))) (.refl _) ?_
    refine hl_nil ?_
    refine hq_then ?_
    refine hc_region ?_
    refine hl_v rfl rfl rfl (rv_ev rfl) ?_
    refine hl_v rfl rfl rfl (rv_ev rfl) ?_
    refine hl_v rfl rfl rfl (rv_build (cs := #[.int .i64 0, .int .i64 (st.getD i 0)]) rfl rfl (by kernel_rfl)) ?_
    refine hl_callM (R := (fun v_ p_ => ∃ es' : List Qu, p_ = rowE 96 2 v_ (es').length ((es').flatMap quC) ∧ es'.Perm (td ++ [(Qu.mk 0 (st.getD i 0))]))) 0 rfl rfl (by kernel_rfl) rfl rfl (fun l' w hm => pushQueue_mut td _ (Qu.mk 0 (st.getD i 0)) _ _ _ hm (by omega)) ?_
    intro v8 p9 hR10
    obtain ⟨qshR10, rfl, hpp⟩ := hR10
    refine hl_eqL (l' := [rowE 96 2 v8 qshR10.length (qshR10.flatMap quC), rowE 3 1 (.slice (some ⟨g1, 0, none⟩) ((List.replicate cs.length (0 : Int)).length) ((List.replicate cs.length (0 : Int)).length)) ((os.set ((st.getD i 0).toNat) 0).length) ((os.set ((st.getD i 0).toNat) 0).map (Value.int .i64))]) rfl ?_
    refine hl_v rfl rfl rfl (rv_ev rfl) ?_
    refine hl_less (sx 0 rfl (sx 1 rfl (sx 2 rfl (sx 6 rfl (sx 7 rfl (sx 9 rfl (sx 11 rfl (sx 22 rfl (sx 28 rfl (sx 29 rfl (sx 30 rfl (sx 31 rfl (sx 38 rfl (sub_nil _)))))))))))))) (.refl _) ?_
    refine hl_nil ?_
    refine hq_block_normal ?_
    refine hq_then ?_
    refine hc_region ?_
    refine hl_v rfl rfl rfl (rv_add rfl rfl rfl (by constructor <;> omega)) ?_
    refine hl_v rfl rfl rfl (rv_ev rfl) ?_
    refine hl_less (sx 0 rfl (sx 1 rfl (sx 2 rfl (sx 6 rfl (sx 7 rfl (sx 9 rfl (sx 11 rfl (sx 22 rfl (sx 28 rfl (sx 29 rfl (sx 30 rfl (sx 31 rfl (sx 38 rfl (sub_nil _)))))))))))))) (.refl _) ?_
    refine hl_nil ?_
    exact hq_round4 (i + 1) v8 qshR10 (os.set ((st.getD i 0).toNat) 0) ⟨by omega, by rw [take_snocZ (by omega)]; exact hds.more hsr.1 hsr.2 (getD_memZ (by omega)) (by unfold gI; omega) hpp.symm⟩ (by omega) (sx 0 rfl (sx 1 rfl (sx 2 rfl (sx 6 rfl (sx 7 rfl (sx 9 rfl (sx 22 rfl (sx 28 rfl (sx 29 rfl (sx 30 rfl (sub_nil _))))))))))) ((.cons_cons _ (.cons_cons _ .slnil)))
   ·
    refine hl_less (sx 0 rfl (sx 1 rfl (sx 2 rfl (sx 6 rfl (sx 7 rfl (sx 9 rfl (sx 11 rfl (sx 22 rfl (sx 28 rfl (sx 29 rfl (sx 30 rfl (sx 31 rfl (sx 38 rfl (sub_nil _)))))))))))))) (.refl _) ?_
    refine hl_nil ?_
    refine hq_then ?_
    refine hc_false rfl ?_
    refine hc_skip ?_
    refine hq_block_normal ?_
    refine hq_then ?_
    refine hc_region ?_
    refine hl_v rfl rfl rfl (rv_add rfl rfl rfl (by constructor <;> omega)) ?_
    refine hl_v rfl rfl rfl (rv_ev rfl) ?_
    refine hl_less (sx 0 rfl (sx 1 rfl (sx 2 rfl (sx 6 rfl (sx 7 rfl (sx 9 rfl (sx 11 rfl (sx 22 rfl (sx 28 rfl (sx 29 rfl (sx 30 rfl (sx 31 rfl (sx 38 rfl (sub_nil _)))))))))))))) (.refl _) ?_
    refine hl_nil ?_
    exact hq_round4 (i + 1) u td os ⟨by omega, by rw [take_snocZ (by omega)]; exact hds.again (by assumption)⟩ (by omega) (sx 0 rfl (sx 1 rfl (sx 2 rfl (sx 6 rfl (sx 7 rfl (sx 9 rfl (sx 22 rfl (sx 28 rfl (sx 29 rfl (sx 30 rfl (sub_nil _))))))))))) ((.cons_cons _ (.cons_cons _ .slnil)))
  ·
   refine hl_less (sx 0 rfl (sx 1 rfl (sx 2 rfl (sx 6 rfl (sx 7 rfl (sx 9 rfl (sx 22 rfl (sx 28 rfl (sx 29 rfl (sx 30 rfl (sx 31 rfl (sub_nil _)))))))))))) (.refl _) ?_
   refine hl_nil ?_
   refine hq_then ?_
   refine hc_seq ?_
   refine hc_false rfl ?_
   refine hc_exit ?_
   refine hq_then_exit ?_
   refine hq_then_exit ?_
   refine hq_block_exit ?_
   refine hq_then ?_
   refine hc_seq ?_
   refine hc_block ?_
   refine hc_loop4 (α := Nat) (β := Value) (γ := List Qu) (δ := List Int) (fun M u td os => [rowE 96 2 u td.length (td.flatMap quC), rowE 3 1 (.slice (some ⟨g1, 0, none⟩) ((List.replicate cs.length (0 : Int)).length) ((List.replicate cs.length (0 : Int)).length)) os.length (os.map (Value.int .i64))]) (fun M u td os => [(0, .pointer (some ⟨b, 0, none⟩)), (1, cv), (2, sv), (6, .slice none 0 0), (7, .slice (some ⟨g1, 0, none⟩) ((List.replicate cs.length (0 : Int)).length) ((List.replicate cs.length (0 : Int)).length)), (9, u), (22, .bool false), (31, .bool false)]) (fun M u td os => M ≤ cs.length * (100000 * cs.length + 1) ∧ DI cs.length SS cs st st (kOf g.ks) os td M) (fun M u td os => M) (cs.length * (100000 * cs.length + 1)) u td os ⟨Nat.le_refl _, by have h9 := hds; rw [show i = st.length by omega, List.take_length] at h9; exact h9.di⟩ (sx 0 rfl (sx 1 rfl (sx 2 rfl (sx 6 rfl (sx 7 rfl (sx 9 rfl (sx 22 rfl (sx 31 rfl (sub_nil _))))))))) ((.cons_cons _ (.cons_cons _ .slnil))) ?_
   intro M u td os hi11
   obtain ⟨hM, hdi⟩ := hi11
   have hol := hdi.len
   have hmea := hdi.mea
   have hqb := hN.bnd
   refine hc_seq ?_
   refine hc_seq ?_
   refine hc_region ?_
   refine hl_v rfl rfl rfl (rv_ev rfl) ?_
   refine hl_v rfl rfl rfl (rv_len rfl Try.underlying93 rfl (rd_row 0 rfl)) ?_
   refine hl_gtr rfl rfl rfl rfl rfl rfl (fun h12 => ?_) (fun h12 => ?_)
   ·
    refine hl_less (sx 0 rfl (sx 1 rfl (sx 2 rfl (sx 6 rfl (sx 7 rfl (sx 9 rfl (sx 22 rfl (sx 31 rfl (sx 49 rfl (sub_nil _)))))))))) (.refl _) ?_
    refine hl_nil ?_
    refine hq_then ?_
    refine hc_true rfl ?_
    refine hc_skip ?_
    refine hq_then ?_
    refine hc_block ?_
    refine hc_seq ?_
    refine hc_region ?_
    refine hl_box rfl rfl rfl (rq_alloc (z := .agg #[.int .i64 0, .int .i64 0]) rfl (by kernel_rfl)) ?_
    intro b13
    refine hl_less (sx 0 rfl (sx 1 rfl (sx 2 rfl (sx 6 rfl (sx 7 rfl (sx 9 rfl (sx 12 rfl (sx 22 rfl (sx 31 rfl (sx 49 rfl (sub_nil _))))))))))) (.refl _) ?_
    refine hl_nil ?_
    refine hq_then ?_
    refine hc_seq ?_
    refine hc_region ?_
    refine hl_v rfl rfl rfl (rv_ev rfl) ?_
    refine hl_callM (R := (fun v_ p_ => ∃ (q : Qu) (v2 : Value) (es' : List Qu), v_ = .tuple #[v2, .agg #[.int .i64 q.d, .int .i64 q.n]] ∧ p_ = rowE 96 2 v2 (es').length ((es').flatMap quC) ∧ (q :: es').Perm td)) 1 rfl rfl (by kernel_rfl) rfl rfl (fun l' w hm => popQueue_mut td _ _ _ _ hm (by omega) (by omega)) ?_
    intro v14 p15 hR16
    obtain ⟨q, v2, qt, rfl, rfl, hqp⟩ := hR16
    refine hl_eqL (l' := [boxE b13 #[.int .i64 0, .int .i64 0] 96, rowE 96 2 v2 qt.length (qt.flatMap quC), rowE 3 1 (.slice (some ⟨g1, 0, none⟩) ((List.replicate cs.length (0 : Int)).length) ((List.replicate cs.length (0 : Int)).length)) os.length (os.map (Value.int .i64))]) rfl ?_
    refine hl_v rfl rfl rfl (rv_ev rfl) ?_
    refine hl_v rfl rfl rfl (rv_ev rfl) ?_
    refine hl_v rfl rfl rfl (rv_ev rfl) ?_
    refine hl_v rfl rfl rfl (rv_ev rfl) ?_
    refine hl_storeBoxN (i := 0) (off := 0) (us := [.int .i64 q.d, .int .i64 q.n]) (l' := [boxE b13 #[.int .i64 q.d, .int .i64 q.n] 96, rowE 96 2 v2 qt.length (qt.flatMap quC), rowE 3 1 (.slice (some ⟨g1, 0, none⟩) ((List.replicate cs.length (0 : Int)).length) ((List.replicate cs.length (0 : Int)).length)) os.length (os.map (Value.int .i64))]) rfl rfl rfl (by kernel_rfl) rfl rfl rfl (all_cons rfl (all_cons rfl all_nil)) rfl rfl rfl ?_
    refine hl_less (sx 0 rfl (sx 1 rfl (sx 2 rfl (sx 6 rfl (sx 7 rfl (sx 9 rfl (sx 12 rfl (sx 22 rfl (sx 31 rfl (sx 49 rfl (sub_nil _))))))))))) (.refl _) ?_
    refine hl_nil ?_
    refine hq_then ?_
    refine hc_seq ?_
    refine hc_seq ?_
    have hdq := hdi.perm hqp.symm
    obtain ⟨ht0, ht1, ht2, ht3, ht4⟩ := hdq.top
    have hks9 := hkz q.n.toNat (by omega)
    have ht1x : 0 ≤ os.getD q.n.toNat 0 := ht1
    have ht2x : os.getD q.n.toNat 0 ≤ q.d := ht2
    have hN1 := hN.n1
    rcases Bool.eq_false_or_eq_true (decide (os.getD ((q.n).toNat) 0 < q.d)) with hb17 | hb17
    ·
     have hb17p : os.getD ((q.n).toNat) 0 < q.d := of_decide_eq_true hb17
     have hdq := hdi.perm hqp.symm
     obtain ⟨ht0, ht1, ht2, ht3, ht4⟩ := hdq.top
     have hks9 := hkz q.n.toNat (by omega)
     have ht1x : 0 ≤ os.getD q.n.toNat 0 := ht1
     have ht2x : os.getD q.n.toNat 0 ≤ q.d := ht2
     have hN1 := hN.n1
     refine hc_draw (by kernel_rfl) 8 [0, 1, 2, 3, 4, 5, 6, 7] (List.take 8 _) (List.drop 8 _) [[], [0], [], [], [3], [2, 4], [5], [1, 6]] [55, 56, 57, 58, 59, 60, 61, 62] (fun i_ vs_ v_ p_ => match i_ with | 0 => v_ = .pointer (some ⟨b13, 0 + 0, none⟩) ∧ p_ = [] | 1 => v_ = .int .i64 q.d ∧ p_ = [] | 2 => v_ = .slice (some ⟨g1, 0, none⟩) ((List.replicate cs.length (0 : Int)).length) ((List.replicate cs.length (0 : Int)).length) ∧ p_ = [] | 3 => v_ = .pointer (some ⟨b13, 0 + 1, none⟩) ∧ p_ = [] | 4 => v_ = .int .i64 q.n ∧ p_ = [] | 5 => v_ = elP (.slice (some ⟨g1, 0, none⟩) ((List.replicate cs.length (0 : Int)).length) ((List.replicate cs.length (0 : Int)).length)) ((q.n).toNat * 1) ∧ p_ = [] | 6 => v_ = .int .i64 (os.getD ((q.n).toNat) 0) ∧ p_ = [] | 7 => v_ = .bool true ∧ p_ = [] | _ => True) (List.take_append_drop 8 _).symm (by kernel_rfl) (by kernel_rfl) rfl rfl ?_ ?_
     ·
      refine ⟨?_, ?_, ?_, ?_, ?_, ?_, ?_, ?_, trivial⟩
      ·
       intro vf pf hR
       refine Or.inl ⟨rfl, ?_⟩
       refine rq_less (sx 12 rfl (sub_nil _)) (List.sublist_append_right _ _) ?_
       exact rq_v (rv_field (k0 := 0) rfl (by kernel_rfl) rfl)
      ·
       intro vf pf hR
       have e0 : (vf 0) = .pointer (some ⟨b13, 0 + 0, none⟩) ∧ (pf 0) = [] := hR 0 (by decide)
       refine Or.inl ⟨rfl, ?_⟩
       refine rq_less (sx 55 (congrArg some e0.1) (sub_nil _)) (List.sublist_append_right _ _) ?_
       exact rq_v (rv_load rfl (by kernel_rfl) rfl (box_cell 0 rfl rfl))
      ·
       intro vf pf hR
       refine Or.inl ⟨rfl, ?_⟩
       refine rq_less (sx 7 rfl (sub_nil _)) (List.sublist_append_right _ _) ?_
       exact rq_v (rv_ev rfl)
      ·
       intro vf pf hR
       refine Or.inl ⟨rfl, ?_⟩
       refine rq_less (sx 12 rfl (sub_nil _)) (List.sublist_append_right _ _) ?_
       exact rq_v (rv_field (k0 := 1) rfl (by kernel_rfl) rfl)
      ·
       intro vf pf hR
       have e3 : (vf 3) = .pointer (some ⟨b13, 0 + 1, none⟩) ∧ (pf 3) = [] := hR 3 (by decide)
       refine Or.inl ⟨rfl, ?_⟩
       refine rq_less (sx 58 (congrArg some e3.1) (sub_nil _)) (List.sublist_append_right _ _) ?_
       exact rq_v (rv_load rfl (by kernel_rfl) rfl (box_cell 0 rfl rfl))
      ·
       intro vf pf hR
       have e2 : (vf 2) = .slice (some ⟨g1, 0, none⟩) ((List.replicate cs.length (0 : Int)).length) ((List.replicate cs.length (0 : Int)).length) ∧ (pf 2) = [] := hR 2 (by decide)
       have e4 : (vf 4) = .int .i64 q.n ∧ (pf 4) = [] := hR 4 (by decide)
       refine Or.inl ⟨rfl, ?_⟩
       refine rq_less (sx 57 (congrArg some e2.1) (sx 59 (congrArg some e4.1) (sub_nil _))) (List.sublist_append_right _ _) ?_
       exact rq_v (rv_index (s := 1) rfl Try.underlying26 (by kernel_rfl) rfl rfl (rd_row 2 rfl) (by omega) (by first | omega | (simp only [List.length_set]; omega)))
      ·
       intro vf pf hR
       have e5 : (vf 5) = elP (.slice (some ⟨g1, 0, none⟩) ((List.replicate cs.length (0 : Int)).length) ((List.replicate cs.length (0 : Int)).length)) ((q.n).toNat * 1) ∧ (pf 5) = [] := hR 5 (by decide)
       refine Or.inl ⟨rfl, ?_⟩
       refine rq_less (sx 60 (congrArg some e5.1) (sub_nil _)) (List.sublist_append_right _ _) ?_
       exact rq_v (rv_loadEl (u := .int .i64 (os.getD ((q.n).toNat) 0)) rfl (by kernel_rfl) rfl (rd_row 2 rfl) (ints_at1 (show _ < os.length by first | omega | (simp only [List.length_set]; omega))))
      ·
       intro vf pf hR
       have e1 : (vf 1) = .int .i64 q.d ∧ (pf 1) = [] := hR 1 (by decide)
       have e6 : (vf 6) = .int .i64 (os.getD ((q.n).toNat) 0) ∧ (pf 6) = [] := hR 6 (by decide)
       refine Or.inl ⟨rfl, ?_⟩
       refine rq_less (sx 56 (congrArg some e1.1) (sx 61 (congrArg some e6.1) (sub_nil _))) (List.sublist_append_right _ _) ?_
       exact rq_mono (rq_v (rv_cmp rfl rfl rfl rfl)) (fun _ _ h => ⟨h.1.trans (congrArg Value.bool hb17), h.2⟩)
     ·
      intro vf pf hR
      have e7 : (vf 7) = .bool true ∧ (pf 7) = [] := hR 7 (by decide)
      refine hl_less (l' := [boxE b13 #[.int .i64 q.d, .int .i64 q.n] 96, rowE 96 2 v2 qt.length (qt.flatMap quC), rowE 3 1 (.slice (some ⟨g1, 0, none⟩) ((List.replicate cs.length (0 : Int)).length) ((List.replicate cs.length (0 : Int)).length)) os.length (os.map (Value.int .i64))]) (sx 0 rfl (sx 1 rfl (sx 2 rfl (sx 6 rfl (sx 7 rfl (sx 9 rfl (sx 12 rfl (sx 22 rfl (sx 31 rfl (sx 49 rfl (sx 62 (congrArg some e7.1) (sub_nil _)))))))))))) (List.sublist_append_right _ _) ?_
      simp only [List.drop_succ_cons, List.drop_zero]
      refine hl_less (sx 0 rfl (sx 1 rfl (sx 2 rfl (sx 6 rfl (sx 7 rfl (sx 9 rfl (sx 12 rfl (sx 22 rfl (sx 31 rfl (sx 49 rfl (sx 62 rfl (sub_nil _)))))))))))) (.refl _) ?_
      refine hl_nil ?_
      refine hq_then ?_
      refine hc_true rfl ?_
      refine hc_exit ?_
      refine hq_then_exit ?_
      refine hq_block_exit ?_
      exact hq_round4 (M - 1) v2 qt os ⟨by omega, hdq.drop (by unfold gI; omega)⟩ (by omega) (sx 0 rfl (sx 1 rfl (sx 2 rfl (sx 6 rfl (sx 7 rfl (sx 9 rfl (sx 22 rfl (sx 31 rfl (sub_nil _))))))))) ((.cons _ (.cons_cons _ (.cons_cons _ .slnil))))
    ·
     have hb17p : ¬ (os.getD ((q.n).toNat) 0 < q.d) := of_decide_eq_false hb17
     have hdq := hdi.perm hqp.symm
     obtain ⟨ht0, ht1, ht2, ht3, ht4⟩ := hdq.top
     have hks9 := hkz q.n.toNat (by omega)
     have ht1x : 0 ≤ os.getD q.n.toNat 0 := ht1
     have ht2x : os.getD q.n.toNat 0 ≤ q.d := ht2
     have hN1 := hN.n1
     refine hc_draw (by kernel_rfl) 8 [0, 1, 2, 3, 4, 5, 6, 7] (List.take 8 _) (List.drop 8 _) [[], [0], [], [], [3], [2, 4], [5], [1, 6]] [55, 56, 57, 58, 59, 60, 61, 62] (fun i_ vs_ v_ p_ => match i_ with | 0 => v_ = .pointer (some ⟨b13, 0 + 0, none⟩) ∧ p_ = [] | 1 => v_ = .int .i64 q.d ∧ p_ = [] | 2 => v_ = .slice (some ⟨g1, 0, none⟩) ((List.replicate cs.length (0 : Int)).length) ((List.replicate cs.length (0 : Int)).length) ∧ p_ = [] | 3 => v_ = .pointer (some ⟨b13, 0 + 1, none⟩) ∧ p_ = [] | 4 => v_ = .int .i64 q.n ∧ p_ = [] | 5 => v_ = elP (.slice (some ⟨g1, 0, none⟩) ((List.replicate cs.length (0 : Int)).length) ((List.replicate cs.length (0 : Int)).length)) ((q.n).toNat * 1) ∧ p_ = [] | 6 => v_ = .int .i64 (os.getD ((q.n).toNat) 0) ∧ p_ = [] | 7 => v_ = .bool false ∧ p_ = [] | _ => True) (List.take_append_drop 8 _).symm (by kernel_rfl) (by kernel_rfl) rfl rfl ?_ ?_
     ·
      refine ⟨?_, ?_, ?_, ?_, ?_, ?_, ?_, ?_, trivial⟩
      ·
       intro vf pf hR
       refine Or.inl ⟨rfl, ?_⟩
       refine rq_less (sx 12 rfl (sub_nil _)) (List.sublist_append_right _ _) ?_
       exact rq_v (rv_field (k0 := 0) rfl (by kernel_rfl) rfl)
      ·
       intro vf pf hR
       have e0 : (vf 0) = .pointer (some ⟨b13, 0 + 0, none⟩) ∧ (pf 0) = [] := hR 0 (by decide)
       refine Or.inl ⟨rfl, ?_⟩
       refine rq_less (sx 55 (congrArg some e0.1) (sub_nil _)) (List.sublist_append_right _ _) ?_
       exact rq_v (rv_load rfl (by kernel_rfl) rfl (box_cell 0 rfl rfl))
      ·
       intro vf pf hR
       refine Or.inl ⟨rfl, ?_⟩
       refine rq_less (sx 7 rfl (sub_nil _)) (List.sublist_append_right _ _) ?_
       exact rq_v (rv_ev rfl)
      ·
       intro vf pf hR
       refine Or.inl ⟨rfl, ?_⟩
       refine rq_less (sx 12 rfl (sub_nil _)) (List.sublist_append_right _ _) ?_
       exact rq_v (rv_field (k0 := 1) rfl (by kernel_rfl) rfl)
      ·
       intro vf pf hR
       have e3 : (vf 3) = .pointer (some ⟨b13, 0 + 1, none⟩) ∧ (pf 3) = [] := hR 3 (by decide)
       refine Or.inl ⟨rfl, ?_⟩
       refine rq_less (sx 58 (congrArg some e3.1) (sub_nil _)) (List.sublist_append_right _ _) ?_
       exact rq_v (rv_load rfl (by kernel_rfl) rfl (box_cell 0 rfl rfl))
      ·
       intro vf pf hR
       have e2 : (vf 2) = .slice (some ⟨g1, 0, none⟩) ((List.replicate cs.length (0 : Int)).length) ((List.replicate cs.length (0 : Int)).length) ∧ (pf 2) = [] := hR 2 (by decide)
       have e4 : (vf 4) = .int .i64 q.n ∧ (pf 4) = [] := hR 4 (by decide)
       refine Or.inl ⟨rfl, ?_⟩
       refine rq_less (sx 57 (congrArg some e2.1) (sx 59 (congrArg some e4.1) (sub_nil _))) (List.sublist_append_right _ _) ?_
       exact rq_v (rv_index (s := 1) rfl Try.underlying26 (by kernel_rfl) rfl rfl (rd_row 2 rfl) (by omega) (by first | omega | (simp only [List.length_set]; omega)))
      ·
       intro vf pf hR
       have e5 : (vf 5) = elP (.slice (some ⟨g1, 0, none⟩) ((List.replicate cs.length (0 : Int)).length) ((List.replicate cs.length (0 : Int)).length)) ((q.n).toNat * 1) ∧ (pf 5) = [] := hR 5 (by decide)
       refine Or.inl ⟨rfl, ?_⟩
       refine rq_less (sx 60 (congrArg some e5.1) (sub_nil _)) (List.sublist_append_right _ _) ?_
       exact rq_v (rv_loadEl (u := .int .i64 (os.getD ((q.n).toNat) 0)) rfl (by kernel_rfl) rfl (rd_row 2 rfl) (ints_at1 (show _ < os.length by first | omega | (simp only [List.length_set]; omega))))
      ·
       intro vf pf hR
       have e1 : (vf 1) = .int .i64 q.d ∧ (pf 1) = [] := hR 1 (by decide)
       have e6 : (vf 6) = .int .i64 (os.getD ((q.n).toNat) 0) ∧ (pf 6) = [] := hR 6 (by decide)
       refine Or.inl ⟨rfl, ?_⟩
       refine rq_less (sx 56 (congrArg some e1.1) (sx 61 (congrArg some e6.1) (sub_nil _))) (List.sublist_append_right _ _) ?_
       exact rq_mono (rq_v (rv_cmp rfl rfl rfl rfl)) (fun _ _ h => ⟨h.1.trans (congrArg Value.bool hb17), h.2⟩)
     ·
      intro vf pf hR
      have e7 : (vf 7) = .bool false ∧ (pf 7) = [] := hR 7 (by decide)
      refine hl_less (l' := [boxE b13 #[.int .i64 q.d, .int .i64 q.n] 96, rowE 96 2 v2 qt.length (qt.flatMap quC), rowE 3 1 (.slice (some ⟨g1, 0, none⟩) ((List.replicate cs.length (0 : Int)).length) ((List.replicate cs.length (0 : Int)).length)) os.length (os.map (Value.int .i64))]) (sx 0 rfl (sx 1 rfl (sx 2 rfl (sx 6 rfl (sx 7 rfl (sx 9 rfl (sx 12 rfl (sx 22 rfl (sx 31 rfl (sx 49 rfl (sx 62 (congrArg some e7.1) (sub_nil _)))))))))))) (List.sublist_append_right _ _) ?_
      simp only [List.drop_succ_cons, List.drop_zero]
      refine hl_less (sx 0 rfl (sx 1 rfl (sx 2 rfl (sx 6 rfl (sx 7 rfl (sx 9 rfl (sx 12 rfl (sx 22 rfl (sx 31 rfl (sx 49 rfl (sx 62 rfl (sub_nil _)))))))))))) (.refl _) ?_
      refine hl_nil ?_
      refine hq_then ?_
      refine hc_false rfl ?_
      refine hc_skip ?_
      refine hq_then ?_
      refine hc_seq ?_
      refine hc_draw (by kernel_rfl) 10 [0, 1, 2, 3, 4, 5, 6, 7, 8, 9] (List.take 10 _) (List.drop 10 _) [[], [0], [1], [2], [], [4], [3, 5], [6], [7], []] [63, 64, 65, 66, 67, 68, 69, 70, 71, 72] (fun i_ vs_ v_ p_ => match i_ with | 0 => v_ = .pointer (some ⟨b, 0, none⟩) ∧ p_ = [] | 1 => v_ = .pointer (some ⟨b, 0, none⟩) ∧ p_ = [] | 2 => v_ = .pointer (some ⟨b, 0 + 1, none⟩) ∧ p_ = [] | 3 => v_ = g.kv ∧ p_ = [] | 4 => v_ = .pointer (some ⟨b13, 0 + 1, none⟩) ∧ p_ = [] | 5 => v_ = .int .i64 q.n ∧ p_ = [] | 6 => v_ = elP g.kv ((q.n).toNat * 1) ∧ p_ = [] | 7 => v_ = (g.ks.getD ((q.n).toNat) ir0).v ∧ p_ = [] | 8 => v_ = .int .i64 (((g.ks.getD ((q.n).toNat) ir0).xs).length : Int) ∧ p_ = [] | 9 => v_ = .int .i64 0 ∧ p_ = [] | _ => True) (List.take_append_drop 10 _).symm (by kernel_rfl) (by kernel_rfl) rfl rfl ?_ ?_
      ·
       refine ⟨?_, ?_, ?_, ?_, ?_, ?_, ?_, ?_, ?_, ?_, trivial⟩
       ·
        intro vf pf hR
        refine Or.inl ⟨rfl, ?_⟩
        refine rq_less (sx 0 rfl (sub_nil _)) (List.sublist_append_right _ _) ?_
        exact rq_v (rv_ev rfl)
       ·
        intro vf pf hR
        have e0 : (vf 0) = .pointer (some ⟨b, 0, none⟩) ∧ (pf 0) = [] := hR 0 (by decide)
        refine Or.inl ⟨rfl, ?_⟩
        refine rq_less (sx 63 (congrArg some e0.1) (sub_nil _)) (List.sublist_append_right _ _) ?_
        exact rq_v (rv_nilCheck rfl rfl)
       ·
        intro vf pf hR
        have e1 : (vf 1) = .pointer (some ⟨b, 0, none⟩) ∧ (pf 1) = [] := hR 1 (by decide)
        refine Or.inl ⟨rfl, ?_⟩
        refine rq_less (sx 64 (congrArg some e1.1) (sub_nil _)) (List.sublist_append_right _ _) ?_
        exact rq_v (rv_field (k0 := 1) rfl (by kernel_rfl) rfl)
       ·
        intro vf pf hR
        have e2 : (vf 2) = .pointer (some ⟨b, 0 + 1, none⟩) ∧ (pf 2) = [] := hR 2 (by decide)
        refine Or.inl ⟨rfl, ?_⟩
        refine rq_less (sx 65 (congrArg some e2.1) (sub_nil _)) (List.sublist_append_right _ _) ?_
        exact rq_v (rv_load rfl (by kernel_rfl) rfl (fun w hm => (hm.bel.cell (p := ⟨b, 0 + 1, none⟩) hg.lt).trans hg.c1))
       ·
        intro vf pf hR
        refine Or.inl ⟨rfl, ?_⟩
        refine rq_less (sx 12 rfl (sub_nil _)) (List.sublist_append_right _ _) ?_
        exact rq_v (rv_field (k0 := 1) rfl (by kernel_rfl) rfl)
       ·
        intro vf pf hR
        have e4 : (vf 4) = .pointer (some ⟨b13, 0 + 1, none⟩) ∧ (pf 4) = [] := hR 4 (by decide)
        refine Or.inl ⟨rfl, ?_⟩
        refine rq_less (sx 67 (congrArg some e4.1) (sub_nil _)) (List.sublist_append_right _ _) ?_
        exact rq_v (rv_load rfl (by kernel_rfl) rfl (box_cell 0 rfl rfl))
       ·
        intro vf pf hR
        have e3 : (vf 3) = g.kv ∧ (pf 3) = [] := hR 3 (by decide)
        have e5 : (vf 5) = .int .i64 q.n ∧ (pf 5) = [] := hR 5 (by decide)
        refine Or.inl ⟨rfl, ?_⟩
        refine rq_less (sx 66 (congrArg some e3.1) (sx 68 (congrArg some e5.1) (sub_nil _))) (List.sublist_append_right _ _) ?_
        exact rq_v (rv_index (s := 1) rfl Try.underlying99 (by kernel_rfl) rfl rfl (fun w hm => (hg.ks.below hm.bel).row) (by omega) (by first | omega | (simp only [List.length_set]; omega)))
       ·
        intro vf pf hR
        have e6 : (vf 6) = elP g.kv ((q.n).toNat * 1) ∧ (pf 6) = [] := hR 6 (by decide)
        refine Or.inl ⟨rfl, ?_⟩
        refine rq_less (sx 69 (congrArg some e6.1) (sub_nil _)) (List.sublist_append_right _ _) ?_
        exact rq_v (rv_loadEl (u := (g.ks.getD ((q.n).toNat) ir0).v) rfl (by kernel_rfl) rfl (fun w hm => (hg.ks.below hm.bel).row) (flat_one irC (fun r => r.v) (fun _ => rfl) g.ks ir0 (show (q.n).toNat < _ by first | omega | (simp only [List.length_set]; omega))))
       ·
        intro vf pf hR
        have e7 : (vf 7) = (g.ks.getD ((q.n).toNat) ir0).v ∧ (pf 7) = [] := hR 7 (by decide)
        refine Or.inl ⟨rfl, ?_⟩
        refine rq_less (sx 70 (congrArg some e7.1) (sub_nil _)) (List.sublist_append_right _ _) ?_
        exact rq_v (rv_len rfl Try.underlying26 rfl (fun w hm => (hg.ks.at (k := q.n.toNat) (by omega)).below hm.bel))
       ·
        intro vf pf hR
        refine Or.inl ⟨rfl, ?_⟩
        refine rq_less (sub_nil _) (List.sublist_append_right _ _) ?_
        exact rq_v (rv_ev rfl)
      ·
       intro vf pf hR
       have e7 : (vf 7) = (g.ks.getD ((q.n).toNat) ir0).v ∧ (pf 7) = [] := hR 7 (by decide)
       have e8 : (vf 8) = .int .i64 (((g.ks.getD ((q.n).toNat) ir0).xs).length : Int) ∧ (pf 8) = [] := hR 8 (by decide)
       have e9 : (vf 9) = .int .i64 0 ∧ (pf 9) = [] := hR 9 (by decide)
       refine hl_less (l' := [boxE b13 #[.int .i64 q.d, .int .i64 q.n] 96, rowE 96 2 v2 qt.length (qt.flatMap quC), rowE 3 1 (.slice (some ⟨g1, 0, none⟩) ((List.replicate cs.length (0 : Int)).length) ((List.replicate cs.length (0 : Int)).length)) os.length (os.map (Value.int .i64))]) (sx 0 rfl (sx 1 rfl (sx 2 rfl (sx 6 rfl (sx 7 rfl (sx 9 rfl (sx 12 rfl (sx 22 rfl (sx 31 rfl (sx 49 rfl (sx 62 rfl (sx 70 (congrArg some e7.1) (sx 71 (congrArg some e8.1) (sx 72 (congrArg some e9.1) (sub_nil _))))))))))))))) (List.sublist_append_right _ _) ?_
       simp only [List.drop_succ_cons, List.drop_zero]
       refine hl_less (sx 0 rfl (sx 1 rfl (sx 2 rfl (sx 6 rfl (sx 7 rfl (sx 9 rfl (sx 12 rfl (sx 22 rfl (sx 31 rfl (sx 49 rfl (sx 62 rfl (sx 70 rfl (sx 71 rfl (sx 72 rfl (sub_nil _))))))))))))))) (.refl _) ?_
       refine hl_nil ?_
       refine hq_then ?_
       refine hc_block ?_
       refine hc_loop4 (α := Nat) (β := Value) (γ := List Qu) (δ := List Int) (fun j u2 td2 os2 => [boxE b13 #[.int .i64 q.d, .int .i64 q.n] 96, rowE 96 2 u2 td2.length (td2.flatMap quC), rowE 3 1 (.slice (some ⟨g1, 0, none⟩) ((List.replicate cs.length (0 : Int)).length) ((List.replicate cs.length (0 : Int)).length)) os2.length (os2.map (Value.int .i64))]) (fun j u2 td2 os2 => [(0, .pointer (some ⟨b, 0, none⟩)), (1, cv), (2, sv), (6, .slice none 0 0), (7, .slice (some ⟨g1, 0, none⟩) ((List.replicate cs.length (0 : Int)).length) ((List.replicate cs.length (0 : Int)).length)), (9, u2), (12, .pointer (some ⟨b13, 0, none⟩)), (22, .bool false), (31, .bool false), (49, .bool true), (62, .bool false), (70, (g.ks.getD ((q.n).toNat) ir0).v), (71, .int .i64 (((g.ks.getD ((q.n).toNat) ir0).xs).length : Int)), (72, .int .i64 (j : Int))]) (fun j u2 td2 os2 => j ≤ (g.ks.getD ((q.n).toNat) ir0).xs.length ∧ gI os2 q.n = q.d ∧ DI cs.length SS cs st st (upTo (kOf g.ks) q.n j) os2 td2 (M - 1)) (fun j u2 td2 os2 => (g.ks.getD ((q.n).toNat) ir0).xs.length - j) 0 v2 qt os ⟨by omega, by unfold gI; omega, hdq.first⟩ (sx 0 rfl (sx 1 rfl (sx 2 rfl (sx 6 rfl (sx 7 rfl (sx 9 rfl (sx 12 rfl (sx 22 rfl (sx 31 rfl (sx 49 rfl (sx 62 rfl (sx 70 rfl (sx 71 rfl (sx 72 rfl (sub_nil _))))))))))))))) ((.cons_cons _ (.cons_cons _ (.cons_cons _ .slnil)))) ?_
       intro j u2 td2 os2 hi18
       obtain ⟨hj, hqd, hdn⟩ := hi18
       have hol2 := hdn.len
       have hmea2 := hdn.mea
       refine hc_seq ?_
       refine hc_region ?_
       refine hl_lss rfl rfl rfl rfl rfl rfl (fun h19 => ?_) (fun h19 => ?_)
       ·
        refine hl_less (sx 0 rfl (sx 1 rfl (sx 2 rfl (sx 6 rfl (sx 7 rfl (sx 9 rfl (sx 12 rfl (sx 22 rfl (sx 31 rfl (sx 49 rfl (sx 62 rfl (sx 70 rfl (sx 71 rfl (sx 72 rfl (sx 73 rfl (sub_nil _)))))))))))))))) (.refl _) ?_
        refine hl_nil ?_
        refine hq_then ?_
        refine hc_seq ?_
        refine hc_true rfl ?_
        refine hc_skip ?_
        refine hq_then ?_
        refine hc_seq ?_
        refine hc_block ?_
        refine hc_seq ?_
        refine hc_region ?_
        refine hl_v rfl rfl rfl (rv_index (s := 1) rfl Try.underlying26 (by kernel_rfl) rfl rfl (fun w hm => (hg.ks.at (k := q.n.toNat) (by omega)).below hm.bel) (by omega) (by first | omega | (simp only [List.length_set]; omega))) ?_
        refine hl_v rfl rfl rfl (rv_loadEl (u := .int .i64 (((g.ks.getD ((q.n).toNat) ir0).xs).getD j 0)) rfl (by kernel_rfl) rfl (fun w hm => (hg.ks.at (k := q.n.toNat) (by omega)).below hm.bel) (ints_at1 (show _ < ((g.ks.getD ((q.n).toNat) ir0).xs).length by first | omega | (simp only [List.length_set]; omega)))) ?_
        refine hl_v rfl rfl rfl (rv_ev rfl) ?_
        refine hl_less (sx 0 rfl (sx 1 rfl (sx 2 rfl (sx 6 rfl (sx 7 rfl (sx 9 rfl (sx 12 rfl (sx 14 rfl (sx 22 rfl (sx 31 rfl (sx 49 rfl (sx 62 rfl (sx 70 rfl (sx 71 rfl (sx 72 rfl (sx 73 rfl (sub_nil _))))))))))))))))) (.refl _) ?_
        refine hl_nil ?_
        refine hq_then ?_
        refine hc_seq ?_
        obtain ⟨⟨hn0, hn1⟩, hns⟩ := (hN.kr q.n ht0.1 ht0.2 (((g.ks.getD ((q.n).toNat) ir0).xs).getD j 0)).1 (getD_memZ (by show j < (g.ks.getD ((q.n).toNat) ir0).xs.length; omega))
        have hcx := hN.cr (((g.ks.getD ((q.n).toNat) ir0).xs).getD j 0) hn0 hn1
        have hcx1 : 1 ≤ cs.getD (((g.ks.getD ((q.n).toNat) ir0).xs).getD j 0).toNat 0 ∧ cs.getD (((g.ks.getD ((q.n).toNat) ir0).xs).getD j 0).toNat 0 ≤ 100000 := hcx
        have hox : gI os2 (((g.ks.getD ((q.n).toNat) ir0).xs).getD j 0) = -1 ∨ 0 ≤ gI os2 (((g.ks.getD ((q.n).toNat) ir0).xs).getD j 0) := (hdn.rng (((g.ks.getD ((q.n).toNat) ir0).xs).getD j 0) hn0 hn1).imp (fun h => h) (fun h => h.1)
        have hox1 : os2.getD (((g.ks.getD ((q.n).toNat) ir0).xs).getD j 0).toNat 0 = -1 ∨ 0 ≤ os2.getD (((g.ks.getD ((q.n).toNat) ir0).xs).getD j 0).toNat 0 := hox
        refine hc_draw (by kernel_rfl) 7 [0, 1, 2, 3, 4, 5, 6] (List.take 7 _) (List.drop 7 _) [[], [0], [], [], [2, 3], [4], [1, 5]] [76, 77, 78, 79, 80, 81, 82] (fun i_ vs_ v_ p_ => match i_ with | 0 => v_ = .pointer (some ⟨b13, 0 + 0, none⟩) ∧ p_ = [] | 1 => v_ = .int .i64 q.d ∧ p_ = [] | 2 => v_ = cv ∧ p_ = [] | 3 => v_ = .int .i64 (((g.ks.getD ((q.n).toNat) ir0).xs).getD j 0) ∧ p_ = [] | 4 => v_ = elP cv ((((g.ks.getD ((q.n).toNat) ir0).xs).getD j 0).toNat * 1) ∧ p_ = [] | 5 => v_ = .int .i64 (cs.getD ((((g.ks.getD ((q.n).toNat) ir0).xs).getD j 0).toNat) 0) ∧ p_ = [] | 6 => v_ = .int .i64 (q.d + (cs.getD ((((g.ks.getD ((q.n).toNat) ir0).xs).getD j 0).toNat) 0)) ∧ p_ = [] | _ => True) (List.take_append_drop 7 _).symm (by kernel_rfl) (by kernel_rfl) rfl rfl ?_ ?_
        ·
         refine ⟨?_, ?_, ?_, ?_, ?_, ?_, ?_, trivial⟩
         ·
          intro vf pf hR
          refine Or.inl ⟨rfl, ?_⟩
          refine rq_less (sx 12 rfl (sub_nil _)) (List.sublist_append_right _ _) ?_
          exact rq_v (rv_field (k0 := 0) rfl (by kernel_rfl) rfl)
         ·
          intro vf pf hR
          have e0 : (vf 0) = .pointer (some ⟨b13, 0 + 0, none⟩) ∧ (pf 0) = [] := hR 0 (by decide)
          refine Or.inl ⟨rfl, ?_⟩
          refine rq_less (sx 76 (congrArg some e0.1) (sub_nil _)) (List.sublist_append_right _ _) ?_
          exact rq_v (rv_load rfl (by kernel_rfl) rfl (box_cell 0 rfl rfl))
         ·
          intro vf pf hR
          refine Or.inl ⟨rfl, ?_⟩
          refine rq_less (sx 1 rfl (sub_nil _)) (List.sublist_append_right _ _) ?_
          exact rq_v (rv_ev rfl)
         ·
          intro vf pf hR
          refine Or.inl ⟨rfl, ?_⟩
          refine rq_less (sx 14 rfl (sub_nil _)) (List.sublist_append_right _ _) ?_
          exact rq_v (rv_ev rfl)
         ·
          intro vf pf hR
          have e2 : (vf 2) = cv ∧ (pf 2) = [] := hR 2 (by decide)
          have e3 : (vf 3) = .int .i64 (((g.ks.getD ((q.n).toNat) ir0).xs).getD j 0) ∧ (pf 3) = [] := hR 3 (by decide)
          refine Or.inl ⟨rfl, ?_⟩
          refine rq_less (sx 78 (congrArg some e2.1) (sx 79 (congrArg some e3.1) (sub_nil _))) (List.sublist_append_right _ _) ?_
          exact rq_v (rv_index (s := 1) rfl Try.underlying26 (by kernel_rfl) rfl rfl (rd_old hcv) (by omega) (by first | omega | (simp only [List.length_set]; omega)))
         ·
          intro vf pf hR
          have e4 : (vf 4) = elP cv ((((g.ks.getD ((q.n).toNat) ir0).xs).getD j 0).toNat * 1) ∧ (pf 4) = [] := hR 4 (by decide)
          refine Or.inl ⟨rfl, ?_⟩
          refine rq_less (sx 80 (congrArg some e4.1) (sub_nil _)) (List.sublist_append_right _ _) ?_
          exact rq_v (rv_loadEl (u := .int .i64 (cs.getD ((((g.ks.getD ((q.n).toNat) ir0).xs).getD j 0).toNat) 0)) rfl (by kernel_rfl) rfl (rd_old hcv) (ints_at1 (show _ < cs.length by first | omega | (simp only [List.length_set]; omega))))
         ·
          intro vf pf hR
          have e1 : (vf 1) = .int .i64 q.d ∧ (pf 1) = [] := hR 1 (by decide)
          have e5 : (vf 5) = .int .i64 (cs.getD ((((g.ks.getD ((q.n).toNat) ir0).xs).getD j 0).toNat) 0) ∧ (pf 5) = [] := hR 5 (by decide)
          refine Or.inl ⟨rfl, ?_⟩
          refine rq_less (sx 77 (congrArg some e1.1) (sx 81 (congrArg some e5.1) (sub_nil _))) (List.sublist_append_right _ _) ?_
          exact rq_v (rv_add rfl rfl rfl (by constructor <;> omega))
        ·
         intro vf pf hR
         have e6 : (vf 6) = .int .i64 (q.d + (cs.getD ((((g.ks.getD ((q.n).toNat) ir0).xs).getD j 0).toNat) 0)) ∧ (pf 6) = [] := hR 6 (by decide)
         refine hl_less (l' := [boxE b13 #[.int .i64 q.d, .int .i64 q.n] 96, rowE 96 2 u2 td2.length (td2.flatMap quC), rowE 3 1 (.slice (some ⟨g1, 0, none⟩) ((List.replicate cs.length (0 : Int)).length) ((List.replicate cs.length (0 : Int)).length)) os2.length (os2.map (Value.int .i64))]) (sx 0 rfl (sx 1 rfl (sx 2 rfl (sx 6 rfl (sx 7 rfl (sx 9 rfl (sx 12 rfl (sx 14 rfl (sx 22 rfl (sx 31 rfl (sx 49 rfl (sx 62 rfl (sx 70 rfl (sx 71 rfl (sx 72 rfl (sx 73 rfl (sx 82 (congrArg some e6.1) (sub_nil _)))))))))))))))))) (List.sublist_append_right _ _) ?_
         simp only [List.drop_succ_cons, List.drop_zero]
         refine hl_v rfl rfl rfl (rv_ev rfl) ?_
         refine hl_less (sx 0 rfl (sx 1 rfl (sx 2 rfl (sx 6 rfl (sx 7 rfl (sx 9 rfl (sx 12 rfl (sx 14 rfl (sx 15 rfl (sx 22 rfl (sx 31 rfl (sx 49 rfl (sx 62 rfl (sx 70 rfl (sx 71 rfl (sx 72 rfl (sx 73 rfl (sub_nil _)))))))))))))))))) (.refl _) ?_
         refine hl_nil ?_
         refine hq_then ?_
         refine hc_seq ?_
         refine hc_region ?_
         refine hl_v rfl rfl rfl (rv_ev rfl) ?_
         refine hl_v rfl rfl rfl (rv_ev rfl) ?_
         refine hl_v rfl rfl rfl (rv_index (s := 1) rfl Try.underlying26 (by kernel_rfl) rfl rfl (rd_row 2 rfl) (by omega) (by first | omega | (simp only [List.length_set]; omega))) ?_
         refine hl_v rfl rfl rfl (rv_loadEl (u := .int .i64 (os2.getD ((((g.ks.getD ((q.n).toNat) ir0).xs).getD j 0).toNat) 0)) rfl (by kernel_rfl) rfl (rd_row 2 rfl) (ints_at1 (show _ < os2.length by first | omega | (simp only [List.length_set]; omega)))) ?_
         refine hl_eql rfl rfl rfl rfl rfl rfl (fun h20 => ?_) (fun h20 => ?_)
         ·
          refine hl_v rfl rfl rfl (rv_ev rfl) ?_
          refine hl_skip rfl rfl rfl ?_
          refine hl_skip rfl rfl rfl ?_
          refine hl_skip rfl rfl rfl ?_
          refine hl_skip rfl rfl rfl ?_
          refine hl_skip rfl rfl rfl ?_
          refine hl_skip rfl rfl rfl ?_
          refine hl_v rfl rfl rfl (rv_ev rfl) ?_
          refine hl_less (sx 0 rfl (sx 1 rfl (sx 2 rfl (sx 6 rfl (sx 7 rfl (sx 9 rfl (sx 12 rfl (sx 14 rfl (sx 15 rfl (sx 22 rfl (sx 31 rfl (sx 49 rfl (sx 62 rfl (sx 70 rfl (sx 71 rfl (sx 72 rfl (sx 73 rfl (sx 95 rfl (sub_nil _))))))))))))))))))) (.refl _) ?_
          refine hl_nil ?_
          refine hq_then ?_
          refine hc_true rfl ?_
          refine hc_seq ?_
          refine hc_region ?_
          refine hl_v rfl rfl rfl (rv_ev rfl) ?_
          refine hl_v rfl rfl rfl (rv_ev rfl) ?_
          refine hl_v rfl rfl rfl (rv_ev rfl) ?_
          refine hl_v rfl rfl rfl (rv_index (s := 1) rfl Try.underlying26 (by kernel_rfl) rfl rfl (rd_row 2 rfl) (by omega) (by first | omega | (simp only [List.length_set]; omega))) ?_
          refine hl_storeEl (i := 2) (n' := (os2.set ((((g.ks.getD ((q.n).toNat) ir0).xs).getD j 0).toNat) (q.d + (cs.getD ((((g.ks.getD ((q.n).toNat) ir0).xs).getD j 0).toNat) 0))).length) (xs' := ((os2.set ((((g.ks.getD ((q.n).toNat) ir0).xs).getD j 0).toNat) (q.d + (cs.getD ((((g.ks.getD ((q.n).toNat) ir0).xs).getD j 0).toNat) 0))).map (Value.int .i64))) (l' := [boxE b13 #[.int .i64 q.d, .int .i64 q.n] 96, rowE 96 2 u2 td2.length (td2.flatMap quC), rowE 3 1 (.slice (some ⟨g1, 0, none⟩) ((List.replicate cs.length (0 : Int)).length) ((List.replicate cs.length (0 : Int)).length)) ((os2.set ((((g.ks.getD ((q.n).toNat) ir0).xs).getD j 0).toNat) (q.d + (cs.getD ((((g.ks.getD ((q.n).toNat) ir0).xs).getD j 0).toNat) 0))).length) ((os2.set ((((g.ks.getD ((q.n).toNat) ir0).xs).getD j 0).toNat) (q.d + (cs.getD ((((g.ks.getD ((q.n).toNat) ir0).xs).getD j 0).toNat) 0))).map (Value.int .i64))]) rfl rfl rfl (by kernel_rfl) rfl rfl rfl rfl (by first | omega | (simp only [List.length_set]; omega)) List.length_set.symm (ints_set _ _ _) rfl ?_
          refine hl_less (sx 0 rfl (sx 1 rfl (sx 2 rfl (sx 6 rfl (sx 7 rfl (sx 9 rfl (sx 12 rfl (sx 14 rfl (sx 15 rfl (sx 22 rfl (sx 31 rfl (sx 49 rfl (sx 62 rfl (sx 70 rfl (sx 71 rfl (sx 72 rfl (sx 73 rfl (sx 95 rfl (sub_nil _))))))))))))))))))) (.refl _) ?_
          refine hl_nil ?_
          refine hq_then ?_
          refine hc_region ?_
          refine hl_v rfl rfl rfl (rv_ev rfl) ?_
          refine hl_v rfl rfl rfl (rv_ev rfl) ?_
          refine hl_v rfl rfl rfl (rv_ev rfl) ?_
          refine hl_v rfl rfl rfl (rv_build (cs := #[.int .i64 (q.d + (cs.getD ((((g.ks.getD ((q.n).toNat) ir0).xs).getD j 0).toNat) 0)), .int .i64 (((g.ks.getD ((q.n).toNat) ir0).xs).getD j 0)]) rfl rfl (by kernel_rfl)) ?_
          refine hl_callM (R := (fun v_ p_ => ∃ es' : List Qu, p_ = rowE 96 2 v_ (es').length ((es').flatMap quC) ∧ es'.Perm (td2 ++ [(Qu.mk (q.d + (cs.getD ((((g.ks.getD ((q.n).toNat) ir0).xs).getD j 0).toNat) 0)) (((g.ks.getD ((q.n).toNat) ir0).xs).getD j 0))]))) 1 rfl rfl (by kernel_rfl) rfl rfl (fun l' w hm => pushQueue_mut td2 _ (Qu.mk (q.d + (cs.getD ((((g.ks.getD ((q.n).toNat) ir0).xs).getD j 0).toNat) 0)) (((g.ks.getD ((q.n).toNat) ir0).xs).getD j 0)) _ _ _ hm (by omega)) ?_
          intro v21 p22 hR23
          obtain ⟨qshR23, rfl, hpp⟩ := hR23
          refine hl_eqL (l' := [boxE b13 #[.int .i64 q.d, .int .i64 q.n] 96, rowE 96 2 v21 qshR23.length (qshR23.flatMap quC), rowE 3 1 (.slice (some ⟨g1, 0, none⟩) ((List.replicate cs.length (0 : Int)).length) ((List.replicate cs.length (0 : Int)).length)) ((os2.set ((((g.ks.getD ((q.n).toNat) ir0).xs).getD j 0).toNat) (q.d + (cs.getD ((((g.ks.getD ((q.n).toNat) ir0).xs).getD j 0).toNat) 0))).length) ((os2.set ((((g.ks.getD ((q.n).toNat) ir0).xs).getD j 0).toNat) (q.d + (cs.getD ((((g.ks.getD ((q.n).toNat) ir0).xs).getD j 0).toNat) 0))).map (Value.int .i64))]) rfl ?_
          refine hl_v rfl rfl rfl (rv_ev rfl) ?_
          refine hl_less (sx 0 rfl (sx 1 rfl (sx 2 rfl (sx 6 rfl (sx 7 rfl (sx 9 rfl (sx 12 rfl (sx 14 rfl (sx 15 rfl (sx 22 rfl (sx 31 rfl (sx 49 rfl (sx 62 rfl (sx 70 rfl (sx 71 rfl (sx 72 rfl (sx 73 rfl (sx 95 rfl (sub_nil _))))))))))))))))))) (.refl _) ?_
          refine hl_nil ?_
          refine hq_block_normal ?_
          refine hq_then ?_
          refine hc_region ?_
          refine hl_v rfl rfl rfl (rv_add rfl rfl rfl (by constructor <;> omega)) ?_
          refine hl_v rfl rfl rfl (rv_ev rfl) ?_
          refine hl_less (sx 0 rfl (sx 1 rfl (sx 2 rfl (sx 6 rfl (sx 7 rfl (sx 9 rfl (sx 12 rfl (sx 14 rfl (sx 15 rfl (sx 22 rfl (sx 31 rfl (sx 49 rfl (sx 62 rfl (sx 70 rfl (sx 71 rfl (sx 72 rfl (sx 73 rfl (sx 95 rfl (sub_nil _))))))))))))))))))) (.refl _) ?_
          refine hl_nil ?_
          obtain ⟨hd8, hd9⟩ := hdn.lower hN ht0.1 ht0.2 (by omega) (by show j < (g.ks.getD ((q.n).toNat) ir0).xs.length; omega) (n := (((g.ks.getD ((q.n).toNat) ir0).xs).getD j 0)) rfl (c := q.d + cs.getD (((g.ks.getD ((q.n).toNat) ir0).xs).getD j 0).toNat 0) (by rw [hqd]) (by unfold gI; omega) hpp
          exact hq_round4 (j + 1) v21 qshR23 (os2.set ((((g.ks.getD ((q.n).toNat) ir0).xs).getD j 0).toNat) (q.d + (cs.getD ((((g.ks.getD ((q.n).toNat) ir0).xs).getD j 0).toNat) 0))) ⟨by omega, by rw [hd9]; exact hqd, hd8⟩ (by omega) (sx 0 rfl (sx 1 rfl (sx 2 rfl (sx 6 rfl (sx 7 rfl (sx 9 rfl (sx 12 rfl (sx 22 rfl (sx 31 rfl (sx 49 rfl (sx 62 rfl (sx 70 rfl (sx 71 rfl (sx 72 rfl (sub_nil _))))))))))))))) ((.cons_cons _ (.cons_cons _ (.cons_cons _ .slnil))))
         ·
          refine hl_v rfl rfl rfl (rv_ev rfl) ?_
          refine hl_v rfl rfl rfl (rv_ev rfl) ?_
          refine hl_v rfl rfl rfl (rv_ev rfl) ?_
          refine hl_v rfl rfl rfl (rv_ev rfl) ?_
          refine hl_v rfl rfl rfl (rv_index (s := 1) rfl Try.underlying26 (by kernel_rfl) rfl rfl (rd_row 2 rfl) (by omega) (by first | omega | (simp only [List.length_set]; omega))) ?_
          refine hl_v rfl rfl rfl (rv_loadEl (u := .int .i64 (os2.getD ((((g.ks.getD ((q.n).toNat) ir0).xs).getD j 0).toNat) 0)) rfl (by kernel_rfl) rfl (rd_row 2 rfl) (ints_at1 (show _ < os2.length by first | omega | (simp only [List.length_set]; omega)))) ?_
          refine hl_lss rfl rfl rfl rfl rfl rfl (fun h24 => ?_) (fun h24 => ?_)
          ·
           refine hl_v rfl rfl rfl (rv_ev rfl) ?_
           refine hl_less (sx 0 rfl (sx 1 rfl (sx 2 rfl (sx 6 rfl (sx 7 rfl (sx 9 rfl (sx 12 rfl (sx 14 rfl (sx 15 rfl (sx 22 rfl (sx 31 rfl (sx 49 rfl (sx 62 rfl (sx 70 rfl (sx 71 rfl (sx 72 rfl (sx 73 rfl (sx 95 rfl (sub_nil _))))))))))))))))))) (.refl _) ?_
           refine hl_nil ?_
           refine hq_then ?_
           refine hc_true rfl ?_
           refine hc_seq ?_
           refine hc_region ?_
           refine hl_v rfl rfl rfl (rv_ev rfl) ?_
           refine hl_v rfl rfl rfl (rv_ev rfl) ?_
           refine hl_v rfl rfl rfl (rv_ev rfl) ?_
           refine hl_v rfl rfl rfl (rv_index (s := 1) rfl Try.underlying26 (by kernel_rfl) rfl rfl (rd_row 2 rfl) (by omega) (by first | omega | (simp only [List.length_set]; omega))) ?_
           refine hl_storeEl (i := 2) (n' := (os2.set ((((g.ks.getD ((q.n).toNat) ir0).xs).getD j 0).toNat) (q.d + (cs.getD ((((g.ks.getD ((q.n).toNat) ir0).xs).getD j 0).toNat) 0))).length) (xs' := ((os2.set ((((g.ks.getD ((q.n).toNat) ir0).xs).getD j 0).toNat) (q.d + (cs.getD ((((g.ks.getD ((q.n).toNat) ir0).xs).getD j 0).toNat) 0))).map (Value.int .i64))) (l' := [boxE b13 #[.int .i64 q.d, .int .i64 q.n] 96, rowE 96 2 u2 td2.length (td2.flatMap quC), rowE 3 1 (.slice (some ⟨g1, 0, none⟩) ((List.replicate cs.length (0 : Int)).length) ((List.replicate cs.length (0 : Int)).length)) ((os2.set ((((g.ks.getD ((q.n).toNat) ir0).xs).getD j 0).toNat) (q.d + (cs.getD ((((g.ks.getD ((q.n).toNat) ir0).xs).getD j 0).toNat) 0))).length) ((os2.set ((((g.ks.getD ((q.n).toNat) ir0).xs).getD j 0).toNat) (q.d + (cs.getD ((((g.ks.getD ((q.n).toNat) ir0).xs).getD j 0).toNat) 0))).map (Value.int .i64))]) rfl rfl rfl (by kernel_rfl) rfl rfl rfl rfl (by first | omega | (simp only [List.length_set]; omega)) List.length_set.symm (ints_set _ _ _) rfl ?_
           refine hl_less (sx 0 rfl (sx 1 rfl (sx 2 rfl (sx 6 rfl (sx 7 rfl (sx 9 rfl (sx 12 rfl (sx 14 rfl (sx 15 rfl (sx 22 rfl (sx 31 rfl (sx 49 rfl (sx 62 rfl (sx 70 rfl (sx 71 rfl (sx 72 rfl (sx 73 rfl (sx 95 rfl (sub_nil _))))))))))))))))))) (.refl _) ?_
           refine hl_nil ?_
           refine hq_then ?_
           refine hc_region ?_
           refine hl_v rfl rfl rfl (rv_ev rfl) ?_
           refine hl_v rfl rfl rfl (rv_ev rfl) ?_
           refine hl_v rfl rfl rfl (rv_ev rfl) ?_
           refine hl_v rfl rfl rfl (rv_build (cs := #[.int .i64 (q.d + (cs.getD ((((g.ks.getD ((q.n).toNat) ir0).xs).getD j 0).toNat) 0)), .int .i64 (((g.ks.getD ((q.n).toNat) ir0).xs).getD j 0)]) rfl rfl (by kernel_rfl)) ?_
           refine hl_callM (R := (fun v_ p_ => ∃ es' : List Qu, p_ = rowE 96 2 v_ (es').length ((es').flatMap quC) ∧ es'.Perm (td2 ++ [(Qu.mk (q.d + (cs.getD ((((g.ks.getD ((q.n).toNat) ir0).xs).getD j 0).toNat) 0)) (((g.ks.getD ((q.n).toNat) ir0).xs).getD j 0))]))) 1 rfl rfl (by kernel_rfl) rfl rfl (fun l' w hm => pushQueue_mut td2 _ (Qu.mk (q.d + (cs.getD ((((g.ks.getD ((q.n).toNat) ir0).xs).getD j 0).toNat) 0)) (((g.ks.getD ((q.n).toNat) ir0).xs).getD j 0)) _ _ _ hm (by omega)) ?_
           intro v25 p26 hR27
           obtain ⟨qshR27, rfl, hpp⟩ := hR27
           refine hl_eqL (l' := [boxE b13 #[.int .i64 q.d, .int .i64 q.n] 96, rowE 96 2 v25 qshR27.length (qshR27.flatMap quC), rowE 3 1 (.slice (some ⟨g1, 0, none⟩) ((List.replicate cs.length (0 : Int)).length) ((List.replicate cs.length (0 : Int)).length)) ((os2.set ((((g.ks.getD ((q.n).toNat) ir0).xs).getD j 0).toNat) (q.d + (cs.getD ((((g.ks.getD ((q.n).toNat) ir0).xs).getD j 0).toNat) 0))).length) ((os2.set ((((g.ks.getD ((q.n).toNat) ir0).xs).getD j 0).toNat) (q.d + (cs.getD ((((g.ks.getD ((q.n).toNat) ir0).xs).getD j 0).toNat) 0))).map (Value.int .i64))]) rfl ?_
           refine hl_v rfl rfl rfl (rv_ev rfl) ?_
           refine hl_less (sx 0 rfl (sx 1 rfl (sx 2 rfl (sx 6 rfl (sx 7 rfl (sx 9 rfl (sx 12 rfl (sx 14 rfl (sx 15 rfl (sx 22 rfl (sx 31 rfl (sx 49 rfl (sx 62 rfl (sx 70 rfl (sx 71 rfl (sx 72 rfl (sx 73 rfl (sx 95 rfl (sub_nil _))))))))))))))))))) (.refl _) ?_
           refine hl_nil ?_
           refine hq_block_normal ?_
           refine hq_then ?_
           refine hc_region ?_
           refine hl_v rfl rfl rfl (rv_add rfl rfl rfl (by constructor <;> omega)) ?_
           refine hl_v rfl rfl rfl (rv_ev rfl) ?_
           refine hl_less (sx 0 rfl (sx 1 rfl (sx 2 rfl (sx 6 rfl (sx 7 rfl (sx 9 rfl (sx 12 rfl (sx 14 rfl (sx 15 rfl (sx 22 rfl (sx 31 rfl (sx 49 rfl (sx 62 rfl (sx 70 rfl (sx 71 rfl (sx 72 rfl (sx 73 rfl (sx 95 rfl (sub_nil _))))))))))))))))))) (.refl _) ?_
           refine hl_nil ?_
           obtain ⟨hd8, hd9⟩ := hdn.lower hN ht0.1 ht0.2 (by omega) (by show j < (g.ks.getD ((q.n).toNat) ir0).xs.length; omega) (n := (((g.ks.getD ((q.n).toNat) ir0).xs).getD j 0)) rfl (c := q.d + cs.getD (((g.ks.getD ((q.n).toNat) ir0).xs).getD j 0).toNat 0) (by rw [hqd]) (by unfold gI; omega) hpp
           exact hq_round4 (j + 1) v25 qshR27 (os2.set ((((g.ks.getD ((q.n).toNat) ir0).xs).getD j 0).toNat) (q.d + (cs.getD ((((g.ks.getD ((q.n).toNat) ir0).xs).getD j 0).toNat) 0))) ⟨by omega, by rw [hd9]; exact hqd, hd8⟩ (by omega) (sx 0 rfl (sx 1 rfl (sx 2 rfl (sx 6 rfl (sx 7 rfl (sx 9 rfl (sx 12 rfl (sx 22 rfl (sx 31 rfl (sx 49 rfl (sx 62 rfl (sx 70 rfl (sx 71 rfl (sx 72 rfl (sub_nil _))))))))))))))) ((.cons_cons _ (.cons_cons _ (.cons_cons _ .slnil))))
          ·
           refine hl_v rfl rfl rfl (rv_ev rfl) ?_
           refine hl_less (sx 0 rfl (sx 1 rfl (sx 2 rfl (sx 6 rfl (sx 7 rfl (sx 9 rfl (sx 12 rfl (sx 14 rfl (sx 15 rfl (sx 22 rfl (sx 31 rfl (sx 49 rfl (sx 62 rfl (sx 70 rfl (sx 71 rfl (sx 72 rfl (sx 73 rfl (sx 95 rfl (sub_nil _))))))))))))))))))) (.refl _) ?_
           refine hl_nil ?_
           refine hq_then ?_
           refine hc_false rfl ?_
           refine hc_skip ?_
           refine hq_block_normal ?_
           refine hq_then ?_
           refine hc_region ?_
           refine hl_v rfl rfl rfl (rv_add rfl rfl rfl (by constructor <;> omega)) ?_
           refine hl_v rfl rfl rfl (rv_ev rfl) ?_
           refine hl_less (sx 0 rfl (sx 1 rfl (sx 2 rfl (sx 6 rfl (sx 7 rfl (sx 9 rfl (sx 12 rfl (sx 14 rfl (sx 15 rfl (sx 22 rfl (sx 31 rfl (sx 49 rfl (sx 62 rfl (sx 70 rfl (sx 71 rfl (sx 72 rfl (sx 73 rfl (sx 95 rfl (sub_nil _))))))))))))))))))) (.refl _) ?_
           refine hl_nil ?_
           exact hq_round4 (j + 1) u2 td2 os2 ⟨by omega, hqd, hdn.higher hN ht0.1 ht0.2 (by show j < (g.ks.getD ((q.n).toNat) ir0).xs.length; omega) (n := (((g.ks.getD ((q.n).toNat) ir0).xs).getD j 0)) rfl (by rw [hqd]; unfold gI; omega)⟩ (by omega) (sx 0 rfl (sx 1 rfl (sx 2 rfl (sx 6 rfl (sx 7 rfl (sx 9 rfl (sx 12 rfl (sx 22 rfl (sx 31 rfl (sx 49 rfl (sx 62 rfl (sx 70 rfl (sx 71 rfl (sx 72 rfl (sub_nil _))))))))))))))) ((.cons_cons _ (.cons_cons _ (.cons_cons _ .slnil))))
       ·
        refine hl_less (sx 0 rfl (sx 1 rfl (sx 2 rfl (sx 6 rfl (sx 7 rfl (sx 9 rfl (sx 12 rfl (sx 22 rfl (sx 31 rfl (sx 49 rfl (sx 62 rfl (sx 70 rfl (sx 71 rfl (sx 72 rfl (sx 73 rfl (sub_nil _)))))))))))))))) (.refl _) ?_
        refine hl_nil ?_
        refine hq_then ?_
        refine hc_seq ?_
        refine hc_false rfl ?_
        refine hc_exit ?_
        refine hq_then_exit ?_
        refine hq_then_exit ?_
        refine hq_block_exit ?_
        refine hq_block_normal ?_
        exact hq_round4 (M - 1) u2 td2 os2 ⟨by omega, hdn.last (by show (g.ks.getD ((q.n).toNat) ir0).xs.length ≤ j; omega)⟩ (by omega) (sx 0 rfl (sx 1 rfl (sx 2 rfl (sx 6 rfl (sx 7 rfl (sx 9 rfl (sx 22 rfl (sx 31 rfl (sub_nil _))))))))) ((.cons _ (.cons_cons _ (.cons_cons _ .slnil))))
   ·
    refine hl_less (sx 0 rfl (sx 1 rfl (sx 2 rfl (sx 6 rfl (sx 7 rfl (sx 9 rfl (sx 22 rfl (sx 31 rfl (sx 49 rfl (sub_nil _)))))))))) (.refl _) ?_
    refine hl_nil ?_
    refine hq_then ?_
    refine hc_false rfl ?_
    refine hc_exit ?_
    refine hq_then_exit ?_
    refine hq_then_exit ?_
    refine hq_block_exit ?_
    refine hq_then ?_
    refine hc_seq ?_
    refine hc_region ?_
    refine hl_v rfl rfl rfl (rv_ev rfl) ?_
    refine hl_v rfl rfl rfl (rv_ev rfl) ?_
    refine hl_less (sx 0 rfl (sx 1 rfl (sx 2 rfl (sx 6 rfl (sx 7 rfl (sx 9 rfl (sx 22 rfl (sx 31 rfl (sx 49 rfl (sub_nil _)))))))))) (.refl _) ?_
    refine hl_nil ?_
    refine hq_then ?_
    refine hc_ret ?_
    have htd : td = [] := List.eq_nil_of_length_eq_zero (by omega)
    subst htd
    exact hq_retR (post := [rowE 3 1 (.slice (some ⟨g1, 0, none⟩) ((List.replicate cs.length (0 : Int)).length) ((List.replicate cs.length (0 : Int)).length)) os.length (os.map (Value.int .i64))]) rfl rfl ((.cons _ (.cons_cons _ .slnil))) ⟨os, rfl, hdi.done hN⟩
set_option maxHeartbeats 4000000 in
set_option maxRecDepth 100000 in
theorem CostsOk_yes (d : Dev) (cs : List Int) (cv : Value) (w : World) (hd : devB d = true) (hcv : RdsW w cv 1 cs.length (cs.map (Value.int .i64))) (hcl : (cs.length : Int) = allI d) (hcr : ∀ k, k < cs.length → 1 ≤ cs.getD k 0 ∧ cs.getD k 0 ≤ 100000) :
  Calls Try.prog 29 #[.agg #[.int .i64 d.W, .int .i64 d.H, .int .i64 d.T, .int .i64 d.R], cv] w (Ans w (.bool true)) := by
 obtain ⟨ra1, ra2⟩ := all_rng hd
 refine calls_hc (N := 27) (args := [.agg #[.int .i64 d.W, .int .i64 d.H, .int .i64 d.T, .int .i64 d.R], cv]) Try.func29 rfl rfl ?_
 refine hc_less _ (sx 0 rfl (sx 1 rfl (sub_nil _))) (.refl _) ?_
 refine hc_seq ?_
 refine hc_region ?_
 refine hl_box rfl rfl rfl (rq_box rfl rfl) ?_
 intro b1
 refine hl_v rfl rfl rfl (rv_ev rfl) ?_
 refine hl_less (sx 0 rfl (sx 1 rfl (sx 2 rfl (sx 4 rfl (sub_nil _))))) (.refl _) ?_
 refine hl_nil ?_
 refine hq_then ?_
 refine hc_seq ?_
 refine hc_seq ?_
 refine hc_region ?_
 refine hl_v rfl rfl rfl (rv_loadN (cs := [.int .i64 d.W, .int .i64 d.H, .int .i64 d.T, .int .i64 d.R]) rfl (by kernel_rfl) (by kernel_rfl) rfl rfl (box_part 0 rfl 0 rfl)) ?_
 refine hl_callV rfl rfl rfl (rq_call (by kernel_rfl) rfl (fun w hm => ret_ans (implDeviceOk_any d w))) ?_
 refine hl_bool (fun h2 => ?_) (fun h2 => absurd ((hd).symm.trans h2) (by decide))
 refine hl_v rfl rfl rfl (rv_ev rfl) ?_
 refine hl_v rfl rfl rfl (rv_ev rfl) ?_
 refine hl_v rfl rfl rfl (rv_ev rfl) ?_
 refine hl_v rfl rfl rfl (rv_len rfl Try.underlying26 rfl (rd_old hcv)) ?_
 refine hl_v rfl rfl rfl (rv_loadN (cs := [.int .i64 d.W, .int .i64 d.H, .int .i64 d.T, .int .i64 d.R]) rfl (by kernel_rfl) (by kernel_rfl) rfl rfl (box_part 0 rfl 0 rfl)) ?_
 refine hl_callV rfl rfl rfl (rq_call (by kernel_rfl) rfl (fun w hm => ret_ans (implrouteNodes_yes d w hd))) ?_
 refine hl_neq rfl rfl rfl rfl rfl rfl (fun h3 => absurd h3 (by omega)) (fun h3 => ?_)
 refine hl_v rfl rfl rfl (rv_ev rfl) ?_
 refine hl_less (sx 0 rfl (sx 1 rfl (sx 2 rfl (sx 4 rfl (sx 16 rfl (sub_nil _)))))) (.refl _) ?_
 refine hl_nil ?_
 refine hq_then ?_
 refine hc_false rfl ?_
 refine hc_skip ?_
 refine hq_then ?_
 refine hc_seq ?_
 refine hc_seq ?_
 refine hc_region ?_
 refine hl_v rfl rfl rfl (rv_ev rfl) ?_
 refine hl_v rfl rfl rfl (rv_len rfl Try.underlying26 rfl (rd_old hcv)) ?_
 refine hl_v rfl rfl rfl (rv_ev rfl) ?_
 refine hl_less (sx 0 rfl (sx 1 rfl (sx 2 rfl (sx 4 rfl (sx 16 rfl (sx 17 rfl (sx 18 rfl (sx 19 rfl (sub_nil _))))))))) (.refl _) ?_
 refine hl_nil ?_
 refine hq_then ?_
 refine hc_block ?_
 refine hc_loop1 (α := Nat) (fun k => [boxE b1 #[.int .i64 d.W, .int .i64 d.H, .int .i64 d.T, .int .i64 d.R] 25]) (fun k => [(0, .agg #[.int .i64 d.W, .int .i64 d.H, .int .i64 d.T, .int .i64 d.R]), (1, cv), (2, .pointer (some ⟨b1, 0, none⟩)), (4, .bool false), (16, .bool false), (17, cv), (18, .int .i64 (cs.length : Int)), (19, .int .i64 (k : Int))]) (fun k => k ≤ cs.length) (fun k => cs.length - k) 0 (by omega) (sx 0 rfl (sx 1 rfl (sx 2 rfl (sx 4 rfl (sx 16 rfl (sx 17 rfl (sx 18 rfl (sx 19 rfl (sub_nil _))))))))) ((.cons_cons _ .slnil)) ?_
 intro k hi4
 have hk := hi4
 refine hc_seq ?_
 refine hc_region ?_
 refine hl_lss rfl rfl rfl rfl rfl rfl (fun h5 => ?_) (fun h5 => ?_)
 ·
  refine hl_less (sx 0 rfl (sx 1 rfl (sx 2 rfl (sx 4 rfl (sx 16 rfl (sx 17 rfl (sx 18 rfl (sx 19 rfl (sx 20 rfl (sub_nil _)))))))))) (.refl _) ?_
  refine hl_nil ?_
  refine hq_then ?_
  refine hc_seq ?_
  refine hc_true rfl ?_
  refine hc_skip ?_
  refine hq_then ?_
  refine hc_seq ?_
  refine hc_block ?_
  refine hc_seq ?_
  refine hc_region ?_
  refine hl_v rfl rfl rfl (rv_index (s := 1) rfl Try.underlying26 (by kernel_rfl) rfl rfl (rd_old hcv) (by omega) (by first | omega | (simp only [List.length_set]; omega))) ?_
  refine hl_v rfl rfl rfl (rv_loadEl (u := .int .i64 (cs.getD k 0)) rfl (by kernel_rfl) rfl (rd_old hcv) (ints_at1 (show _ < cs.length by first | omega | (simp only [List.length_set]; omega)))) ?_
  refine hl_v rfl rfl rfl (rv_ev rfl) ?_
  refine hl_less (sx 0 rfl (sx 1 rfl (sx 2 rfl (sx 4 rfl (sx 6 rfl (sx 16 rfl (sx 17 rfl (sx 18 rfl (sx 19 rfl (sx 20 rfl (sub_nil _))))))))))) (.refl _) ?_
  refine hl_nil ?_
  refine hq_then ?_
  refine hc_seq ?_
  refine hc_region ?_
  refine hl_v rfl rfl rfl (rv_ev rfl) ?_
  refine hl_callV rfl rfl rfl (rq_call (by kernel_rfl) rfl (fun w hm => ret_ans (ans_of (inRange_any _ _ _ w)))) ?_
  refine hl_bool (fun h6 => ?_) (fun h6 => absurd (((inr_in (by first | omega | exact hcr k (by omega)))).symm.trans h6) (by decide))
  refine hl_v rfl rfl rfl (rv_ev rfl) ?_
  refine hl_less (sx 0 rfl (sx 1 rfl (sx 2 rfl (sx 4 rfl (sx 6 rfl (sx 16 rfl (sx 17 rfl (sx 18 rfl (sx 19 rfl (sx 20 rfl (sx 25 rfl (sub_nil _)))))))))))) (.refl _) ?_
  refine hl_nil ?_
  refine hq_then ?_
  refine hc_false rfl ?_
  refine hc_skip ?_
  refine hq_block_normal ?_
  refine hq_then ?_
  refine hc_region ?_
  refine hl_v rfl rfl rfl (rv_add rfl rfl rfl (by constructor <;> omega)) ?_
  refine hl_v rfl rfl rfl (rv_ev rfl) ?_
  refine hl_less (sx 0 rfl (sx 1 rfl (sx 2 rfl (sx 4 rfl (sx 6 rfl (sx 16 rfl (sx 17 rfl (sx 18 rfl (sx 19 rfl (sx 20 rfl (sx 25 rfl (sub_nil _)))))))))))) (.refl _) ?_
  refine hl_nil ?_
  exact hq_round1 (k + 1) (by omega) (by omega) (sx 0 rfl (sx 1 rfl (sx 2 rfl (sx 4 rfl (sx 16 rfl (sx 17 rfl (sx 18 rfl (sx 19 rfl (sub_nil _))))))))) ((.cons_cons _ .slnil))
 ·
  refine hl_less (sx 0 rfl (sx 1 rfl (sx 2 rfl (sx 4 rfl (sx 16 rfl (sx 17 rfl (sx 18 rfl (sx 19 rfl (sx 20 rfl (sub_nil _)))))))))) (.refl _) ?_
  refine hl_nil ?_
  refine hq_then ?_
  refine hc_seq ?_
  refine hc_false rfl ?_
  refine hc_exit ?_
  refine hq_then_exit ?_
  refine hq_then_exit ?_
  refine hq_block_exit ?_
  refine hq_then ?_
  refine hc_seq ?_
  refine hc_region ?_
  refine hl_v rfl rfl rfl (rv_ev rfl) ?_
  refine hl_less (sx 0 rfl (sx 1 rfl (sx 2 rfl (sx 4 rfl (sx 16 rfl (sx 17 rfl (sx 18 rfl (sx 19 rfl (sx 20 rfl (sub_nil _)))))))))) (.refl _) ?_
  refine hl_nil ?_
  refine hq_then ?_
  refine hc_ret ?_
  exact hq_ans rfl rfl rfl
set_option maxHeartbeats 4000000 in
set_option maxRecDepth 100000 in
theorem startsOk_yes (d : Dev) (cs st : List Int) (cv sv : Value) (w : World) (hd : devB d = true) (hcv : RdsW w cv 1 cs.length (cs.map (Value.int .i64))) (hcl : (cs.length : Int) = allI d) (hcr : ∀ k, k < cs.length → 1 ≤ cs.getD k 0 ∧ cs.getD k 0 ≤ 100000) (hsv : RdsW w sv 1 st.length (st.map (Value.int .i64))) (hsl : st.length ≤ 1000000) (hst : ∀ s ∈ st, nodeOkI d s = true) :
  Calls Try.prog 53 #[.agg #[.int .i64 d.W, .int .i64 d.H, .int .i64 d.T, .int .i64 d.R], cv, sv] w (Ans w (.bool true)) := by
 refine calls_hc (N := 24) (args := [.agg #[.int .i64 d.W, .int .i64 d.H, .int .i64 d.T, .int .i64 d.R], cv, sv]) Try.func53 rfl rfl ?_
 refine hc_less _ (sx 0 rfl (sx 1 rfl (sx 2 rfl (sub_nil _)))) (.refl _) ?_
 refine hc_seq ?_
 refine hc_region ?_
 refine hl_box rfl rfl rfl (rq_box rfl rfl) ?_
 intro b1
 refine hl_v rfl rfl rfl (rv_ev rfl) ?_
 refine hl_less (sx 0 rfl (sx 1 rfl (sx 2 rfl (sx 3 rfl (sx 6 rfl (sub_nil _)))))) (.refl _) ?_
 refine hl_nil ?_
 refine hq_then ?_
 refine hc_seq ?_
 refine hc_seq ?_
 refine hc_region ?_
 refine hl_v rfl rfl rfl (rv_loadN (cs := [.int .i64 d.W, .int .i64 d.H, .int .i64 d.T, .int .i64 d.R]) rfl (by kernel_rfl) (by kernel_rfl) rfl rfl (box_part 0 rfl 0 rfl)) ?_
 refine hl_v rfl rfl rfl (rv_ev rfl) ?_
 refine hl_callV rfl rfl rfl (rq_call (by kernel_rfl) rfl (fun w hm => ret_ans (CostsOk_yes d cs _ w hd ((rd_old hcv) w hm) hcl hcr))) ?_
 refine hl_v rfl rfl rfl (rv_ev rfl) ?_
 refine hl_less (sx 0 rfl (sx 1 rfl (sx 2 rfl (sx 3 rfl (sx 6 rfl (sx 12 rfl (sub_nil _))))))) (.refl _) ?_
 refine hl_nil ?_
 refine hq_then ?_
 refine hc_false rfl ?_
 refine hc_skip ?_
 refine hq_then ?_
 refine hc_seq ?_
 refine hc_seq ?_
 refine hc_region ?_
 refine hl_v rfl rfl rfl (rv_ev rfl) ?_
 refine hl_v rfl rfl rfl (rv_len rfl Try.underlying26 rfl (rd_old hsv)) ?_
 refine hl_v rfl rfl rfl (rv_ev rfl) ?_
 refine hl_less (sx 0 rfl (sx 1 rfl (sx 2 rfl (sx 3 rfl (sx 6 rfl (sx 12 rfl (sx 13 rfl (sx 14 rfl (sx 15 rfl (sub_nil _)))))))))) (.refl _) ?_
 refine hl_nil ?_
 refine hq_then ?_
 refine hc_block ?_
 refine hc_loop1 (α := Nat) (fun k => [boxE b1 #[.int .i64 d.W, .int .i64 d.H, .int .i64 d.T, .int .i64 d.R] 25]) (fun k => [(0, .agg #[.int .i64 d.W, .int .i64 d.H, .int .i64 d.T, .int .i64 d.R]), (1, cv), (2, sv), (3, .pointer (some ⟨b1, 0, none⟩)), (6, .bool false), (12, .bool false), (13, sv), (14, .int .i64 (st.length : Int)), (15, .int .i64 (k : Int))]) (fun k => k ≤ st.length) (fun k => st.length - k) 0 (by omega) (sx 0 rfl (sx 1 rfl (sx 2 rfl (sx 3 rfl (sx 6 rfl (sx 12 rfl (sx 13 rfl (sx 14 rfl (sx 15 rfl (sub_nil _)))))))))) ((.cons_cons _ .slnil)) ?_
 intro k hi2
 have hk := hi2
 refine hc_seq ?_
 refine hc_region ?_
 refine hl_lss rfl rfl rfl rfl rfl rfl (fun h3 => ?_) (fun h3 => ?_)
 ·
  refine hl_less (sx 0 rfl (sx 1 rfl (sx 2 rfl (sx 3 rfl (sx 6 rfl (sx 12 rfl (sx 13 rfl (sx 14 rfl (sx 15 rfl (sx 16 rfl (sub_nil _))))))))))) (.refl _) ?_
  refine hl_nil ?_
  refine hq_then ?_
  refine hc_seq ?_
  refine hc_true rfl ?_
  refine hc_skip ?_
  refine hq_then ?_
  refine hc_seq ?_
  refine hc_block ?_
  refine hc_seq ?_
  refine hc_region ?_
  refine hl_v rfl rfl rfl (rv_index (s := 1) rfl Try.underlying26 (by kernel_rfl) rfl rfl (rd_old hsv) (by omega) (by first | omega | (simp only [List.length_set]; omega))) ?_
  refine hl_v rfl rfl rfl (rv_loadEl (u := .int .i64 (st.getD k 0)) rfl (by kernel_rfl) rfl (rd_old hsv) (ints_at1 (show _ < st.length by first | omega | (simp only [List.length_set]; omega)))) ?_
  refine hl_v rfl rfl rfl (rv_ev rfl) ?_
  refine hl_less (sx 0 rfl (sx 1 rfl (sx 2 rfl (sx 3 rfl (sx 6 rfl (sx 8 rfl (sx 12 rfl (sx 13 rfl (sx 14 rfl (sx 15 rfl (sx 16 rfl (sub_nil _)))))))))))) (.refl _) ?_
  refine hl_nil ?_
  refine hq_then ?_
  refine hc_seq ?_
  refine hc_region ?_
  refine hl_v rfl rfl rfl (rv_loadN (cs := [.int .i64 d.W, .int .i64 d.H, .int .i64 d.T, .int .i64 d.R]) rfl (by kernel_rfl) (by kernel_rfl) rfl rfl (box_part 0 rfl 0 rfl)) ?_
  refine hl_v rfl rfl rfl (rv_ev rfl) ?_
  refine hl_callV rfl rfl rfl (rq_call (by kernel_rfl) rfl (fun w hm => ret_ans (implRouteNodeOk_any d _ w))) ?_
  refine hl_bool (fun h4 => ?_) (fun h4 => absurd (((hst _ (getD_memZ (by omega)))).symm.trans h4) (by decide))
  refine hl_v rfl rfl rfl (rv_ev rfl) ?_
  refine hl_less (sx 0 rfl (sx 1 rfl (sx 2 rfl (sx 3 rfl (sx 6 rfl (sx 8 rfl (sx 12 rfl (sx 13 rfl (sx 14 rfl (sx 15 rfl (sx 16 rfl (sx 22 rfl (sub_nil _))))))))))))) (.refl _) ?_
  refine hl_nil ?_
  refine hq_then ?_
  refine hc_false rfl ?_
  refine hc_skip ?_
  refine hq_block_normal ?_
  refine hq_then ?_
  refine hc_region ?_
  refine hl_v rfl rfl rfl (rv_add rfl rfl rfl (by constructor <;> omega)) ?_
  refine hl_v rfl rfl rfl (rv_ev rfl) ?_
  refine hl_less (sx 0 rfl (sx 1 rfl (sx 2 rfl (sx 3 rfl (sx 6 rfl (sx 8 rfl (sx 12 rfl (sx 13 rfl (sx 14 rfl (sx 15 rfl (sx 16 rfl (sx 22 rfl (sub_nil _))))))))))))) (.refl _) ?_
  refine hl_nil ?_
  exact hq_round1 (k + 1) (by omega) (by omega) (sx 0 rfl (sx 1 rfl (sx 2 rfl (sx 3 rfl (sx 6 rfl (sx 12 rfl (sx 13 rfl (sx 14 rfl (sx 15 rfl (sub_nil _)))))))))) ((.cons_cons _ .slnil))
 ·
  refine hl_less (sx 0 rfl (sx 1 rfl (sx 2 rfl (sx 3 rfl (sx 6 rfl (sx 12 rfl (sx 13 rfl (sx 14 rfl (sx 15 rfl (sx 16 rfl (sub_nil _))))))))))) (.refl _) ?_
  refine hl_nil ?_
  refine hq_then ?_
  refine hc_seq ?_
  refine hc_false rfl ?_
  refine hc_exit ?_
  refine hq_then_exit ?_
  refine hq_then_exit ?_
  refine hq_block_exit ?_
  refine hq_then ?_
  refine hc_seq ?_
  refine hc_region ?_
  refine hl_v rfl rfl rfl (rv_ev rfl) ?_
  refine hl_less (sx 0 rfl (sx 1 rfl (sx 2 rfl (sx 3 rfl (sx 6 rfl (sx 12 rfl (sx 13 rfl (sx 14 rfl (sx 15 rfl (sx 16 rfl (sub_nil _))))))))))) (.refl _) ?_
  refine hl_nil ?_
  refine hq_then ?_
  refine hc_ret ?_
  exact hq_ans rfl rfl rfl
theorem GrOk.srcs' {d : Dev} {g : Gr} {cs : List Int} (h : GrOk d (allI d).toNat g) (hd : devB d = true) (hcl : (cs.length : Int) = allI d) (hcr : ∀ k, k < cs.length → 1 ≤ cs.getD k 0 ∧ cs.getD k 0 ≤ 100000) : GrS cs.length (srcI d) (kOf g.ks) cs := by
  have e : (allI d).toNat = cs.length := by omega
  rw [e] at h
  exact h.srcs hd hcl rfl hcr
set_option maxHeartbeats 4000000 in
set_option maxRecDepth 100000 in
theorem Distances_ret (d : Dev) (cs st : List Int) (cv sv : Value) (w : World) (hd : devB d = true) (hcv : RdsW w cv 1 cs.length (cs.map (Value.int .i64))) (hcl : (cs.length : Int) = allI d) (hcr : ∀ k, k < cs.length → 1 ≤ cs.getD k 0 ∧ cs.getD k 0 ≤ 100000) (hsv : RdsW w sv 1 st.length (st.map (Value.int .i64))) (hsl : st.length ≤ 1000000) (hst : ∀ s ∈ st, nodeOkI d s = true) :
  Calls Try.prog 24 #[.agg #[.int .i64 d.W, .int .i64 d.H, .int .i64 d.T, .int .i64 d.R], cv, sv] w (Ret w (fun v' post => ∃ D : List Int, post = [rowE 3 1 v' D.length (D.map (Value.int .i64))] ∧ DistOk cs.length (srcI d) cs st D)) := by
 obtain ⟨ra1, ra2⟩ := all_rng hd
 refine calls_hc (N := 17) (args := [.agg #[.int .i64 d.W, .int .i64 d.H, .int .i64 d.T, .int .i64 d.R], cv, sv]) Try.func24 rfl rfl ?_
 refine hc_less _ (sx 0 rfl (sx 1 rfl (sx 2 rfl (sub_nil _)))) (.refl _) ?_
 refine hc_seq ?_
 refine hc_region ?_
 refine hl_box rfl rfl rfl (rq_box rfl rfl) ?_
 intro b1
 refine hl_v rfl rfl rfl (rv_ev rfl) ?_
 refine hl_less (sx 0 rfl (sx 1 rfl (sx 2 rfl (sx 3 rfl (sx 6 rfl (sub_nil _)))))) (.refl _) ?_
 refine hl_nil ?_
 refine hq_then ?_
 refine hc_seq ?_
 refine hc_seq ?_
 refine hc_region ?_
 refine hl_v rfl rfl rfl (rv_loadN (cs := [.int .i64 d.W, .int .i64 d.H, .int .i64 d.T, .int .i64 d.R]) rfl (by kernel_rfl) (by kernel_rfl) rfl rfl (box_part 0 rfl 0 rfl)) ?_
 refine hl_v rfl rfl rfl (rv_ev rfl) ?_
 refine hl_v rfl rfl rfl (rv_ev rfl) ?_
 refine hl_callV rfl rfl rfl (rq_call (by kernel_rfl) rfl (fun w hm => ret_ans (startsOk_yes d cs st _ _ w hd ((rd_old hcv) w hm) hcl hcr ((rd_old hsv) w hm) hsl hst))) ?_
 refine hl_v rfl rfl rfl (rv_ev rfl) ?_
 refine hl_less (sx 0 rfl (sx 1 rfl (sx 2 rfl (sx 3 rfl (sx 6 rfl (sx 11 rfl (sub_nil _))))))) (.refl _) ?_
 refine hl_nil ?_
 refine hq_then ?_
 refine hc_false rfl ?_
 refine hc_skip ?_
 refine hq_then ?_
 refine hc_seq ?_
 refine hc_region ?_
 refine hl_v rfl rfl rfl (rv_loadN (cs := [.int .i64 d.W, .int .i64 d.H, .int .i64 d.T, .int .i64 d.R]) rfl (by kernel_rfl) (by kernel_rfl) rfl rfl (box_part 0 rfl 0 rfl)) ?_
 refine hl_q rfl rfl rfl (rq_call (by kernel_rfl) rfl (fun w hm => graphOf_ret d w hd)) ?_
 intro v2 p3 hR4
 obtain ⟨b, g, rfl, rfl, hgk⟩ := hR4
 refine hl_v rfl rfl rfl (rv_ev rfl) ?_
 refine hl_v rfl rfl rfl (rv_ev rfl) ?_
 refine hl_q rfl rfl rfl (rq_call (by kernel_rfl) rfl (fun w hm => distances_ret b g cs st _ _ (srcI d) w (gr_rds 0 rfl w hm) (by rw [hgk.ks.len]; omega) (fun x hx => by have := hgk.ks.sz x (by omega); omega) (hgk.srcs' hd hcl hcr) ((rd_old hcv) w hm) ((rd_old hsv) w hm) hsl (fun s hs => by have := (nodeOk_rng (hst s hs)).2; omega))) ?_
 intro v5 p6 hR7
 obtain ⟨D, rfl, hD⟩ := hR7
 have hDl := hD.len
 refine hl_v rfl rfl rfl (rv_ev rfl) ?_
 refine hl_less (sx 0 rfl (sx 1 rfl (sx 2 rfl (sx 3 rfl (sx 6 rfl (sx 11 rfl (sub_nil _))))))) (.refl _) ?_
 refine hl_nil ?_
 refine hq_then ?_
 refine hc_ret ?_
 exact hq_retR (post := [rowE 3 1 v5 D.length (D.map (Value.int .i64))]) rfl rfl ((.cons_cons _ (.cons _ (.cons _ .slnil)))) ⟨D, rfl, hD⟩
theorem app_rng {zs : List Int} {x : Int} (h : ∀ i, i < zs.length → 1 ≤ zs.getD i 0 ∧ zs.getD i 0 ≤ 50) (hx : 1 ≤ x ∧ x ≤ 50) : ∀ i, i < (zs ++ [x]).length → 1 ≤ (zs ++ [x]).getD i 0 ∧ (zs ++ [x]).getD i 0 ≤ 50 := fun i hi => by
  rw [List.length_append, List.length_singleton] at hi
  by_cases hc : i < zs.length
  · rw [gl_o hc]; exact h i hc
  · rw [gr (by omega), show i - zs.length = 0 by omega]; exact hx
theorem gc0 {x : Int} {xs : List Int} : ([x] ++ xs).getD 0 0 = x := rfl
theorem gcS {x : Int} {xs : List Int} (i : Nat) : ([x] ++ xs).getD (i + 1) 0 = xs.getD i 0 := rfl
/-- a cheapest path from x on to t -/
structure CP (N : Nat) (S : Int → List Int) (cs st D : List Int) (t x : Int) (xs : List Int) : Prop where
  l0 : 1 ≤ xs.length
  first : xs.getD 0 0 = x
  last : xs.getD (xs.length - 1) 0 = t
  rng : ∀ i, i < xs.length → 0 ≤ xs.getD i 0 ∧ xs.getD i 0 < N
  chain : ∀ i, i + 1 < xs.length → xs.getD i 0 ∈ S (xs.getD (i + 1) 0) ∧ 0 ≤ gI D (xs.getD i 0) ∧ gI D (xs.getD (i + 1) 0) = gI D (xs.getD i 0) + gI cs (xs.getD (i + 1) 0)
  nst : ∀ i, i + 1 < xs.length → ¬ xs.getD (i + 1) 0 ∈ st
  pos : 0 ≤ gI D x
  len : gI D x + xs.length ≤ gI D t + 1
theorem cp_one {N : Nat} {S : Int → List Int} {cs st D : List Int} {t : Int} (h0 : 0 ≤ t) (h1 : t < N) (hp : 0 ≤ gI D t) : CP N S cs st D t t [t] :=
  ⟨by simp, rfl, rfl, fun i hi => by have : i = 0 := by simpa using hi
                                     subst this; exact ⟨h0, h1⟩, fun i hi => by simp at hi, fun i hi => by simp at hi, hp, by simp⟩
theorem CP.more {N : Nat} {S : Int → List Int} {cs st D : List Int} {t x y : Int} {xs : List Int} (h : CP N S cs st D t x xs) (hx : ¬ x ∈ st) (hy : y ∈ S x) (y0 : 0 ≤ y) (y1 : y < N) (hd : 0 ≤ gI D y) (he : gI D y + gI cs x = gI D x) (hc : 1 ≤ gI cs x) : CP N S cs st D t y ([y] ++ xs) := by
  have hl := h.l0
  have e : ([y] ++ xs).length = xs.length + 1 := by simp
  refine ⟨by omega, rfl, ?_, fun i hi => ?_, fun i hi => ?_, fun i hi => ?_, hd, by rw [e]; have := h.len; omega⟩
  · rw [e, show xs.length + 1 - 1 = (xs.length - 1) + 1 by omega, gcS]; exact h.last
  · rw [e] at hi
    cases i with
    | zero => exact ⟨y0, y1⟩
    | succ i => rw [gcS]; exact h.rng i (by omega)
  · rw [e] at hi
    cases i with
    | zero => rw [gc0, gcS, h.first]; exact ⟨hy, hd, by omega⟩
    | succ i => rw [gcS, gcS]; exact h.chain i (by omega)
  · rw [e] at hi
    cases i with
    | zero => rw [gcS, h.first]; exact hx
    | succ i => rw [gcS]; exact h.nst i (by omega)
/-- what a path costs: its first k steps -/
def pcst (cs xs : List Int) : Nat → Int
  | 0 => 0
  | k + 1 => pcst cs xs k + cs.getD (xs.getD (k + 1) 0).toNat 0
theorem CP.cost {N : Nat} {S : Int → List Int} {cs st D : List Int} {t x : Int} {xs : List Int} (h : CP N S cs st D t x xs) : ∀ k, k < xs.length → gI D (xs.getD k 0) = gI D x + pcst cs xs k
  | 0, _ => by rw [h.first]; simp [pcst]
  | k + 1, hk => by
    have ih := h.cost k (by omega)
    have hc := (h.chain k (by omega)).2.2
    rw [hc, ih]; show _ = gI D x + (pcst cs xs k + gI cs _); omega
theorem chain_le {N : Nat} {S : Int → List Int} {cs st D ys : List Int} (h : DistOk N S cs st D) (hr : ∀ k, k < ys.length → 0 ≤ ys.getD k 0 ∧ ys.getD k 0 < N) (hc : ∀ k, k + 1 < ys.length → ys.getD k 0 ∈ S (ys.getD (k + 1) 0)) (h0 : gI D (ys.getD 0 0) = 0) : ∀ k, k < ys.length → 0 ≤ gI D (ys.getD k 0) ∧ gI D (ys.getD k 0) ≤ pcst cs ys k
  | 0, _ => by rw [h0]; simp [pcst]
  | k + 1, hk => by
    have ih := chain_le h hr hc h0 k (by omega)
    have hk1 := hr (k + 1) hk
    have := h.rel _ hk1.1 hk1.2 _ (hc k hk) ih.1
    refine ⟨this.1, ?_⟩
    show _ ≤ pcst cs ys k + gI cs _
    omega
theorem pcst_rng {cs xs : List Int} {C : Int} (hC : 0 ≤ C) (h : ∀ k, k < cs.length → 0 ≤ cs.getD k 0 ∧ cs.getD k 0 ≤ C) : ∀ k : Nat, 0 ≤ pcst cs xs k ∧ pcst cs xs k ≤ C * k
  | 0 => by simp [pcst]
  | k + 1 => by
    have ih := pcst_rng (xs := xs) hC h k
    have h1 : 0 ≤ cs.getD (xs.getD (k + 1) 0).toNat 0 ∧ cs.getD (xs.getD (k + 1) 0).toNat 0 ≤ C := by
      by_cases hc : (xs.getD (k + 1) 0).toNat < cs.length
      · exact h _ hc
      · rw [List.getD_eq_getElem?_getD, List.getElem?_eq_none (by omega)]; exact ⟨Int.le_refl _, hC⟩
    unfold pcst
    have e : C * ((k + 1 : Nat) : Int) = C * k + C := by rw [Int.natCast_succ, Int.mul_add, Int.mul_one]
    rw [e]; omega
/-- every node of a tree can be reached -/
theorem tree_reach {d : Dev} {s0 : Int} {ns fs ks cs D st : List Int} {N : Nat} (hN : (N : Int) = allI d) (ht : Tree d s0 ns fs ks) (h : DistOk N (srcI d) cs st D) (h0 : s0 ∈ st) : ∀ m k : Nat, k ≤ m → k < ns.length → 0 ≤ gI D (ns.getD k 0)
  | m, 0, _, _ => by rw [ht.root, h.sts _ h0]; exact Int.le_refl _
  | 0, k + 1, hk, _ => by omega
  | m + 1, k + 1, hk, hl => by
    obtain ⟨h1, h2, h3⟩ := ht.step (k + 1) (by omega) hl
    have ih := tree_reach hN ht h h0 m (fs.getD (k + 1) 0).toNat (by omega) (by omega)
    have hr := ht.rng _ (getD_inX hl)
    exact (h.rel _ hr.1 (by omega) _ (hasB_mem.1 h3) ih).1
theorem pcst_step (cs xs : List Int) {i : Nat} (h : 1 ≤ i) : pcst cs xs i = pcst cs xs (i - 1) + cs.getD (xs.getD i 0).toNat 0 := by
  obtain ⟨k, rfl⟩ : ∃ k, i = k + 1 := ⟨i - 1, by omega⟩
  rfl
theorem chain_node {d : Dev} {xs : List Int} (h0 : nodeOkI d (xs.getD 0 0) = true) (hc : ∀ k, k + 1 < xs.length → hasB (srcI d (xs.getD (k + 1) 0)) (xs.getD k 0) = true) : ∀ k, k < xs.length → nodeOkI d (xs.getD k 0) = true
  | 0, _ => h0
  | k + 1, hk => by
    apply Decidable.byContradiction
    intro hn
    have := hc k hk
    rw [src_no d _ hn] at this
    exact absurd this (by simp [hasB])
theorem dist_le {N : Nat} {S : Int → List Int} {cs st D D' : List Int} (hr : ∀ k : Int, 0 ≤ k → k < N → ∀ s ∈ S k, 0 ≤ s ∧ s < N) (hcs : ∀ k : Int, 0 ≤ k → k < N → 1 ≤ gI cs k) (h : DistOk N S cs st D) (h' : DistOk N S cs st D') : ∀ (m : Nat) (k : Int), (gI D k).toNat ≤ m → 0 ≤ k → k < N → 0 ≤ gI D k → 0 ≤ gI D' k ∧ gI D' k ≤ gI D k := by
  intro m
  induction m with
  | zero =>
    intro k hm k0 k1_o hk
    by_cases hst : k ∈ st
    · rw [h.sts _ hst, h'.sts _ hst]; exact ⟨Int.le_refl _, Int.le_refl _⟩
    · obtain ⟨s, hs, h1, h2⟩ := h.tig k k0 k1_o hst hk
      have := hcs k k0 k1_o
      omega
  | succ m ih =>
    intro k hm k0 k1_o hk
    by_cases hst : k ∈ st
    · rw [h.sts _ hst, h'.sts _ hst]; exact ⟨Int.le_refl _, Int.le_refl _⟩
    · obtain ⟨s, hs, h1, h2⟩ := h.tig k k0 k1_o hst hk
      have hc := hcs k k0 k1_o
      have hsr := hr k k0 k1_o s hs
      obtain ⟨a, b⟩ := ih s (by omega) hsr.1 hsr.2 h1
      have := h'.rel k k0 k1_o s hs a
      omega
theorem dist_eq {d : Dev} {cs st D D' : List Int} (hcl : (cs.length : Int) = allI d) (hcr : ∀ k, k < cs.length → 1 ≤ cs.getD k 0 ∧ cs.getD k 0 ≤ 100000) (h : DistOk cs.length (srcI d) cs st D) (h' : DistOk cs.length (srcI d) cs st D') {k : Int} (k0 : 0 ≤ k) (k1_o : k < allI d) (hk : 0 ≤ gI D k) : gI D' k = gI D k := by
  have hr : ∀ k : Int, 0 ≤ k → k < cs.length → ∀ s ∈ srcI d k, 0 ≤ s ∧ s < cs.length := fun k _ _ s hs => by have := src_rng hs; omega
  have hc : ∀ k : Int, 0 ≤ k → k < cs.length → 1 ≤ gI cs k := fun k h0 h1 => (hcr k.toNat (by omega)).1
  obtain ⟨a, b⟩ := dist_le hr hc h h' _ k (Nat.le_refl _) k0 (by omega) hk
  obtain ⟨-, c⟩ := dist_le hr hc h' h _ k (Nat.le_refl _) k0 (by omega) a
  omega
set_option maxHeartbeats 4000000 in
set_option maxRecDepth 100000 in
theorem cheapestPath_ret (d : Dev) (b : Nat) (g : Gr) (cs st : List Int) (cv sv : Value) (t : Int) (w : World) (hg : RdsGr w b g) (hgk : GrOk d (allI d).toNat g) (hd : devB d = true) (hcv : RdsW w cv 1 cs.length (cs.map (Value.int .i64))) (hcl : (cs.length : Int) = allI d) (hcr : ∀ k, k < cs.length → 1 ≤ cs.getD k 0 ∧ cs.getD k 0 ≤ 100000) (hsv : RdsW w sv 1 st.length (st.map (Value.int .i64))) (hsl : st.length ≤ 1000000) (hst : ∀ s ∈ st, 0 ≤ s ∧ s < allI d) (ht : 0 ≤ t ∧ t < allI d) (hreach : ∀ D, DistOk cs.length (srcI d) cs st D → 0 ≤ gI D t) :
  Calls Try.prog 62 #[.pointer (some ⟨b, 0, none⟩), cv, sv, .int .i64 t] w (Ret w (fun v' post => ∃ xs : List Int, post = [rowE 3 1 v' xs.length (xs.map (Value.int .i64))] ∧ ∃ D x, DistOk cs.length (srcI d) cs st D ∧ x ∈ st ∧ CP cs.length (srcI d) cs st D t x xs)) := by
 obtain ⟨ra1, ra2⟩ := all_rng hd
 refine calls_hc (N := 78) (args := [.pointer (some ⟨b, 0, none⟩), cv, sv, .int .i64 t]) Try.func62 rfl rfl ?_
 refine hc_less _ (sx 0 rfl (sx 1 rfl (sx 2 rfl (sx 3 rfl (sub_nil _))))) (.refl _) ?_
 refine hc_seq ?_
 refine hc_region ?_
 refine hl_v rfl rfl rfl (rv_ev rfl) ?_
 refine hl_less (sx 0 rfl (sx 1 rfl (sx 2 rfl (sx 3 rfl (sx 8 rfl (sub_nil _)))))) (.refl _) ?_
 refine hl_nil ?_
 refine hq_then ?_
 refine hc_seq ?_
 refine hc_region ?_
 refine hl_v rfl rfl rfl (rv_ev rfl) ?_
 refine hl_v rfl rfl rfl (rv_ev rfl) ?_
 refine hl_v rfl rfl rfl (rv_ev rfl) ?_
 refine hl_q rfl rfl rfl (rq_call (by kernel_rfl) rfl (fun w hm => distances_ret b g cs st _ _ (srcI d) w (hg.below hm.bel) (by rw [hgk.ks.len]; omega) (fun x hx => by have := hgk.ks.sz x (by omega); omega) (hgk.srcs' hd hcl hcr) ((rd_old hcv) w hm) ((rd_old hsv) w hm) hsl (fun s hs => by have := hst s hs; omega))) ?_
 intro v1 p2 hR3
 obtain ⟨D, rfl, hD⟩ := hR3
 have hDl := hD.len
 have htp := hreach D hD
 have hDt := (hD.rng t ht.1 (by omega)).resolve_left (by omega)
 have htp2 : 0 ≤ D.getD t.toNat 0 ∧ D.getD t.toNat 0 ≤ 100000 * (cs.length : Int) := hDt
 refine hl_v rfl rfl rfl (rv_ev rfl) ?_
 refine hl_less (sx 0 rfl (sx 1 rfl (sx 2 rfl (sx 3 rfl (sx 8 rfl (sx 9 rfl (sub_nil _))))))) (.refl _) ?_
 refine hl_nil ?_
 refine hq_then ?_
 refine hc_seq ?_
 refine hc_seq ?_
 refine hc_region ?_
 refine hl_v rfl rfl rfl (rv_ev rfl) ?_
 refine hl_v rfl rfl rfl (rv_ev rfl) ?_
 refine hl_v rfl rfl rfl (rv_len rfl Try.underlying26 rfl (rd_row 0 rfl)) ?_
 refine hl_v rfl rfl rfl (rv_sub rfl rfl rfl (by constructor <;> omega)) ?_
 refine hl_callV rfl rfl rfl (rq_call (by kernel_rfl) rfl (fun w hm => ret_ans (ans_of (inRange_any _ _ _ w)))) ?_
 refine hl_bool (fun h4 => ?_) (fun h4 => absurd (((inr_in (by omega))).symm.trans h4) (by decide))
 refine hl_v rfl rfl rfl (rv_ev rfl) ?_
 refine hl_v rfl rfl rfl (rv_ev rfl) ?_
 refine hl_v rfl rfl rfl (rv_ev rfl) ?_
 refine hl_v rfl rfl rfl (rv_ev rfl) ?_
 refine hl_v rfl rfl rfl (rv_index (s := 1) rfl Try.underlying26 (by kernel_rfl) rfl rfl (rd_row 0 rfl) (by omega) (by first | omega | (simp only [List.length_set]; omega))) ?_
 refine hl_v rfl rfl rfl (rv_loadEl (u := .int .i64 (D.getD ((t).toNat) 0)) rfl (by kernel_rfl) rfl (rd_row 0 rfl) (ints_at1 (show _ < D.length by first | omega | (simp only [List.length_set]; omega)))) ?_
 refine hl_eql rfl rfl rfl rfl rfl rfl (fun h5 => absurd h5 (by omega)) (fun h5 => ?_)
 refine hl_v rfl rfl rfl (rv_ev rfl) ?_
 refine hl_less (sx 0 rfl (sx 1 rfl (sx 2 rfl (sx 3 rfl (sx 8 rfl (sx 9 rfl (sx 30 rfl (sub_nil _)))))))) (.refl _) ?_
 refine hl_nil ?_
 refine hq_then ?_
 refine hc_false rfl ?_
 refine hc_skip ?_
 refine hq_then ?_
 refine hc_seq ?_
 refine hc_region ?_
 refine hl_v rfl rfl rfl (rv_ev rfl) ?_
 refine hl_row rfl rfl rfl (rq_buildSlice (z := .int .i64 0) (s := 1) (cs := ([t].map (Value.int .i64))) rfl Try.underlying26 (by kernel_rfl) (by decide) rfl (by kernel_rfl) rfl) ?_
 intro g6
 refine hl_v rfl rfl rfl (rv_ev rfl) ?_
 refine hl_less (sx 0 rfl (sx 1 rfl (sx 2 rfl (sx 3 rfl (sx 8 rfl (sx 9 rfl (sx 10 rfl (sx 30 rfl (sub_nil _))))))))) (.refl _) ?_
 refine hl_nil ?_
 refine hq_then ?_
 refine hc_seq ?_
 refine hc_seq ?_
 refine hc_region ?_
 refine hl_v rfl rfl rfl (rv_ev rfl) ?_
 refine hl_v rfl rfl rfl (rv_ev rfl) ?_
 refine hl_less (sx 0 rfl (sx 1 rfl (sx 2 rfl (sx 3 rfl (sx 8 rfl (sx 9 rfl (sx 10 rfl (sx 11 rfl (sx 30 rfl (sub_nil _)))))))))) (.refl _) ?_
 refine hl_nil ?_
 refine hq_then ?_
 refine hc_block ?_
 refine hc_loop3 (α := Int) (β := Value) (γ := List Int) (fun x u xs => [rowE 3 1 u xs.length (xs.map (Value.int .i64)), rowE 3 1 v1 D.length (D.map (Value.int .i64))]) (fun x u xs => [(0, .pointer (some ⟨b, 0, none⟩)), (1, cv), (2, sv), (3, .int .i64 t), (8, .slice none 0 0), (9, v1), (10, u), (11, .int .i64 x), (30, .bool false)]) (fun x u xs => (0 ≤ x ∧ x < allI d) ∧ CP cs.length (srcI d) cs st D t x xs) (fun x u xs => (gI D x).toNat) t _ [t] ⟨ht, cp_one ht.1 (by omega) htp⟩ (sx 0 rfl (sx 1 rfl (sx 2 rfl (sx 3 rfl (sx 8 rfl (sx 9 rfl (sx 10 rfl (sx 11 rfl (sx 30 rfl (sub_nil _)))))))))) ((.cons_cons _ (.cons_cons _ .slnil))) ?_
 intro x u xs hi7
 obtain ⟨⟨hx0, hx1⟩, hcp⟩ := hi7
 have hxl := hcp.l0
 have hxm := hcp.len
 have hxp := hcp.pos
 have htp3 : gI D t = D.getD t.toNat 0 := rfl
 have hxp3 : gI D x = D.getD x.toNat 0 := rfl
 refine hc_seq ?_
 refine hc_seq ?_
 refine hc_region ?_
 refine hl_v rfl rfl rfl (rv_ev rfl) ?_
 refine hl_v rfl rfl rfl (rv_ev rfl) ?_
 refine hl_callV rfl rfl rfl (rq_call (by kernel_rfl) rfl (fun w hm => ret_ans (hasInt_ans st x _ w ((rd_old hsv) w hm) (by first | omega | simp)))) ?_
 refine hl_bool (fun h8 => ?_) (fun h8 => ?_)
 ·
  have hxyb := h8
  refine hl_v rfl rfl rfl (rv_ev rfl) ?_
  refine hl_less (sx 0 rfl (sx 1 rfl (sx 2 rfl (sx 3 rfl (sx 8 rfl (sx 9 rfl (sx 10 rfl (sx 11 rfl (sx 30 rfl (sx 37 rfl (sub_nil _))))))))))) (.refl _) ?_
  refine hl_nil ?_
  refine hq_then ?_
  refine hc_false rfl ?_
  refine hc_exit ?_
  refine hq_then_exit ?_
  refine hq_then_exit ?_
  refine hq_block_exit ?_
  refine hq_then ?_
  refine hc_seq ?_
  refine hc_region ?_
  refine hl_v rfl rfl rfl (rv_ev rfl) ?_
  refine hl_v rfl rfl rfl (rv_ev rfl) ?_
  refine hl_less (sx 0 rfl (sx 1 rfl (sx 2 rfl (sx 3 rfl (sx 8 rfl (sx 9 rfl (sx 10 rfl (sx 11 rfl (sx 30 rfl (sx 37 rfl (sub_nil _))))))))))) (.refl _) ?_
  refine hl_nil ?_
  refine hq_then ?_
  refine hc_ret ?_
  exact hq_retR (post := [rowE 3 1 u xs.length (xs.map (Value.int .i64))]) rfl rfl ((.cons_cons _ (.cons _ .slnil))) ⟨xs, rfl, D, x, hD, hasB_mem.1 hxyb, hcp⟩
 ·
  have hxnb := h8
  refine hl_v rfl rfl rfl (rv_ev rfl) ?_
  refine hl_less (sx 0 rfl (sx 1 rfl (sx 2 rfl (sx 3 rfl (sx 8 rfl (sx 9 rfl (sx 10 rfl (sx 11 rfl (sx 30 rfl (sx 37 rfl (sub_nil _))))))))))) (.refl _) ?_
  refine hl_nil ?_
  refine hq_then ?_
  refine hc_true rfl ?_
  refine hc_skip ?_
  refine hq_then ?_
  refine hc_block ?_
  refine hc_seq ?_
  refine hc_seq ?_
  refine hc_region ?_
  refine hl_v rfl rfl rfl (rv_ev rfl) ?_
  have hsol := hgk.so.len
  have hsn : (g.so.getD ((x).toNat) ir0).xs = srcI d x := by have := hgk.so.src x.toNat (by omega); rwa [Int.toNat_of_nonneg hx0] at this
  have hs16 : (g.so.getD ((x).toNat) ir0).xs.length ≤ 16 := by rw [hsn]; exact src_len16 _ _
  have hxn : ¬ x ∈ st := by rw [← hasB_mem]; simpa using hxnb
  have hck := hcr x.toNat (by omega)
  refine hl_v rfl rfl rfl (rv_nilCheck rfl rfl) ?_
  refine hl_v rfl rfl rfl (rv_field (k0 := 0) rfl (by kernel_rfl) rfl) ?_
  refine hl_v rfl rfl rfl (rv_load rfl (by kernel_rfl) rfl (fun w hm => (hm.bel.cell (p := ⟨b, 0 + 0, none⟩) hg.lt).trans hg.c0)) ?_
  refine hl_v rfl rfl rfl (rv_ev rfl) ?_
  refine hl_v rfl rfl rfl (rv_index (s := 1) rfl Try.underlying99 (by kernel_rfl) rfl rfl (fun w hm => (hg.so.below hm.bel).row) (by omega) (by first | omega | (simp only [List.length_set]; omega))) ?_
  refine hl_v rfl rfl rfl (rv_loadEl (u := (g.so.getD ((x).toNat) ir0).v) rfl (by kernel_rfl) rfl (fun w hm => (hg.so.below hm.bel).row) (flat_one irC (fun r => r.v) (fun _ => rfl) g.so ir0 (show (x).toNat < _ by first | omega | (simp only [List.length_set]; omega)))) ?_
  refine hl_v rfl rfl rfl (rv_len rfl Try.underlying26 rfl (fun w hm => (hg.so.at (k := x.toNat) (by omega)).below hm.bel)) ?_
  refine hl_v rfl rfl rfl (rv_ev rfl) ?_
  refine hl_less (sx 0 rfl (sx 1 rfl (sx 2 rfl (sx 3 rfl (sx 8 rfl (sx 9 rfl (sx 10 rfl (sx 11 rfl (sx 30 rfl (sx 37 rfl (sx 44 rfl (sx 45 rfl (sx 46 rfl (sub_nil _)))))))))))))) (.refl _) ?_
  refine hl_nil ?_
  refine hq_then ?_
  refine hc_block ?_
  refine hc_loop1 (α := Nat) (fun j => [rowE 3 1 u xs.length (xs.map (Value.int .i64)), rowE 3 1 v1 D.length (D.map (Value.int .i64))]) (fun j => [(0, .pointer (some ⟨b, 0, none⟩)), (1, cv), (2, sv), (3, .int .i64 t), (8, .slice none 0 0), (9, v1), (10, u), (11, .int .i64 x), (30, .bool false), (37, .bool true), (44, (g.so.getD ((x).toNat) ir0).v), (45, .int .i64 (((g.so.getD ((x).toNat) ir0).xs).length : Int)), (46, .int .i64 (j : Int))]) (fun j => j ≤ (g.so.getD ((x).toNat) ir0).xs.length ∧ ∀ i, i < j → ¬ (D.getD (((g.so.getD ((x).toNat) ir0).xs).getD i 0).toNat 0 ≠ -1 ∧ D.getD (((g.so.getD ((x).toNat) ir0).xs).getD i 0).toNat 0 + cs.getD x.toNat 0 = D.getD x.toNat 0)) (fun j => (g.so.getD ((x).toNat) ir0).xs.length - j) 0 ⟨by omega, fun i hi => absurd hi (by omega)⟩ (sx 0 rfl (sx 1 rfl (sx 2 rfl (sx 3 rfl (sx 8 rfl (sx 9 rfl (sx 10 rfl (sx 11 rfl (sx 30 rfl (sx 37 rfl (sx 44 rfl (sx 45 rfl (sx 46 rfl (sub_nil _)))))))))))))) ((.cons_cons _ (.cons_cons _ .slnil))) ?_
  intro j hi9
  obtain ⟨hj, hno⟩ := hi9
  refine hc_seq ?_
  refine hc_region ?_
  refine hl_lss rfl rfl rfl rfl rfl rfl (fun h10 => ?_) (fun h10 => ?_)
  ·
   refine hl_less (sx 0 rfl (sx 1 rfl (sx 2 rfl (sx 3 rfl (sx 8 rfl (sx 9 rfl (sx 10 rfl (sx 11 rfl (sx 30 rfl (sx 37 rfl (sx 44 rfl (sx 45 rfl (sx 46 rfl (sx 47 rfl (sub_nil _))))))))))))))) (.refl _) ?_
   refine hl_nil ?_
   refine hq_then ?_
   refine hc_seq ?_
   refine hc_true rfl ?_
   refine hc_skip ?_
   refine hq_then ?_
   refine hc_seq ?_
   refine hc_block ?_
   refine hc_seq ?_
   refine hc_region ?_
   refine hl_v rfl rfl rfl (rv_index (s := 1) rfl Try.underlying26 (by kernel_rfl) rfl rfl (fun w hm => (hg.so.at (k := x.toNat) (by omega)).below hm.bel) (by omega) (by first | omega | (simp only [List.length_set]; omega))) ?_
   refine hl_v rfl rfl rfl (rv_loadEl (u := .int .i64 (((g.so.getD ((x).toNat) ir0).xs).getD j 0)) rfl (by kernel_rfl) rfl (fun w hm => (hg.so.at (k := x.toNat) (by omega)).below hm.bel) (ints_at1 (show _ < ((g.so.getD ((x).toNat) ir0).xs).length by first | omega | (simp only [List.length_set]; omega)))) ?_
   refine hl_v rfl rfl rfl (rv_ev rfl) ?_
   refine hl_less (sx 0 rfl (sx 1 rfl (sx 2 rfl (sx 3 rfl (sx 8 rfl (sx 9 rfl (sx 10 rfl (sx 11 rfl (sx 13 rfl (sx 30 rfl (sx 37 rfl (sx 44 rfl (sx 45 rfl (sx 46 rfl (sx 47 rfl (sub_nil _)))))))))))))))) (.refl _) ?_
   refine hl_nil ?_
   refine hq_then ?_
   refine hc_seq ?_
   have hym : (((g.so.getD ((x).toNat) ir0).xs).getD j 0) ∈ srcI d x := by rw [← hsn]; exact getD_memZ (by omega)
   have hyr := src_rng hym
   have hyd := hD.rng (((g.so.getD ((x).toNat) ir0).xs).getD j 0) hyr.1 (by omega)
   have hyd2 : D.getD (((g.so.getD ((x).toNat) ir0).xs).getD j 0).toNat 0 = -1 ∨ (0 ≤ D.getD (((g.so.getD ((x).toNat) ir0).xs).getD j 0).toNat 0 ∧ D.getD (((g.so.getD ((x).toNat) ir0).xs).getD j 0).toNat 0 ≤ 100000 * (cs.length : Int)) := hyd
   rcases Bool.eq_false_or_eq_true ((D.getD ((((g.so.getD ((x).toNat) ir0).xs).getD j 0).toNat) 0) != (-1)) with hb11 | hb11
   ·
    have hb11p : D.getD ((((g.so.getD ((x).toNat) ir0).xs).getD j 0).toNat) 0 ≠ -1 := bne_iff_ne.1 hb11
    have hym : (((g.so.getD ((x).toNat) ir0).xs).getD j 0) ∈ srcI d x := by rw [← hsn]; exact getD_memZ (by omega)
    have hyr := src_rng hym
    have hyd := hD.rng (((g.so.getD ((x).toNat) ir0).xs).getD j 0) hyr.1 (by omega)
    have hyd2 : D.getD (((g.so.getD ((x).toNat) ir0).xs).getD j 0).toNat 0 = -1 ∨ (0 ≤ D.getD (((g.so.getD ((x).toNat) ir0).xs).getD j 0).toNat 0 ∧ D.getD (((g.so.getD ((x).toNat) ir0).xs).getD j 0).toNat 0 ≤ 100000 * (cs.length : Int)) := hyd
    rcases Bool.eq_false_or_eq_true (((D.getD ((((g.so.getD ((x).toNat) ir0).xs).getD j 0).toNat) 0) + (cs.getD ((x).toNat) 0)) == (D.getD ((x).toNat) 0)) with hb12 | hb12
    ·
     have hb12p : (D.getD ((((g.so.getD ((x).toNat) ir0).xs).getD j 0).toNat) 0) + (cs.getD ((x).toNat) 0) = D.getD ((x).toNat) 0 := beq_iff_eq.1 hb12
     have hym : (((g.so.getD ((x).toNat) ir0).xs).getD j 0) ∈ srcI d x := by rw [← hsn]; exact getD_memZ (by omega)
     have hyr := src_rng hym
     have hyd := hD.rng (((g.so.getD ((x).toNat) ir0).xs).getD j 0) hyr.1 (by omega)
     have hyd2 : D.getD (((g.so.getD ((x).toNat) ir0).xs).getD j 0).toNat 0 = -1 ∨ (0 ≤ D.getD (((g.so.getD ((x).toNat) ir0).xs).getD j 0).toNat 0 ∧ D.getD (((g.so.getD ((x).toNat) ir0).xs).getD j 0).toNat 0 ≤ 100000 * (cs.length : Int)) := hyd
     refine hc_draw (by kernel_rfl) 21 [0, 1, 2, 3, 4, 5, 6, 7, 8, 9, 10, 11, 12, 13, 14, 15, 16, 17, 18, 19, 20] (List.take 21 _) (List.drop 21 _) [[], [], [0, 1], [2], [3], [4], [5], [5], [5, 6, 7], [5, 8], [5], [5], [5, 10, 11], [5, 12], [5, 9, 13], [5], [5], [5, 15, 16], [5, 17], [5, 14, 18], [5, 19]] [50, 51, 52, 53, 54, 55, 56, 57, 58, 59, 60, 61, 62, 63, 64, 65, 66, 67, 68, 69, 70] (fun i_ vs_ v_ p_ => match i_ with | 0 => v_ = v1 ∧ p_ = [] | 1 => v_ = .int .i64 (((g.so.getD ((x).toNat) ir0).xs).getD j 0) ∧ p_ = [] | 2 => v_ = elP v1 ((((g.so.getD ((x).toNat) ir0).xs).getD j 0).toNat * 1) ∧ p_ = [] | 3 => v_ = .int .i64 (D.getD ((((g.so.getD ((x).toNat) ir0).xs).getD j 0).toNat) 0) ∧ p_ = [] | 4 => v_ = .bool true ∧ p_ = [] | 5 => v_ = .bool true ∧ p_ = [] | 6 => v_ = v1 ∧ p_ = [] | 7 => v_ = .int .i64 (((g.so.getD ((x).toNat) ir0).xs).getD j 0) ∧ p_ = [] | 8 => v_ = elP v1 ((((g.so.getD ((x).toNat) ir0).xs).getD j 0).toNat * 1) ∧ p_ = [] | 9 => v_ = .int .i64 (D.getD ((((g.so.getD ((x).toNat) ir0).xs).getD j 0).toNat) 0) ∧ p_ = [] | 10 => v_ = cv ∧ p_ = [] | 11 => v_ = .int .i64 x ∧ p_ = [] | 12 => v_ = elP cv ((x).toNat * 1) ∧ p_ = [] | 13 => v_ = .int .i64 (cs.getD ((x).toNat) 0) ∧ p_ = [] | 14 => v_ = .int .i64 ((D.getD ((((g.so.getD ((x).toNat) ir0).xs).getD j 0).toNat) 0) + (cs.getD ((x).toNat) 0)) ∧ p_ = [] | 15 => v_ = v1 ∧ p_ = [] | 16 => v_ = .int .i64 x ∧ p_ = [] | 17 => v_ = elP v1 ((x).toNat * 1) ∧ p_ = [] | 18 => v_ = .int .i64 (D.getD ((x).toNat) 0) ∧ p_ = [] | 19 => v_ = .bool true ∧ p_ = [] | 20 => v_ = .bool true ∧ p_ = [] | _ => True) (List.take_append_drop 21 _).symm (by kernel_rfl) (by kernel_rfl) rfl rfl ?_ ?_
     ·
      refine ⟨?_, ?_, ?_, ?_, ?_, ?_, ?_, ?_, ?_, ?_, ?_, ?_, ?_, ?_, ?_, ?_, ?_, ?_, ?_, ?_, ?_, trivial⟩
      ·
       intro vf pf hR
       refine Or.inl ⟨rfl, ?_⟩
       refine rq_less (sx 9 rfl (sub_nil _)) (List.sublist_append_right _ _) ?_
       exact rq_v (rv_ev rfl)
      ·
       intro vf pf hR
       refine Or.inl ⟨rfl, ?_⟩
       refine rq_less (sx 13 rfl (sub_nil _)) (List.sublist_append_right _ _) ?_
       exact rq_v (rv_ev rfl)
      ·
       intro vf pf hR
       have e0 : (vf 0) = v1 ∧ (pf 0) = [] := hR 0 (by decide)
       have e1 : (vf 1) = .int .i64 (((g.so.getD ((x).toNat) ir0).xs).getD j 0) ∧ (pf 1) = [] := hR 1 (by decide)
       refine Or.inl ⟨rfl, ?_⟩
       refine rq_less (sx 50 (congrArg some e0.1) (sx 51 (congrArg some e1.1) (sub_nil _))) (List.sublist_append_right _ _) ?_
       exact rq_v (rv_index (s := 1) rfl Try.underlying26 (by kernel_rfl) rfl rfl (rd_row 1 rfl) (by omega) (by first | omega | (simp only [List.length_set]; omega)))
      ·
       intro vf pf hR
       have e2 : (vf 2) = elP v1 ((((g.so.getD ((x).toNat) ir0).xs).getD j 0).toNat * 1) ∧ (pf 2) = [] := hR 2 (by decide)
       refine Or.inl ⟨rfl, ?_⟩
       refine rq_less (sx 52 (congrArg some e2.1) (sub_nil _)) (List.sublist_append_right _ _) ?_
       exact rq_v (rv_loadEl (u := .int .i64 (D.getD ((((g.so.getD ((x).toNat) ir0).xs).getD j 0).toNat) 0)) rfl (by kernel_rfl) rfl (rd_row 1 rfl) (ints_at1 (show _ < D.length by first | omega | (simp only [List.length_set]; omega))))
      ·
       intro vf pf hR
       have e3 : (vf 3) = .int .i64 (D.getD ((((g.so.getD ((x).toNat) ir0).xs).getD j 0).toNat) 0) ∧ (pf 3) = [] := hR 3 (by decide)
       refine Or.inl ⟨rfl, ?_⟩
       refine rq_less (sx 53 (congrArg some e3.1) (sub_nil _)) (List.sublist_append_right _ _) ?_
       exact rq_mono (rq_v (rv_cmp rfl rfl rfl rfl)) (fun _ _ h => ⟨h.1.trans (congrArg Value.bool hb11), h.2⟩)
      ·
       intro vf pf hR
       have e4 : (vf 4) = .bool true ∧ (pf 4) = [] := hR 4 (by decide)
       refine Or.inl ⟨rfl, ?_⟩
       refine rq_less (sx 54 (congrArg some e4.1) (sub_nil _)) (List.sublist_append_right _ _) ?_
       exact rq_v (rv_ev rfl)
      ·
       intro vf pf hR
       have e5 : (vf 5) = .bool true ∧ (pf 5) = [] := hR 5 (by decide)
       refine Or.inl ⟨want_of (congrArg some e5.1) rfl, ?_⟩
       refine rq_less (sx 9 rfl (sub_nil _)) (List.sublist_append_right _ _) ?_
       exact rq_v (rv_ev rfl)
      ·
       intro vf pf hR
       have e5 : (vf 5) = .bool true ∧ (pf 5) = [] := hR 5 (by decide)
       refine Or.inl ⟨want_of (congrArg some e5.1) rfl, ?_⟩
       refine rq_less (sx 13 rfl (sub_nil _)) (List.sublist_append_right _ _) ?_
       exact rq_v (rv_ev rfl)
      ·
       intro vf pf hR
       have e5 : (vf 5) = .bool true ∧ (pf 5) = [] := hR 5 (by decide)
       have e6 : (vf 6) = v1 ∧ (pf 6) = [] := hR 6 (by decide)
       have e7 : (vf 7) = .int .i64 (((g.so.getD ((x).toNat) ir0).xs).getD j 0) ∧ (pf 7) = [] := hR 7 (by decide)
       refine Or.inl ⟨want_of (congrArg some e5.1) rfl, ?_⟩
       refine rq_less (sx 56 (congrArg some e6.1) (sx 57 (congrArg some e7.1) (sub_nil _))) (List.sublist_append_right _ _) ?_
       exact rq_v (rv_index (s := 1) rfl Try.underlying26 (by kernel_rfl) rfl rfl (rd_row 1 rfl) (by omega) (by first | omega | (simp only [List.length_set]; omega)))
      ·
       intro vf pf hR
       have e5 : (vf 5) = .bool true ∧ (pf 5) = [] := hR 5 (by decide)
       have e8 : (vf 8) = elP v1 ((((g.so.getD ((x).toNat) ir0).xs).getD j 0).toNat * 1) ∧ (pf 8) = [] := hR 8 (by decide)
       refine Or.inl ⟨want_of (congrArg some e5.1) rfl, ?_⟩
       refine rq_less (sx 58 (congrArg some e8.1) (sub_nil _)) (List.sublist_append_right _ _) ?_
       exact rq_v (rv_loadEl (u := .int .i64 (D.getD ((((g.so.getD ((x).toNat) ir0).xs).getD j 0).toNat) 0)) rfl (by kernel_rfl) rfl (rd_row 1 rfl) (ints_at1 (show _ < D.length by first | omega | (simp only [List.length_set]; omega))))
      ·
       intro vf pf hR
       have e5 : (vf 5) = .bool true ∧ (pf 5) = [] := hR 5 (by decide)
       refine Or.inl ⟨want_of (congrArg some e5.1) rfl, ?_⟩
       refine rq_less (sx 1 rfl (sub_nil _)) (List.sublist_append_right _ _) ?_
       exact rq_v (rv_ev rfl)
      ·
       intro vf pf hR
       have e5 : (vf 5) = .bool true ∧ (pf 5) = [] := hR 5 (by decide)
       refine Or.inl ⟨want_of (congrArg some e5.1) rfl, ?_⟩
       refine rq_less (sx 11 rfl (sub_nil _)) (List.sublist_append_right _ _) ?_
       exact rq_v (rv_ev rfl)
      ·
       intro vf pf hR
       have e5 : (vf 5) = .bool true ∧ (pf 5) = [] := hR 5 (by decide)
       have e10 : (vf 10) = cv ∧ (pf 10) = [] := hR 10 (by decide)
       have e11 : (vf 11) = .int .i64 x ∧ (pf 11) = [] := hR 11 (by decide)
       refine Or.inl ⟨want_of (congrArg some e5.1) rfl, ?_⟩
       refine rq_less (sx 60 (congrArg some e10.1) (sx 61 (congrArg some e11.1) (sub_nil _))) (List.sublist_append_right _ _) ?_
       exact rq_v (rv_index (s := 1) rfl Try.underlying26 (by kernel_rfl) rfl rfl (rd_old hcv) (by omega) (by first | omega | (simp only [List.length_set]; omega)))
      ·
       intro vf pf hR
       have e5 : (vf 5) = .bool true ∧ (pf 5) = [] := hR 5 (by decide)
       have e12 : (vf 12) = elP cv ((x).toNat * 1) ∧ (pf 12) = [] := hR 12 (by decide)
       refine Or.inl ⟨want_of (congrArg some e5.1) rfl, ?_⟩
       refine rq_less (sx 62 (congrArg some e12.1) (sub_nil _)) (List.sublist_append_right _ _) ?_
       exact rq_v (rv_loadEl (u := .int .i64 (cs.getD ((x).toNat) 0)) rfl (by kernel_rfl) rfl (rd_old hcv) (ints_at1 (show _ < cs.length by first | omega | (simp only [List.length_set]; omega))))
      ·
       intro vf pf hR
       have e5 : (vf 5) = .bool true ∧ (pf 5) = [] := hR 5 (by decide)
       have e9 : (vf 9) = .int .i64 (D.getD ((((g.so.getD ((x).toNat) ir0).xs).getD j 0).toNat) 0) ∧ (pf 9) = [] := hR 9 (by decide)
       have e13 : (vf 13) = .int .i64 (cs.getD ((x).toNat) 0) ∧ (pf 13) = [] := hR 13 (by decide)
       refine Or.inl ⟨want_of (congrArg some e5.1) rfl, ?_⟩
       refine rq_less (sx 59 (congrArg some e9.1) (sx 63 (congrArg some e13.1) (sub_nil _))) (List.sublist_append_right _ _) ?_
       exact rq_v (rv_add rfl rfl rfl (by constructor <;> omega))
      ·
       intro vf pf hR
       have e5 : (vf 5) = .bool true ∧ (pf 5) = [] := hR 5 (by decide)
       refine Or.inl ⟨want_of (congrArg some e5.1) rfl, ?_⟩
       refine rq_less (sx 9 rfl (sub_nil _)) (List.sublist_append_right _ _) ?_
       exact rq_v (rv_ev rfl)
      ·
       intro vf pf hR
       have e5 : (vf 5) = .bool true ∧ (pf 5) = [] := hR 5 (by decide)
       refine Or.inl ⟨want_of (congrArg some e5.1) rfl, ?_⟩
       refine rq_less (sx 11 rfl (sub_nil _)) (List.sublist_append_right _ _) ?_
       exact rq_v (rv_ev rfl)
      ·
       intro vf pf hR
       have e5 : (vf 5) = .bool true ∧ (pf 5) = [] := hR 5 (by decide)
       have e15 : (vf 15) = v1 ∧ (pf 15) = [] := hR 15 (by decide)
       have e16 : (vf 16) = .int .i64 x ∧ (pf 16) = [] := hR 16 (by decide)
       refine Or.inl ⟨want_of (congrArg some e5.1) rfl, ?_⟩
       refine rq_less (sx 65 (congrArg some e15.1) (sx 66 (congrArg some e16.1) (sub_nil _))) (List.sublist_append_right _ _) ?_
       exact rq_v (rv_index (s := 1) rfl Try.underlying26 (by kernel_rfl) rfl rfl (rd_row 1 rfl) (by omega) (by first | omega | (simp only [List.length_set]; omega)))
      ·
       intro vf pf hR
       have e5 : (vf 5) = .bool true ∧ (pf 5) = [] := hR 5 (by decide)
       have e17 : (vf 17) = elP v1 ((x).toNat * 1) ∧ (pf 17) = [] := hR 17 (by decide)
       refine Or.inl ⟨want_of (congrArg some e5.1) rfl, ?_⟩
       refine rq_less (sx 67 (congrArg some e17.1) (sub_nil _)) (List.sublist_append_right _ _) ?_
       exact rq_v (rv_loadEl (u := .int .i64 (D.getD ((x).toNat) 0)) rfl (by kernel_rfl) rfl (rd_row 1 rfl) (ints_at1 (show _ < D.length by first | omega | (simp only [List.length_set]; omega))))
      ·
       intro vf pf hR
       have e5 : (vf 5) = .bool true ∧ (pf 5) = [] := hR 5 (by decide)
       have e14 : (vf 14) = .int .i64 ((D.getD ((((g.so.getD ((x).toNat) ir0).xs).getD j 0).toNat) 0) + (cs.getD ((x).toNat) 0)) ∧ (pf 14) = [] := hR 14 (by decide)
       have e18 : (vf 18) = .int .i64 (D.getD ((x).toNat) 0) ∧ (pf 18) = [] := hR 18 (by decide)
       refine Or.inl ⟨want_of (congrArg some e5.1) rfl, ?_⟩
       refine rq_less (sx 64 (congrArg some e14.1) (sx 68 (congrArg some e18.1) (sub_nil _))) (List.sublist_append_right _ _) ?_
       exact rq_mono (rq_v (rv_cmp rfl rfl rfl rfl)) (fun _ _ h => ⟨h.1.trans (congrArg Value.bool hb12), h.2⟩)
      ·
       intro vf pf hR
       have e5 : (vf 5) = .bool true ∧ (pf 5) = [] := hR 5 (by decide)
       have e19 : (vf 19) = .bool true ∧ (pf 19) = [] := hR 19 (by decide)
       refine Or.inl ⟨rfl, ?_⟩
       refine rq_less (sx 55 (congrArg some e5.1) (sx 69 (congrArg some e19.1) (sub_nil _))) (List.sublist_append_right _ _) ?_
       exact rq_v (rv_ev rfl)
     ·
      intro vf pf hR
      have e20 : (vf 20) = .bool true ∧ (pf 20) = [] := hR 20 (by decide)
      refine hl_less (l' := [rowE 3 1 u xs.length (xs.map (Value.int .i64)), rowE 3 1 v1 D.length (D.map (Value.int .i64))]) (sx 0 rfl (sx 1 rfl (sx 2 rfl (sx 3 rfl (sx 8 rfl (sx 9 rfl (sx 10 rfl (sx 11 rfl (sx 13 rfl (sx 30 rfl (sx 37 rfl (sx 44 rfl (sx 45 rfl (sx 46 rfl (sx 47 rfl (sx 70 (congrArg some e20.1) (sub_nil _))))))))))))))))) (List.sublist_append_right _ _) ?_
      simp only [List.drop_succ_cons, List.drop_zero]
      refine hl_less (sx 0 rfl (sx 1 rfl (sx 2 rfl (sx 3 rfl (sx 8 rfl (sx 9 rfl (sx 10 rfl (sx 11 rfl (sx 13 rfl (sx 30 rfl (sx 37 rfl (sx 44 rfl (sx 45 rfl (sx 46 rfl (sx 47 rfl (sx 70 rfl (sub_nil _))))))))))))))))) (.refl _) ?_
      refine hl_nil ?_
      refine hq_then ?_
      refine hc_true rfl ?_
      refine hc_seq ?_
      refine hc_region ?_
      refine hl_v rfl rfl rfl (rv_ev rfl) ?_
      refine hl_v rfl rfl rfl (rv_ev rfl) ?_
      refine hl_less (sx 0 rfl (sx 1 rfl (sx 2 rfl (sx 3 rfl (sx 8 rfl (sx 9 rfl (sx 10 rfl (sx 11 rfl (sx 13 rfl (sx 30 rfl (sx 37 rfl (sx 44 rfl (sx 45 rfl (sx 46 rfl (sx 47 rfl (sx 70 rfl (sub_nil _))))))))))))))))) (.refl _) ?_
      refine hl_nil ?_
      refine hq_then ?_
      refine hc_exit ?_
      refine hq_block_past rfl ?_
      refine hq_then_exit ?_
      refine hq_then_exit ?_
      refine hq_block_exit ?_
      refine hq_then ?_
      refine hc_region ?_
      refine hl_v rfl rfl rfl (rv_ev rfl) ?_
      refine hl_row rfl rfl rfl (rq_buildSlice (z := .int .i64 0) (s := 1) (cs := ([((g.so.getD ((x).toNat) ir0).xs).getD j 0].map (Value.int .i64))) rfl Try.underlying26 (by kernel_rfl) (by decide) rfl (by kernel_rfl) rfl) ?_
      intro g13
      refine hl_v rfl rfl rfl (rv_ev rfl) ?_
      refine hl_append (i := 0) (z := .int .i64 0) (bytes := 8) (n' := (([((g.so.getD ((x).toNat) ir0).xs).getD j 0]) ++ xs).length) (xs' := ((([((g.so.getD ((x).toNat) ir0).xs).getD j 0]) ++ xs).map (Value.int .i64))) (L := fun v14 => [rowE 3 1 v14 ((([((g.so.getD ((x).toNat) ir0).xs).getD j 0]) ++ xs).length) ((([((g.so.getD ((x).toNat) ir0).xs).getD j 0]) ++ xs).map (Value.int .i64)), rowE 3 1 u xs.length (xs.map (Value.int .i64)), rowE 3 1 v1 D.length (D.map (Value.int .i64))]) rfl rfl rfl rfl Try.underlying26 (by kernel_rfl) (by kernel_rfl) rfl rfl rfl (rd_row 1 rfl) (ints_one _) (by first | omega | (simp; omega)) (len_app ([((g.so.getD ((x).toNat) ir0).xs).getD j 0]) xs) (ints_app ([((g.so.getD ((x).toNat) ir0).xs).getD j 0]) xs) (fun _ => rfl) ?_
      intro v14
      refine hl_v rfl rfl rfl (rv_ev rfl) ?_
      refine hl_less (sx 0 rfl (sx 1 rfl (sx 2 rfl (sx 3 rfl (sx 8 rfl (sx 9 rfl (sx 10 rfl (sx 11 rfl (sx 13 rfl (sx 30 rfl (sx 37 rfl (sx 44 rfl (sx 45 rfl (sx 46 rfl (sx 47 rfl (sx 70 rfl (sub_nil _))))))))))))))))) (.refl _) ?_
      refine hl_nil ?_
      refine hq_block_normal ?_
      exact hq_round3 (((g.so.getD ((x).toNat) ir0).xs).getD j 0) v14 (([((g.so.getD ((x).toNat) ir0).xs).getD j 0]) ++ xs) ⟨hyr, hcp.more hxn hym hyr.1 (by omega) (by unfold gI; omega) (by unfold gI; omega) (by unfold gI; omega)⟩ (by unfold gI; omega) (sx 0 rfl (sx 1 rfl (sx 2 rfl (sx 3 rfl (sx 8 rfl (sx 9 rfl (sx 10 rfl (sx 11 rfl (sx 30 rfl (sub_nil _)))))))))) ((.cons_cons _ (.cons _ (.cons_cons _ .slnil))))
    ·
     have hb12p : (D.getD ((((g.so.getD ((x).toNat) ir0).xs).getD j 0).toNat) 0) + (cs.getD ((x).toNat) 0) ≠ D.getD ((x).toNat) 0 := beq_eq_false_iff_ne.1 hb12
     have hym : (((g.so.getD ((x).toNat) ir0).xs).getD j 0) ∈ srcI d x := by rw [← hsn]; exact getD_memZ (by omega)
     have hyr := src_rng hym
     have hyd := hD.rng (((g.so.getD ((x).toNat) ir0).xs).getD j 0) hyr.1 (by omega)
     have hyd2 : D.getD (((g.so.getD ((x).toNat) ir0).xs).getD j 0).toNat 0 = -1 ∨ (0 ≤ D.getD (((g.so.getD ((x).toNat) ir0).xs).getD j 0).toNat 0 ∧ D.getD (((g.so.getD ((x).toNat) ir0).xs).getD j 0).toNat 0 ≤ 100000 * (cs.length : Int)) := hyd
     refine hc_draw (by kernel_rfl) 21 [0, 1, 2, 3, 4, 5, 6, 7, 8, 9, 10, 11, 12, 13, 14, 15, 16, 17, 18, 19, 20] (List.take 21 _) (List.drop 21 _) [[], [], [0, 1], [2], [3], [4], [5], [5], [5, 6, 7], [5, 8], [5], [5], [5, 10, 11], [5, 12], [5, 9, 13], [5], [5], [5, 15, 16], [5, 17], [5, 14, 18], [5, 19]] [50, 51, 52, 53, 54, 55, 56, 57, 58, 59, 60, 61, 62, 63, 64, 65, 66, 67, 68, 69, 70] (fun i_ vs_ v_ p_ => match i_ with | 0 => v_ = v1 ∧ p_ = [] | 1 => v_ = .int .i64 (((g.so.getD ((x).toNat) ir0).xs).getD j 0) ∧ p_ = [] | 2 => v_ = elP v1 ((((g.so.getD ((x).toNat) ir0).xs).getD j 0).toNat * 1) ∧ p_ = [] | 3 => v_ = .int .i64 (D.getD ((((g.so.getD ((x).toNat) ir0).xs).getD j 0).toNat) 0) ∧ p_ = [] | 4 => v_ = .bool true ∧ p_ = [] | 5 => v_ = .bool true ∧ p_ = [] | 6 => v_ = v1 ∧ p_ = [] | 7 => v_ = .int .i64 (((g.so.getD ((x).toNat) ir0).xs).getD j 0) ∧ p_ = [] | 8 => v_ = elP v1 ((((g.so.getD ((x).toNat) ir0).xs).getD j 0).toNat * 1) ∧ p_ = [] | 9 => v_ = .int .i64 (D.getD ((((g.so.getD ((x).toNat) ir0).xs).getD j 0).toNat) 0) ∧ p_ = [] | 10 => v_ = cv ∧ p_ = [] | 11 => v_ = .int .i64 x ∧ p_ = [] | 12 => v_ = elP cv ((x).toNat * 1) ∧ p_ = [] | 13 => v_ = .int .i64 (cs.getD ((x).toNat) 0) ∧ p_ = [] | 14 => v_ = .int .i64 ((D.getD ((((g.so.getD ((x).toNat) ir0).xs).getD j 0).toNat) 0) + (cs.getD ((x).toNat) 0)) ∧ p_ = [] | 15 => v_ = v1 ∧ p_ = [] | 16 => v_ = .int .i64 x ∧ p_ = [] | 17 => v_ = elP v1 ((x).toNat * 1) ∧ p_ = [] | 18 => v_ = .int .i64 (D.getD ((x).toNat) 0) ∧ p_ = [] | 19 => v_ = .bool false ∧ p_ = [] | 20 => v_ = .bool false ∧ p_ = [] | _ => True) (List.take_append_drop 21 _).symm (by kernel_rfl) (by kernel_rfl) rfl rfl ?_ ?_
     ·
      refine ⟨?_, ?_, ?_, ?_, ?_, ?_, ?_, ?_, ?_, ?_, ?_, ?_, ?_, ?_, ?_, ?_, ?_, ?_, ?_, ?_, ?_, trivial⟩
      ·
       intro vf pf hR
       refine Or.inl ⟨rfl, ?_⟩
       refine rq_less (sx 9 rfl (sub_nil _)) (List.sublist_append_right _ _) ?_
       exact rq_v (rv_ev rfl)
      ·
       intro vf pf hR
       refine Or.inl ⟨rfl, ?_⟩
       refine rq_less (sx 13 rfl (sub_nil _)) (List.sublist_append_right _ _) ?_
       exact rq_v (rv_ev rfl)
      ·
       intro vf pf hR
       have e0 : (vf 0) = v1 ∧ (pf 0) = [] := hR 0 (by decide)
       have e1 : (vf 1) = .int .i64 (((g.so.getD ((x).toNat) ir0).xs).getD j 0) ∧ (pf 1) = [] := hR 1 (by decide)
       refine Or.inl ⟨rfl, ?_⟩
       refine rq_less (sx 50 (congrArg some e0.1) (sx 51 (congrArg some e1.1) (sub_nil _))) (List.sublist_append_right _ _) ?_
       exact rq_v (rv_index (s := 1) rfl Try.underlying26 (by kernel_rfl) rfl rfl (rd_row 1 rfl) (by omega) (by first | omega | (simp only [List.length_set]; omega)))
      ·
       intro vf pf hR
       have e2 : (vf 2) = elP v1 ((((g.so.getD ((x).toNat) ir0).xs).getD j 0).toNat * 1) ∧ (pf 2) = [] := hR 2 (by decide)
       refine Or.inl ⟨rfl, ?_⟩
       refine rq_less (sx 52 (congrArg some e2.1) (sub_nil _)) (List.sublist_append_right _ _) ?_
       exact rq_v (rv_loadEl (u := .int .i64 (D.getD ((((g.so.getD ((x).toNat) ir0).xs).getD j 0).toNat) 0)) rfl (by kernel_rfl) rfl (rd_row 1 rfl) (ints_at1 (show _ < D.length by first | omega | (simp only [List.length_set]; omega))))
      ·
       intro vf pf hR
       have e3 : (vf 3) = .int .i64 (D.getD ((((g.so.getD ((x).toNat) ir0).xs).getD j 0).toNat) 0) ∧ (pf 3) = [] := hR 3 (by decide)
       refine Or.inl ⟨rfl, ?_⟩
       refine rq_less (sx 53 (congrArg some e3.1) (sub_nil _)) (List.sublist_append_right _ _) ?_
       exact rq_mono (rq_v (rv_cmp rfl rfl rfl rfl)) (fun _ _ h => ⟨h.1.trans (congrArg Value.bool hb11), h.2⟩)
      ·
       intro vf pf hR
       have e4 : (vf 4) = .bool true ∧ (pf 4) = [] := hR 4 (by decide)
       refine Or.inl ⟨rfl, ?_⟩
       refine rq_less (sx 54 (congrArg some e4.1) (sub_nil _)) (List.sublist_append_right _ _) ?_
       exact rq_v (rv_ev rfl)
      ·
       intro vf pf hR
       have e5 : (vf 5) = .bool true ∧ (pf 5) = [] := hR 5 (by decide)
       refine Or.inl ⟨want_of (congrArg some e5.1) rfl, ?_⟩
       refine rq_less (sx 9 rfl (sub_nil _)) (List.sublist_append_right _ _) ?_
       exact rq_v (rv_ev rfl)
      ·
       intro vf pf hR
       have e5 : (vf 5) = .bool true ∧ (pf 5) = [] := hR 5 (by decide)
       refine Or.inl ⟨want_of (congrArg some e5.1) rfl, ?_⟩
       refine rq_less (sx 13 rfl (sub_nil _)) (List.sublist_append_right _ _) ?_
       exact rq_v (rv_ev rfl)
      ·
       intro vf pf hR
       have e5 : (vf 5) = .bool true ∧ (pf 5) = [] := hR 5 (by decide)
       have e6 : (vf 6) = v1 ∧ (pf 6) = [] := hR 6 (by decide)
       have e7 : (vf 7) = .int .i64 (((g.so.getD ((x).toNat) ir0).xs).getD j 0) ∧ (pf 7) = [] := hR 7 (by decide)
       refine Or.inl ⟨want_of (congrArg some e5.1) rfl, ?_⟩
       refine rq_less (sx 56 (congrArg some e6.1) (sx 57 (congrArg some e7.1) (sub_nil _))) (List.sublist_append_right _ _) ?_
       exact rq_v (rv_index (s := 1) rfl Try.underlying26 (by kernel_rfl) rfl rfl (rd_row 1 rfl) (by omega) (by first | omega | (simp only [List.length_set]; omega)))
      ·
       intro vf pf hR
       have e5 : (vf 5) = .bool true ∧ (pf 5) = [] := hR 5 (by decide)
       have e8 : (vf 8) = elP v1 ((((g.so.getD ((x).toNat) ir0).xs).getD j 0).toNat * 1) ∧ (pf 8) = [] := hR 8 (by decide)
       refine Or.inl ⟨want_of (congrArg some e5.1) rfl, ?_⟩
       refine rq_less (sx 58 (congrArg some e8.1) (sub_nil _)) (List.sublist_append_right _ _) ?_
       exact rq_v (rv_loadEl (u := .int .i64 (D.getD ((((g.so.getD ((x).toNat) ir0).xs).getD j 0).toNat) 0)) rfl (by kernel_rfl) rfl (rd_row 1 rfl) (ints_at1 (show _ < D.length by first | omega | (simp only [List.length_set]; omega))))
      ·
       intro vf pf hR
       have e5 : (vf 5) = .bool true ∧ (pf 5) = [] := hR 5 (by decide)
       refine Or.inl ⟨want_of (congrArg some e5.1) rfl, ?_⟩
       refine rq_less (sx 1 rfl (sub_nil _)) (List.sublist_append_right _ _) ?_
       exact rq_v (rv_ev rfl)
      ·
       intro vf pf hR
       have e5 : (vf 5) = .bool true ∧ (pf 5) = [] := hR 5 (by decide)
       refine Or.inl ⟨want_of (congrArg some e5.1) rfl, ?_⟩
       refine rq_less (sx 11 rfl (sub_nil _)) (List.sublist_append_right _ _) ?_
       exact rq_v (rv_ev rfl)
      ·
       intro vf pf hR
       have e5 : (vf 5) = .bool true ∧ (pf 5) = [] := hR 5 (by decide)
       have e10 : (vf 10) = cv ∧ (pf 10) = [] := hR 10 (by decide)
       have e11 : (vf 11) = .int .i64 x ∧ (pf 11) = [] := hR 11 (by decide)
       refine Or.inl ⟨want_of (congrArg some e5.1) rfl, ?_⟩
       refine rq_less (sx 60 (congrArg some e10.1) (sx 61 (congrArg some e11.1) (sub_nil _))) (List.sublist_append_right _ _) ?_
       exact rq_v (rv_index (s := 1) rfl Try.underlying26 (by kernel_rfl) rfl rfl (rd_old hcv) (by omega) (by first | omega | (simp only [List.length_set]; omega)))
      ·
       intro vf pf hR
       have e5 : (vf 5) = .bool true ∧ (pf 5) = [] := hR 5 (by decide)
       have e12 : (vf 12) = elP cv ((x).toNat * 1) ∧ (pf 12) = [] := hR 12 (by decide)
       refine Or.inl ⟨want_of (congrArg some e5.1) rfl, ?_⟩
       refine rq_less (sx 62 (congrArg some e12.1) (sub_nil _)) (List.sublist_append_right _ _) ?_
       exact rq_v (rv_loadEl (u := .int .i64 (cs.getD ((x).toNat) 0)) rfl (by kernel_rfl) rfl (rd_old hcv) (ints_at1 (show _ < cs.length by first | omega | (simp only [List.length_set]; omega))))
      ·
       intro vf pf hR
       have e5 : (vf 5) = .bool true ∧ (pf 5) = [] := hR 5 (by decide)
       have e9 : (vf 9) = .int .i64 (D.getD ((((g.so.getD ((x).toNat) ir0).xs).getD j 0).toNat) 0) ∧ (pf 9) = [] := hR 9 (by decide)
       have e13 : (vf 13) = .int .i64 (cs.getD ((x).toNat) 0) ∧ (pf 13) = [] := hR 13 (by decide)
       refine Or.inl ⟨want_of (congrArg some e5.1) rfl, ?_⟩
       refine rq_less (sx 59 (congrArg some e9.1) (sx 63 (congrArg some e13.1) (sub_nil _))) (List.sublist_append_right _ _) ?_
       exact rq_v (rv_add rfl rfl rfl (by constructor <;> omega))
      ·
       intro vf pf hR
       have e5 : (vf 5) = .bool true ∧ (pf 5) = [] := hR 5 (by decide)
       refine Or.inl ⟨want_of (congrArg some e5.1) rfl, ?_⟩
       refine rq_less (sx 9 rfl (sub_nil _)) (List.sublist_append_right _ _) ?_
       exact rq_v (rv_ev rfl)
      ·
       intro vf pf hR
       have e5 : (vf 5) = .bool true ∧ (pf 5) = [] := hR 5 (by decide)
       refine Or.inl ⟨want_of (congrArg some e5.1) rfl, ?_⟩
       refine rq_less (sx 11 rfl (sub_nil _)) (List.sublist_append_right _ _) ?_
       exact rq_v (rv_ev rfl)
      ·
       intro vf pf hR
       have e5 : (vf 5) = .bool true ∧ (pf 5) = [] := hR 5 (by decide)
       have e15 : (vf 15) = v1 ∧ (pf 15) = [] := hR 15 (by decide)
       have e16 : (vf 16) = .int .i64 x ∧ (pf 16) = [] := hR 16 (by decide)
       refine Or.inl ⟨want_of (congrArg some e5.1) rfl, ?_⟩
       refine rq_less (sx 65 (congrArg some e15.1) (sx 66 (congrArg some e16.1) (sub_nil _))) (List.sublist_append_right _ _) ?_
       exact rq_v (rv_index (s := 1) rfl Try.underlying26 (by kernel_rfl) rfl rfl (rd_row 1 rfl) (by omega) (by first | omega | (simp only [List.length_set]; omega)))
      ·
       intro vf pf hR
       have e5 : (vf 5) = .bool true ∧ (pf 5) = [] := hR 5 (by decide)
       have e17 : (vf 17) = elP v1 ((x).toNat * 1) ∧ (pf 17) = [] := hR 17 (by decide)
       refine Or.inl ⟨want_of (congrArg some e5.1) rfl, ?_⟩
       refine rq_less (sx 67 (congrArg some e17.1) (sub_nil _)) (List.sublist_append_right _ _) ?_
       exact rq_v (rv_loadEl (u := .int .i64 (D.getD ((x).toNat) 0)) rfl (by kernel_rfl) rfl (rd_row 1 rfl) (ints_at1 (show _ < D.length by first | omega | (simp only [List.length_set]; omega))))
      ·
       intro vf pf hR
       have e5 : (vf 5) = .bool true ∧ (pf 5) = [] := hR 5 (by decide)
       have e14 : (vf 14) = .int .i64 ((D.getD ((((g.so.getD ((x).toNat) ir0).xs).getD j 0).toNat) 0) + (cs.getD ((x).toNat) 0)) ∧ (pf 14) = [] := hR 14 (by decide)
       have e18 : (vf 18) = .int .i64 (D.getD ((x).toNat) 0) ∧ (pf 18) = [] := hR 18 (by decide)
       refine Or.inl ⟨want_of (congrArg some e5.1) rfl, ?_⟩
       refine rq_less (sx 64 (congrArg some e14.1) (sx 68 (congrArg some e18.1) (sub_nil _))) (List.sublist_append_right _ _) ?_
       exact rq_mono (rq_v (rv_cmp rfl rfl rfl rfl)) (fun _ _ h => ⟨h.1.trans (congrArg Value.bool hb12), h.2⟩)
      ·
       intro vf pf hR
       have e5 : (vf 5) = .bool true ∧ (pf 5) = [] := hR 5 (by decide)
       have e19 : (vf 19) = .bool false ∧ (pf 19) = [] := hR 19 (by decide)
       refine Or.inl ⟨rfl, ?_⟩
       refine rq_less (sx 55 (congrArg some e5.1) (sx 69 (congrArg some e19.1) (sub_nil _))) (List.sublist_append_right _ _) ?_
       exact rq_v (rv_ev rfl)
     ·
      intro vf pf hR
      have e20 : (vf 20) = .bool false ∧ (pf 20) = [] := hR 20 (by decide)
      refine hl_less (l' := [rowE 3 1 u xs.length (xs.map (Value.int .i64)), rowE 3 1 v1 D.length (D.map (Value.int .i64))]) (sx 0 rfl (sx 1 rfl (sx 2 rfl (sx 3 rfl (sx 8 rfl (sx 9 rfl (sx 10 rfl (sx 11 rfl (sx 13 rfl (sx 30 rfl (sx 37 rfl (sx 44 rfl (sx 45 rfl (sx 46 rfl (sx 47 rfl (sx 70 (congrArg some e20.1) (sub_nil _))))))))))))))))) (List.sublist_append_right _ _) ?_
      simp only [List.drop_succ_cons, List.drop_zero]
      refine hl_less (sx 0 rfl (sx 1 rfl (sx 2 rfl (sx 3 rfl (sx 8 rfl (sx 9 rfl (sx 10 rfl (sx 11 rfl (sx 13 rfl (sx 30 rfl (sx 37 rfl (sx 44 rfl (sx 45 rfl (sx 46 rfl (sx 47 rfl (sx 70 rfl (sub_nil _))))))))))))))))) (.refl _) ?_
      refine hl_nil ?_
      refine hq_then ?_
      refine hc_false rfl ?_
      refine hc_skip ?_
      refine hq_block_normal ?_
      refine hq_then ?_
      refine hc_region ?_
      refine hl_v rfl rfl rfl (rv_add rfl rfl rfl (by constructor <;> omega)) ?_
      refine hl_v rfl rfl rfl (rv_ev rfl) ?_
      refine hl_less (sx 0 rfl (sx 1 rfl (sx 2 rfl (sx 3 rfl (sx 8 rfl (sx 9 rfl (sx 10 rfl (sx 11 rfl (sx 13 rfl (sx 30 rfl (sx 37 rfl (sx 44 rfl (sx 45 rfl (sx 46 rfl (sx 47 rfl (sx 70 rfl (sub_nil _))))))))))))))))) (.refl _) ?_
      refine hl_nil ?_
      exact hq_round1 (j + 1) ⟨by omega, fun i hi => by by_cases hij : i = j; (subst hij; omega); exact hno i (by omega)⟩ (by omega) (sx 0 rfl (sx 1 rfl (sx 2 rfl (sx 3 rfl (sx 8 rfl (sx 9 rfl (sx 10 rfl (sx 11 rfl (sx 30 rfl (sx 37 rfl (sx 44 rfl (sx 45 rfl (sx 46 rfl (sub_nil _)))))))))))))) ((.cons_cons _ (.cons_cons _ .slnil)))
   ·
    have hb11p : D.getD ((((g.so.getD ((x).toNat) ir0).xs).getD j 0).toNat) 0 = -1 := by simpa using hb11
    have hym : (((g.so.getD ((x).toNat) ir0).xs).getD j 0) ∈ srcI d x := by rw [← hsn]; exact getD_memZ (by omega)
    have hyr := src_rng hym
    have hyd := hD.rng (((g.so.getD ((x).toNat) ir0).xs).getD j 0) hyr.1 (by omega)
    have hyd2 : D.getD (((g.so.getD ((x).toNat) ir0).xs).getD j 0).toNat 0 = -1 ∨ (0 ≤ D.getD (((g.so.getD ((x).toNat) ir0).xs).getD j 0).toNat 0 ∧ D.getD (((g.so.getD ((x).toNat) ir0).xs).getD j 0).toNat 0 ≤ 100000 * (cs.length : Int)) := hyd
    refine hc_draw (by kernel_rfl) 21 [0, 1, 2, 3, 4, 5, 6, 7, 8, 9, 10, 11, 12, 13, 14, 15, 16, 17, 18, 19, 20] (List.take 21 _) (List.drop 21 _) [[], [], [0, 1], [2], [3], [4], [5], [5], [5], [5], [5], [5], [5], [5], [5], [5], [5], [5], [5], [5], [5, 19]] [50, 51, 52, 53, 54, 55, 56, 57, 58, 59, 60, 61, 62, 63, 64, 65, 66, 67, 68, 69, 70] (fun i_ vs_ v_ p_ => match i_ with | 0 => v_ = v1 ∧ p_ = [] | 1 => v_ = .int .i64 (((g.so.getD ((x).toNat) ir0).xs).getD j 0) ∧ p_ = [] | 2 => v_ = elP v1 ((((g.so.getD ((x).toNat) ir0).xs).getD j 0).toNat * 1) ∧ p_ = [] | 3 => v_ = .int .i64 (D.getD ((((g.so.getD ((x).toNat) ir0).xs).getD j 0).toNat) 0) ∧ p_ = [] | 4 => v_ = .bool false ∧ p_ = [] | 5 => v_ = .bool false ∧ p_ = [] | 6 => v_ = undef ∧ p_ = [] | 7 => v_ = undef ∧ p_ = [] | 8 => v_ = undef ∧ p_ = [] | 9 => v_ = undef ∧ p_ = [] | 10 => v_ = undef ∧ p_ = [] | 11 => v_ = undef ∧ p_ = [] | 12 => v_ = undef ∧ p_ = [] | 13 => v_ = undef ∧ p_ = [] | 14 => v_ = undef ∧ p_ = [] | 15 => v_ = undef ∧ p_ = [] | 16 => v_ = undef ∧ p_ = [] | 17 => v_ = undef ∧ p_ = [] | 18 => v_ = undef ∧ p_ = [] | 19 => v_ = undef ∧ p_ = [] | 20 => v_ = .bool false ∧ p_ = [] | _ => True) (List.take_append_drop 21 _).symm (by kernel_rfl) (by kernel_rfl) rfl rfl ?_ ?_
    ·
     refine ⟨?_, ?_, ?_, ?_, ?_, ?_, ?_, ?_, ?_, ?_, ?_, ?_, ?_, ?_, ?_, ?_, ?_, ?_, ?_, ?_, ?_, trivial⟩
     ·
      intro vf pf hR
      refine Or.inl ⟨rfl, ?_⟩
      refine rq_less (sx 9 rfl (sub_nil _)) (List.sublist_append_right _ _) ?_
      exact rq_v (rv_ev rfl)
     ·
      intro vf pf hR
      refine Or.inl ⟨rfl, ?_⟩
      refine rq_less (sx 13 rfl (sub_nil _)) (List.sublist_append_right _ _) ?_
      exact rq_v (rv_ev rfl)
     ·
      intro vf pf hR
      have e0 : (vf 0) = v1 ∧ (pf 0) = [] := hR 0 (by decide)
      have e1 : (vf 1) = .int .i64 (((g.so.getD ((x).toNat) ir0).xs).getD j 0) ∧ (pf 1) = [] := hR 1 (by decide)
      refine Or.inl ⟨rfl, ?_⟩
      refine rq_less (sx 50 (congrArg some e0.1) (sx 51 (congrArg some e1.1) (sub_nil _))) (List.sublist_append_right _ _) ?_
      exact rq_v (rv_index (s := 1) rfl Try.underlying26 (by kernel_rfl) rfl rfl (rd_row 1 rfl) (by omega) (by first | omega | (simp only [List.length_set]; omega)))
     ·
      intro vf pf hR
      have e2 : (vf 2) = elP v1 ((((g.so.getD ((x).toNat) ir0).xs).getD j 0).toNat * 1) ∧ (pf 2) = [] := hR 2 (by decide)
      refine Or.inl ⟨rfl, ?_⟩
      refine rq_less (sx 52 (congrArg some e2.1) (sub_nil _)) (List.sublist_append_right _ _) ?_
      exact rq_v (rv_loadEl (u := .int .i64 (D.getD ((((g.so.getD ((x).toNat) ir0).xs).getD j 0).toNat) 0)) rfl (by kernel_rfl) rfl (rd_row 1 rfl) (ints_at1 (show _ < D.length by first | omega | (simp only [List.length_set]; omega))))
     ·
      intro vf pf hR
      have e3 : (vf 3) = .int .i64 (D.getD ((((g.so.getD ((x).toNat) ir0).xs).getD j 0).toNat) 0) ∧ (pf 3) = [] := hR 3 (by decide)
      refine Or.inl ⟨rfl, ?_⟩
      refine rq_less (sx 53 (congrArg some e3.1) (sub_nil _)) (List.sublist_append_right _ _) ?_
      exact rq_mono (rq_v (rv_cmp rfl rfl rfl rfl)) (fun _ _ h => ⟨h.1.trans (congrArg Value.bool hb11), h.2⟩)
     ·
      intro vf pf hR
      have e4 : (vf 4) = .bool false ∧ (pf 4) = [] := hR 4 (by decide)
      refine Or.inl ⟨rfl, ?_⟩
      refine rq_less (sx 54 (congrArg some e4.1) (sub_nil _)) (List.sublist_append_right _ _) ?_
      exact rq_v (rv_ev rfl)
     ·
      intro vf pf hR
      have e5 : (vf 5) = .bool false ∧ (pf 5) = [] := hR 5 (by decide)
      exact Or.inr ⟨want_of (congrArg some e5.1) rfl, rfl, rfl⟩
     ·
      intro vf pf hR
      have e5 : (vf 5) = .bool false ∧ (pf 5) = [] := hR 5 (by decide)
      exact Or.inr ⟨want_of (congrArg some e5.1) rfl, rfl, rfl⟩
     ·
      intro vf pf hR
      have e5 : (vf 5) = .bool false ∧ (pf 5) = [] := hR 5 (by decide)
      exact Or.inr ⟨want_of (congrArg some e5.1) rfl, rfl, rfl⟩
     ·
      intro vf pf hR
      have e5 : (vf 5) = .bool false ∧ (pf 5) = [] := hR 5 (by decide)
      exact Or.inr ⟨want_of (congrArg some e5.1) rfl, rfl, rfl⟩
     ·
      intro vf pf hR
      have e5 : (vf 5) = .bool false ∧ (pf 5) = [] := hR 5 (by decide)
      exact Or.inr ⟨want_of (congrArg some e5.1) rfl, rfl, rfl⟩
     ·
      intro vf pf hR
      have e5 : (vf 5) = .bool false ∧ (pf 5) = [] := hR 5 (by decide)
      exact Or.inr ⟨want_of (congrArg some e5.1) rfl, rfl, rfl⟩
     ·
      intro vf pf hR
      have e5 : (vf 5) = .bool false ∧ (pf 5) = [] := hR 5 (by decide)
      exact Or.inr ⟨want_of (congrArg some e5.1) rfl, rfl, rfl⟩
     ·
      intro vf pf hR
      have e5 : (vf 5) = .bool false ∧ (pf 5) = [] := hR 5 (by decide)
      exact Or.inr ⟨want_of (congrArg some e5.1) rfl, rfl, rfl⟩
     ·
      intro vf pf hR
      have e5 : (vf 5) = .bool false ∧ (pf 5) = [] := hR 5 (by decide)
      exact Or.inr ⟨want_of (congrArg some e5.1) rfl, rfl, rfl⟩
     ·
      intro vf pf hR
      have e5 : (vf 5) = .bool false ∧ (pf 5) = [] := hR 5 (by decide)
      exact Or.inr ⟨want_of (congrArg some e5.1) rfl, rfl, rfl⟩
     ·
      intro vf pf hR
      have e5 : (vf 5) = .bool false ∧ (pf 5) = [] := hR 5 (by decide)
      exact Or.inr ⟨want_of (congrArg some e5.1) rfl, rfl, rfl⟩
     ·
      intro vf pf hR
      have e5 : (vf 5) = .bool false ∧ (pf 5) = [] := hR 5 (by decide)
      exact Or.inr ⟨want_of (congrArg some e5.1) rfl, rfl, rfl⟩
     ·
      intro vf pf hR
      have e5 : (vf 5) = .bool false ∧ (pf 5) = [] := hR 5 (by decide)
      exact Or.inr ⟨want_of (congrArg some e5.1) rfl, rfl, rfl⟩
     ·
      intro vf pf hR
      have e5 : (vf 5) = .bool false ∧ (pf 5) = [] := hR 5 (by decide)
      exact Or.inr ⟨want_of (congrArg some e5.1) rfl, rfl, rfl⟩
     ·
      intro vf pf hR
      have e5 : (vf 5) = .bool false ∧ (pf 5) = [] := hR 5 (by decide)
      have e19 : (vf 19) = undef ∧ (pf 19) = [] := hR 19 (by decide)
      refine Or.inl ⟨rfl, ?_⟩
      refine rq_less (sx 55 (congrArg some e5.1) (sx 69 (congrArg some e19.1) (sub_nil _))) (List.sublist_append_right _ _) ?_
      exact rq_v (rv_ev rfl)
    ·
     intro vf pf hR
     have e20 : (vf 20) = .bool false ∧ (pf 20) = [] := hR 20 (by decide)
     refine hl_less (l' := [rowE 3 1 u xs.length (xs.map (Value.int .i64)), rowE 3 1 v1 D.length (D.map (Value.int .i64))]) (sx 0 rfl (sx 1 rfl (sx 2 rfl (sx 3 rfl (sx 8 rfl (sx 9 rfl (sx 10 rfl (sx 11 rfl (sx 13 rfl (sx 30 rfl (sx 37 rfl (sx 44 rfl (sx 45 rfl (sx 46 rfl (sx 47 rfl (sx 70 (congrArg some e20.1) (sub_nil _))))))))))))))))) (List.sublist_append_right _ _) ?_
     simp only [List.drop_succ_cons, List.drop_zero]
     refine hl_less (sx 0 rfl (sx 1 rfl (sx 2 rfl (sx 3 rfl (sx 8 rfl (sx 9 rfl (sx 10 rfl (sx 11 rfl (sx 13 rfl (sx 30 rfl (sx 37 rfl (sx 44 rfl (sx 45 rfl (sx 46 rfl (sx 47 rfl (sx 70 rfl (sub_nil _))))))))))))))))) (.refl _) ?_
     refine hl_nil ?_
     refine hq_then ?_
     refine hc_false rfl ?_
     refine hc_skip ?_
     refine hq_block_normal ?_
     refine hq_then ?_
     refine hc_region ?_
     refine hl_v rfl rfl rfl (rv_add rfl rfl rfl (by constructor <;> omega)) ?_
     refine hl_v rfl rfl rfl (rv_ev rfl) ?_
     refine hl_less (sx 0 rfl (sx 1 rfl (sx 2 rfl (sx 3 rfl (sx 8 rfl (sx 9 rfl (sx 10 rfl (sx 11 rfl (sx 13 rfl (sx 30 rfl (sx 37 rfl (sx 44 rfl (sx 45 rfl (sx 46 rfl (sx 47 rfl (sx 70 rfl (sub_nil _))))))))))))))))) (.refl _) ?_
     refine hl_nil ?_
     exact hq_round1 (j + 1) ⟨by omega, fun i hi => by by_cases hij : i = j; (subst hij; omega); exact hno i (by omega)⟩ (by omega) (sx 0 rfl (sx 1 rfl (sx 2 rfl (sx 3 rfl (sx 8 rfl (sx 9 rfl (sx 10 rfl (sx 11 rfl (sx 30 rfl (sx 37 rfl (sx 44 rfl (sx 45 rfl (sx 46 rfl (sub_nil _)))))))))))))) ((.cons_cons _ (.cons_cons _ .slnil)))
  ·
   refine hl_less (sx 0 rfl (sx 1 rfl (sx 2 rfl (sx 3 rfl (sx 8 rfl (sx 9 rfl (sx 10 rfl (sx 11 rfl (sx 30 rfl (sx 37 rfl (sx 44 rfl (sx 45 rfl (sx 46 rfl (sx 47 rfl (sub_nil _))))))))))))))) (.refl _) ?_
   refine hl_nil ?_
   refine hq_then ?_
   refine hc_seq ?_
   refine hc_false rfl ?_
   refine hc_exit ?_
   refine hq_then_exit ?_
   refine hq_then_exit ?_
   refine hq_block_exit ?_
   refine hq_then ?_
   refine hc_region ?_
   refine hl_v rfl rfl rfl (rv_ev rfl) ?_
   refine hl_row rfl rfl rfl (rq_buildSlice (z := .int .i64 0) (s := 1) (cs := ([x].map (Value.int .i64))) rfl Try.underlying26 (by kernel_rfl) (by decide) rfl (by kernel_rfl) rfl) ?_
   intro g15
   refine hl_v rfl rfl rfl (rv_ev rfl) ?_
   refine hl_append (i := 0) (z := .int .i64 0) (bytes := 8) (n' := (([x]) ++ xs).length) (xs' := ((([x]) ++ xs).map (Value.int .i64))) (L := fun v16 => [rowE 3 1 v16 ((([x]) ++ xs).length) ((([x]) ++ xs).map (Value.int .i64)), rowE 3 1 u xs.length (xs.map (Value.int .i64)), rowE 3 1 v1 D.length (D.map (Value.int .i64))]) rfl rfl rfl rfl Try.underlying26 (by kernel_rfl) (by kernel_rfl) rfl rfl rfl (rd_row 1 rfl) (ints_one _) (by first | omega | (simp; omega)) (len_app ([x]) xs) (ints_app ([x]) xs) (fun _ => rfl) ?_
   intro v16
   refine hl_v rfl rfl rfl (rv_ev rfl) ?_
   refine hl_less (sx 0 rfl (sx 1 rfl (sx 2 rfl (sx 3 rfl (sx 8 rfl (sx 9 rfl (sx 10 rfl (sx 11 rfl (sx 30 rfl (sx 37 rfl (sx 44 rfl (sx 45 rfl (sx 46 rfl (sx 47 rfl (sub_nil _))))))))))))))) (.refl _) ?_
   refine hl_nil ?_
   refine hq_block_normal ?_
   exfalso
   obtain ⟨q9, hq9, h91, h92⟩ := hD.tig x hx0 (by omega) hxn hcp.pos
   obtain ⟨j9, hj9, e9⟩ := mem_getD hq9
   exact hno j9 (by rw [← hsn] at hj9; omega) (by rw [hsn, e9]; unfold gI at h91 h92; omega)
set_option maxHeartbeats 4000000 in
set_option maxRecDepth 100000 in
theorem PathCost_ans (d : Dev) (cs xs : List Int) (cv pv : Value) (w : World) (hd : devB d = true) (hcv : RdsW w cv 1 cs.length (cs.map (Value.int .i64))) (hcl : (cs.length : Int) = allI d) (hcr : ∀ k, k < cs.length → 1 ≤ cs.getD k 0 ∧ cs.getD k 0 ≤ 100000) (hpv : RdsW w pv 1 xs.length (xs.map (Value.int .i64))) (hxl : 1 ≤ xs.length ∧ xs.length ≤ 1000000000) (h0 : nodeOkI d (xs.getD 0 0) = true) (hch : ∀ k, k + 1 < xs.length → hasB (srcI d (xs.getD (k + 1) 0)) (xs.getD k 0) = true) :
  Calls Try.prog 28 #[.agg #[.int .i64 d.W, .int .i64 d.H, .int .i64 d.T, .int .i64 d.R], cv, pv] w (Ans w (.int .i64 (pcst cs xs (xs.length - 1)))) := by
 obtain ⟨ra1, ra2⟩ := all_rng hd
 refine calls_hc (N := 55) (args := [.agg #[.int .i64 d.W, .int .i64 d.H, .int .i64 d.T, .int .i64 d.R], cv, pv]) Try.func28 rfl rfl ?_
 refine hc_less _ (sx 0 rfl (sx 1 rfl (sx 2 rfl (sub_nil _)))) (.refl _) ?_
 refine hc_seq ?_
 refine hc_region ?_
 refine hl_box rfl rfl rfl (rq_box rfl rfl) ?_
 intro b1
 refine hl_v rfl rfl rfl (rv_ev rfl) ?_
 refine hl_less (sx 0 rfl (sx 1 rfl (sx 2 rfl (sx 3 rfl (sx 6 rfl (sub_nil _)))))) (.refl _) ?_
 refine hl_nil ?_
 refine hq_then ?_
 refine hc_seq ?_
 refine hc_seq ?_
 have hb2 : ((xs.length : Int) == 0) = false := beq_eq_false_iff_ne.2 (by omega)
 have hb3 : (nodeOkI d (xs.getD 0 0)) = true := h0
 refine hc_draw (by kernel_rfl) 17 [0, 1, 2, 3, 4, 5, 6, 7, 8, 9, 10, 11, 12, 13, 14, 15, 16] (List.take 17 _) (List.drop 17 _) [[], [], [0, 1], [2], [3], [4], [4, 5], [4, 6], [4, 7], [8], [9], [9], [9, 11], [9, 12], [9, 10, 13], [9, 14], [9, 15]] [9, 10, 11, 12, 13, 14, 15, 16, 17, 18, 19, 20, 21, 22, 23, 24, 25] (fun i_ vs_ v_ p_ => match i_ with | 0 => v_ = .agg #[.int .i64 d.W, .int .i64 d.H, .int .i64 d.T, .int .i64 d.R] ∧ p_ = [] | 1 => v_ = cv ∧ p_ = [] | 2 => v_ = .bool true ∧ p_ = [] | 3 => v_ = .bool false ∧ p_ = [] | 4 => v_ = .bool false ∧ p_ = [] | 5 => v_ = pv ∧ p_ = [] | 6 => v_ = .int .i64 (xs.length : Int) ∧ p_ = [] | 7 => v_ = .bool false ∧ p_ = [] | 8 => v_ = .bool false ∧ p_ = [] | 9 => v_ = .bool false ∧ p_ = [] | 10 => v_ = .agg #[.int .i64 d.W, .int .i64 d.H, .int .i64 d.T, .int .i64 d.R] ∧ p_ = [] | 11 => v_ = pv ∧ p_ = [] | 12 => v_ = elP pv ((0 : Int).toNat * 1) ∧ p_ = [] | 13 => v_ = .int .i64 (xs.getD 0 0) ∧ p_ = [] | 14 => v_ = .bool true ∧ p_ = [] | 15 => v_ = .bool false ∧ p_ = [] | 16 => v_ = .bool false ∧ p_ = [] | _ => True) (List.take_append_drop 17 _).symm (by kernel_rfl) (by kernel_rfl) rfl rfl ?_ ?_
 ·
  refine ⟨?_, ?_, ?_, ?_, ?_, ?_, ?_, ?_, ?_, ?_, ?_, ?_, ?_, ?_, ?_, ?_, ?_, trivial⟩
  ·
   intro vf pf hR
   refine Or.inl ⟨rfl, ?_⟩
   refine rq_less (sx 3 rfl (sub_nil _)) (List.sublist_append_right _ _) ?_
   exact rq_v (rv_loadN (cs := [.int .i64 d.W, .int .i64 d.H, .int .i64 d.T, .int .i64 d.R]) rfl (by kernel_rfl) (by kernel_rfl) rfl rfl (box_part 0 rfl 0 rfl))
  ·
   intro vf pf hR
   refine Or.inl ⟨rfl, ?_⟩
   refine rq_less (sx 1 rfl (sub_nil _)) (List.sublist_append_right _ _) ?_
   exact rq_v (rv_ev rfl)
  ·
   intro vf pf hR
   have e0 : (vf 0) = .agg #[.int .i64 d.W, .int .i64 d.H, .int .i64 d.T, .int .i64 d.R] ∧ (pf 0) = [] := hR 0 (by decide)
   have e1 : (vf 1) = cv ∧ (pf 1) = [] := hR 1 (by decide)
   refine Or.inl ⟨rfl, ?_⟩
   refine rq_less (sx 9 (congrArg some e0.1) (sx 10 (congrArg some e1.1) (sub_nil _))) (List.sublist_append_right _ _) ?_
   exact (rq_call (by kernel_rfl) rfl (fun w hm => ret_ans (CostsOk_yes d cs _ w hd ((rd_old hcv) w hm) hcl hcr)))
  ·
   intro vf pf hR
   have e2 : (vf 2) = .bool true ∧ (pf 2) = [] := hR 2 (by decide)
   refine Or.inl ⟨rfl, ?_⟩
   refine rq_less (sx 11 (congrArg some e2.1) (sub_nil _)) (List.sublist_append_right _ _) ?_
   exact rq_v (rv_ev rfl)
  ·
   intro vf pf hR
   have e3 : (vf 3) = .bool false ∧ (pf 3) = [] := hR 3 (by decide)
   refine Or.inl ⟨rfl, ?_⟩
   refine rq_less (sx 12 (congrArg some e3.1) (sub_nil _)) (List.sublist_append_right _ _) ?_
   exact rq_v (rv_ev rfl)
  ·
   intro vf pf hR
   have e4 : (vf 4) = .bool false ∧ (pf 4) = [] := hR 4 (by decide)
   refine Or.inl ⟨want_of (congrArg some e4.1) rfl, ?_⟩
   refine rq_less (sx 2 rfl (sub_nil _)) (List.sublist_append_right _ _) ?_
   exact rq_v (rv_ev rfl)
  ·
   intro vf pf hR
   have e4 : (vf 4) = .bool false ∧ (pf 4) = [] := hR 4 (by decide)
   have e5 : (vf 5) = pv ∧ (pf 5) = [] := hR 5 (by decide)
   refine Or.inl ⟨want_of (congrArg some e4.1) rfl, ?_⟩
   refine rq_less (sx 14 (congrArg some e5.1) (sub_nil _)) (List.sublist_append_right _ _) ?_
   exact rq_v (rv_len rfl Try.underlying26 rfl (rd_old hpv))
  ·
   intro vf pf hR
   have e4 : (vf 4) = .bool false ∧ (pf 4) = [] := hR 4 (by decide)
   have e6 : (vf 6) = .int .i64 (xs.length : Int) ∧ (pf 6) = [] := hR 6 (by decide)
   refine Or.inl ⟨want_of (congrArg some e4.1) rfl, ?_⟩
   refine rq_less (sx 15 (congrArg some e6.1) (sub_nil _)) (List.sublist_append_right _ _) ?_
   exact rq_mono (rq_v (rv_cmp rfl rfl rfl rfl)) (fun _ _ h => ⟨h.1.trans (congrArg Value.bool hb2), h.2⟩)
  ·
   intro vf pf hR
   have e4 : (vf 4) = .bool false ∧ (pf 4) = [] := hR 4 (by decide)
   have e7 : (vf 7) = .bool false ∧ (pf 7) = [] := hR 7 (by decide)
   refine Or.inl ⟨rfl, ?_⟩
   refine rq_less (sx 13 (congrArg some e4.1) (sx 16 (congrArg some e7.1) (sub_nil _))) (List.sublist_append_right _ _) ?_
   exact rq_v (rv_ev rfl)
  ·
   intro vf pf hR
   have e8 : (vf 8) = .bool false ∧ (pf 8) = [] := hR 8 (by decide)
   refine Or.inl ⟨rfl, ?_⟩
   refine rq_less (sx 17 (congrArg some e8.1) (sub_nil _)) (List.sublist_append_right _ _) ?_
   exact rq_v (rv_ev rfl)
  ·
   intro vf pf hR
   have e9 : (vf 9) = .bool false ∧ (pf 9) = [] := hR 9 (by decide)
   refine Or.inl ⟨want_of (congrArg some e9.1) rfl, ?_⟩
   refine rq_less (sx 3 rfl (sub_nil _)) (List.sublist_append_right _ _) ?_
   exact rq_v (rv_loadN (cs := [.int .i64 d.W, .int .i64 d.H, .int .i64 d.T, .int .i64 d.R]) rfl (by kernel_rfl) (by kernel_rfl) rfl rfl (box_part 0 rfl 0 rfl))
  ·
   intro vf pf hR
   have e9 : (vf 9) = .bool false ∧ (pf 9) = [] := hR 9 (by decide)
   refine Or.inl ⟨want_of (congrArg some e9.1) rfl, ?_⟩
   refine rq_less (sx 2 rfl (sub_nil _)) (List.sublist_append_right _ _) ?_
   exact rq_v (rv_ev rfl)
  ·
   intro vf pf hR
   have e9 : (vf 9) = .bool false ∧ (pf 9) = [] := hR 9 (by decide)
   have e11 : (vf 11) = pv ∧ (pf 11) = [] := hR 11 (by decide)
   refine Or.inl ⟨want_of (congrArg some e9.1) rfl, ?_⟩
   refine rq_less (sx 20 (congrArg some e11.1) (sub_nil _)) (List.sublist_append_right _ _) ?_
   exact rq_v (rv_index (s := 1) rfl Try.underlying26 (by kernel_rfl) rfl rfl (rd_old hpv) (by omega) (by first | omega | (simp only [List.length_set]; omega)))
  ·
   intro vf pf hR
   have e9 : (vf 9) = .bool false ∧ (pf 9) = [] := hR 9 (by decide)
   have e12 : (vf 12) = elP pv ((0 : Int).toNat * 1) ∧ (pf 12) = [] := hR 12 (by decide)
   refine Or.inl ⟨want_of (congrArg some e9.1) rfl, ?_⟩
   refine rq_less (sx 21 (congrArg some e12.1) (sub_nil _)) (List.sublist_append_right _ _) ?_
   exact rq_v (rv_loadEl (u := .int .i64 (xs.getD 0 0)) rfl (by kernel_rfl) rfl (rd_old hpv) (ints_at1 (show _ < xs.length by first | omega | (simp only [List.length_set]; omega))))
  ·
   intro vf pf hR
   have e9 : (vf 9) = .bool false ∧ (pf 9) = [] := hR 9 (by decide)
   have e10 : (vf 10) = .agg #[.int .i64 d.W, .int .i64 d.H, .int .i64 d.T, .int .i64 d.R] ∧ (pf 10) = [] := hR 10 (by decide)
   have e13 : (vf 13) = .int .i64 (xs.getD 0 0) ∧ (pf 13) = [] := hR 13 (by decide)
   refine Or.inl ⟨want_of (congrArg some e9.1) rfl, ?_⟩
   refine rq_less (sx 19 (congrArg some e10.1) (sx 22 (congrArg some e13.1) (sub_nil _))) (List.sublist_append_right _ _) ?_
   exact rq_mono (rq_call (by kernel_rfl) rfl (fun w hm => ret_ans (implRouteNodeOk_any d _ w))) (fun _ _ h => ⟨h.1.trans (congrArg Value.bool hb3), h.2⟩)
  ·
   intro vf pf hR
   have e9 : (vf 9) = .bool false ∧ (pf 9) = [] := hR 9 (by decide)
   have e14 : (vf 14) = .bool true ∧ (pf 14) = [] := hR 14 (by decide)
   refine Or.inl ⟨want_of (congrArg some e9.1) rfl, ?_⟩
   refine rq_less (sx 23 (congrArg some e14.1) (sub_nil _)) (List.sublist_append_right _ _) ?_
   exact rq_v (rv_ev rfl)
  ·
   intro vf pf hR
   have e9 : (vf 9) = .bool false ∧ (pf 9) = [] := hR 9 (by decide)
   have e15 : (vf 15) = .bool false ∧ (pf 15) = [] := hR 15 (by decide)
   refine Or.inl ⟨rfl, ?_⟩
   refine rq_less (sx 18 (congrArg some e9.1) (sx 24 (congrArg some e15.1) (sub_nil _))) (List.sublist_append_right _ _) ?_
   exact rq_v (rv_ev rfl)
 ·
  intro vf pf hR
  have e16 : (vf 16) = .bool false ∧ (pf 16) = [] := hR 16 (by decide)
  refine hl_less (l' := [boxE b1 #[.int .i64 d.W, .int .i64 d.H, .int .i64 d.T, .int .i64 d.R] 25]) (sx 0 rfl (sx 1 rfl (sx 2 rfl (sx 3 rfl (sx 6 rfl (sx 25 (congrArg some e16.1) (sub_nil _))))))) (List.sublist_append_right _ _) ?_
  simp only [List.drop_succ_cons, List.drop_zero]
  refine hl_less (sx 0 rfl (sx 1 rfl (sx 2 rfl (sx 3 rfl (sx 6 rfl (sx 25 rfl (sub_nil _))))))) (.refl _) ?_
  refine hl_nil ?_
  refine hq_then ?_
  refine hc_false rfl ?_
  refine hc_skip ?_
  refine hq_then ?_
  refine hc_seq ?_
  refine hc_region ?_
  refine hl_v rfl rfl rfl (rv_ev rfl) ?_
  refine hl_less (sx 0 rfl (sx 1 rfl (sx 2 rfl (sx 3 rfl (sx 6 rfl (sx 7 rfl (sx 25 rfl (sub_nil _)))))))) (.refl _) ?_
  refine hl_nil ?_
  refine hq_then ?_
  refine hc_seq ?_
  refine hc_seq ?_
  refine hc_region ?_
  refine hl_v rfl rfl rfl (rv_ev rfl) ?_
  refine hl_less (sx 0 rfl (sx 1 rfl (sx 2 rfl (sx 3 rfl (sx 6 rfl (sx 7 rfl (sx 8 rfl (sx 25 rfl (sub_nil _))))))))) (.refl _) ?_
  refine hl_nil ?_
  refine hq_then ?_
  refine hc_block ?_
  refine hc_loop1 (α := Nat) (fun i => [boxE b1 #[.int .i64 d.W, .int .i64 d.H, .int .i64 d.T, .int .i64 d.R] 25]) (fun i => [(0, .agg #[.int .i64 d.W, .int .i64 d.H, .int .i64 d.T, .int .i64 d.R]), (1, cv), (2, pv), (3, .pointer (some ⟨b1, 0, none⟩)), (6, .int .i64 0), (7, .int .i64 (pcst cs xs (i - 1))), (8, .int .i64 (i : Int)), (25, .bool false)]) (fun i => 1 ≤ i ∧ i ≤ xs.length) (fun i => xs.length - i) 1 ⟨by omega, by omega⟩ (sx 0 rfl (sx 1 rfl (sx 2 rfl (sx 3 rfl (sx 6 rfl (sx 7 rfl (sx 8 rfl (sx 25 rfl (sub_nil _))))))))) ((.cons_cons _ .slnil)) ?_
  intro i hi4
  obtain ⟨hi0, hi2⟩ := hi4
  refine hc_seq ?_
  refine hc_seq ?_
  refine hc_region ?_
  refine hl_v rfl rfl rfl (rv_ev rfl) ?_
  refine hl_v rfl rfl rfl (rv_ev rfl) ?_
  refine hl_v rfl rfl rfl (rv_len rfl Try.underlying26 rfl (rd_old hpv)) ?_
  refine hl_lss rfl rfl rfl rfl rfl rfl (fun h5 => ?_) (fun h5 => ?_)
  ·
   refine hl_less (sx 0 rfl (sx 1 rfl (sx 2 rfl (sx 3 rfl (sx 6 rfl (sx 7 rfl (sx 8 rfl (sx 25 rfl (sx 29 rfl (sub_nil _)))))))))) (.refl _) ?_
   refine hl_nil ?_
   refine hq_then ?_
   refine hc_true rfl ?_
   refine hc_skip ?_
   refine hq_then ?_
   refine hc_seq ?_
   refine hc_block ?_
   refine hc_seq ?_
   refine hc_seq ?_
   have hni := chain_node h0 hch i (by omega)
   have hnr := (nodeOk_rng hni).2
   have hci := hch (i - 1) (by omega)
   rw [show i - 1 + 1 = i by omega] at hci
   have hcx := hcr (xs.getD i 0).toNat (by omega)
   have hpr := pcst_rng (xs := xs) (C := 100000) (by omega) (fun k hk => by have := hcr k hk; omega) (i - 1)
   have hs16 := src_len16 d (xs.getD i 0)
   have hi1 : ((i : Int) - 1).toNat = i - 1 := by omega
   rw [← hi1] at hci
   have hb9 : (hasB (srcI d (xs.getD i 0)) (xs.getD (((i : Int) - 1).toNat) 0)) = true := hci
   refine hc_draw (by kernel_rfl) 13 [0, 1, 2, 3, 4, 5, 6, 7, 8, 9, 10, 11, 12] (List.take 13 _) (List.drop 13 _) [[], [], [], [1, 2], [3], [0, 4], [], [], [7], [6, 8], [9], [5, 10], [11]] [32, 33, 34, 35, 36, 37, 38, 39, 40, 41, 42, 43, 44] (fun i_ vs_ v_ p_ => match i_ with | 0 => v_ = .agg #[.int .i64 d.W, .int .i64 d.H, .int .i64 d.T, .int .i64 d.R] ∧ p_ = [] | 1 => v_ = pv ∧ p_ = [] | 2 => v_ = .int .i64 (i : Int) ∧ p_ = [] | 3 => v_ = elP pv (((i : Int)).toNat * 1) ∧ p_ = [] | 4 => v_ = .int .i64 (xs.getD i 0) ∧ p_ = [] | 5 => (fun v' post => post = [rowE 3 1 v' (srcI d (xs.getD i 0)).length ((srcI d (xs.getD i 0)).map (Value.int .i64))]) v_ p_ | 6 => v_ = pv ∧ p_ = [] | 7 => v_ = .int .i64 (i : Int) ∧ p_ = [] | 8 => v_ = .int .i64 ((i : Int) - 1) ∧ p_ = [] | 9 => v_ = elP pv (((i : Int) - 1).toNat * 1) ∧ p_ = [] | 10 => v_ = .int .i64 (xs.getD (((i : Int) - 1).toNat) 0) ∧ p_ = [] | 11 => v_ = .bool true ∧ p_ = [] | 12 => v_ = .bool false ∧ p_ = [] | _ => True) (List.take_append_drop 13 _).symm (by kernel_rfl) (by kernel_rfl) rfl rfl ?_ ?_
   ·
    refine ⟨?_, ?_, ?_, ?_, ?_, ?_, ?_, ?_, ?_, ?_, ?_, ?_, ?_, trivial⟩
    ·
     intro vf pf hR
     refine Or.inl ⟨rfl, ?_⟩
     refine rq_less (sx 3 rfl (sub_nil _)) (List.sublist_append_right _ _) ?_
     exact rq_v (rv_loadN (cs := [.int .i64 d.W, .int .i64 d.H, .int .i64 d.T, .int .i64 d.R]) rfl (by kernel_rfl) (by kernel_rfl) rfl rfl (box_part 0 rfl 0 rfl))
    ·
     intro vf pf hR
     refine Or.inl ⟨rfl, ?_⟩
     refine rq_less (sx 2 rfl (sub_nil _)) (List.sublist_append_right _ _) ?_
     exact rq_v (rv_ev rfl)
    ·
     intro vf pf hR
     refine Or.inl ⟨rfl, ?_⟩
     refine rq_less (sx 8 rfl (sub_nil _)) (List.sublist_append_right _ _) ?_
     exact rq_v (rv_ev rfl)
    ·
     intro vf pf hR
     have e1 : (vf 1) = pv ∧ (pf 1) = [] := hR 1 (by decide)
     have e2 : (vf 2) = .int .i64 (i : Int) ∧ (pf 2) = [] := hR 2 (by decide)
     refine Or.inl ⟨rfl, ?_⟩
     refine rq_less (sx 33 (congrArg some e1.1) (sx 34 (congrArg some e2.1) (sub_nil _))) (List.sublist_append_right _ _) ?_
     exact rq_v (rv_index (s := 1) rfl Try.underlying26 (by kernel_rfl) rfl rfl (rd_old hpv) (by omega) (by first | omega | (simp only [List.length_set]; omega)))
    ·
     intro vf pf hR
     have e3 : (vf 3) = elP pv (((i : Int)).toNat * 1) ∧ (pf 3) = [] := hR 3 (by decide)
     refine Or.inl ⟨rfl, ?_⟩
     refine rq_less (sx 35 (congrArg some e3.1) (sub_nil _)) (List.sublist_append_right _ _) ?_
     exact rq_v (rv_loadEl (u := .int .i64 (xs.getD i 0)) rfl (by kernel_rfl) rfl (rd_old hpv) (ints_at1 (show _ < xs.length by first | omega | (simp only [List.length_set]; omega))))
    ·
     intro vf pf hR
     have e0 : (vf 0) = .agg #[.int .i64 d.W, .int .i64 d.H, .int .i64 d.T, .int .i64 d.R] ∧ (pf 0) = [] := hR 0 (by decide)
     have e4 : (vf 4) = .int .i64 (xs.getD i 0) ∧ (pf 4) = [] := hR 4 (by decide)
     refine Or.inl ⟨rfl, ?_⟩
     refine rq_less (sx 32 (congrArg some e0.1) (sx 36 (congrArg some e4.1) (sub_nil _))) (List.sublist_append_right _ _) ?_
     exact rq_call (by kernel_rfl) rfl (fun w hm => implSources_ret d _ w)
    ·
     intro vf pf hR
     refine Or.inl ⟨rfl, ?_⟩
     refine rq_less (sx 2 rfl (sub_nil _)) (List.sublist_append_right _ _) ?_
     exact rq_v (rv_ev rfl)
    ·
     intro vf pf hR
     refine Or.inl ⟨rfl, ?_⟩
     refine rq_less (sx 8 rfl (sub_nil _)) (List.sublist_append_right _ _) ?_
     exact rq_v (rv_ev rfl)
    ·
     intro vf pf hR
     have e7 : (vf 7) = .int .i64 (i : Int) ∧ (pf 7) = [] := hR 7 (by decide)
     refine Or.inl ⟨rfl, ?_⟩
     refine rq_less (sx 39 (congrArg some e7.1) (sub_nil _)) (List.sublist_append_right _ _) ?_
     exact rq_v (rv_sub rfl rfl rfl (by constructor <;> omega))
    ·
     intro vf pf hR
     have e6 : (vf 6) = pv ∧ (pf 6) = [] := hR 6 (by decide)
     have e8 : (vf 8) = .int .i64 ((i : Int) - 1) ∧ (pf 8) = [] := hR 8 (by decide)
     refine Or.inl ⟨rfl, ?_⟩
     refine rq_less (sx 38 (congrArg some e6.1) (sx 40 (congrArg some e8.1) (sub_nil _))) (List.sublist_append_right _ _) ?_
     exact rq_v (rv_index (s := 1) rfl Try.underlying26 (by kernel_rfl) rfl rfl (rd_old hpv) (by omega) (by first | omega | (simp only [List.length_set]; omega)))
    ·
     intro vf pf hR
     have e9 : (vf 9) = elP pv (((i : Int) - 1).toNat * 1) ∧ (pf 9) = [] := hR 9 (by decide)
     refine Or.inl ⟨rfl, ?_⟩
     refine rq_less (sx 41 (congrArg some e9.1) (sub_nil _)) (List.sublist_append_right _ _) ?_
     exact rq_v (rv_loadEl (u := .int .i64 (xs.getD (((i : Int) - 1).toNat) 0)) rfl (by kernel_rfl) rfl (rd_old hpv) (ints_at1 (show _ < xs.length by first | omega | (simp only [List.length_set]; omega))))
    ·
     intro vf pf hR
     have e5 : (fun v' post => post = [rowE 3 1 v' (srcI d (xs.getD i 0)).length ((srcI d (xs.getD i 0)).map (Value.int .i64))]) (vf 5) (pf 5) := hR 5 (by decide)
     obtain ⟨v6, v5⟩ : ∃ x, vf 5 = x := ⟨_, rfl⟩
     obtain ⟨p7, p5⟩ : ∃ x, pf 5 = x := ⟨_, rfl⟩
     have hR8 := e5
     rw [v5, p5] at hR8
     subst hR8
     have e10 : (vf 10) = .int .i64 (xs.getD (((i : Int) - 1).toNat) 0) ∧ (pf 10) = [] := hR 10 (by decide)
     refine Or.inl ⟨rfl, ?_⟩
     refine rq_less (l' := [rowE 3 1 v6 ((srcI d (xs.getD i 0)).length) ((srcI d (xs.getD i 0)).map (Value.int .i64)), boxE b1 #[.int .i64 d.W, .int .i64 d.H, .int .i64 d.T, .int .i64 d.R] 25]) (sx 37 (congrArg some v5) (sx 42 (congrArg some e10.1) (sub_nil _))) (by first | (simp only [p5, v5, e10.2, List.flatMap_cons, List.flatMap_nil, List.append_nil, List.nil_append, List.cons_append]; exact List.Sublist.refl _) | simp [p5, v5, e10.2]) ?_
     exact rq_mono (rq_call (by kernel_rfl) rfl (fun w hm => ret_ans (hasInt_ans (srcI d (xs.getD i 0)) (xs.getD (((i : Int) - 1).toNat) 0) _ w ((rd_row 0 rfl) w hm) (by first | omega | simp)))) (fun _ _ h => ⟨h.1.trans (congrArg Value.bool hb9), h.2⟩)
    ·
     intro vf pf hR
     have e11 : (vf 11) = .bool true ∧ (pf 11) = [] := hR 11 (by decide)
     refine Or.inl ⟨rfl, ?_⟩
     refine rq_less (sx 43 (congrArg some e11.1) (sub_nil _)) (List.sublist_append_right _ _) ?_
     exact rq_v (rv_ev rfl)
   ·
    intro vf pf hR
    have e5 : (fun v' post => post = [rowE 3 1 v' (srcI d (xs.getD i 0)).length ((srcI d (xs.getD i 0)).map (Value.int .i64))]) (vf 5) (pf 5) := hR 5 (by decide)
    obtain ⟨v6, v5⟩ : ∃ x, vf 5 = x := ⟨_, rfl⟩
    obtain ⟨p7, p5⟩ : ∃ x, pf 5 = x := ⟨_, rfl⟩
    have hR8 := e5
    rw [v5, p5] at hR8
    subst hR8
    have e12 : (vf 12) = .bool false ∧ (pf 12) = [] := hR 12 (by decide)
    have q0 : (vf 0) = .agg #[.int .i64 d.W, .int .i64 d.H, .int .i64 d.T, .int .i64 d.R] ∧ (pf 0) = [] := hR 0 (by decide)
    have q1 : (vf 1) = pv ∧ (pf 1) = [] := hR 1 (by decide)
    have q2 : (vf 2) = .int .i64 (i : Int) ∧ (pf 2) = [] := hR 2 (by decide)
    have q3 : (vf 3) = elP pv (((i : Int)).toNat * 1) ∧ (pf 3) = [] := hR 3 (by decide)
    have q4 : (vf 4) = .int .i64 (xs.getD i 0) ∧ (pf 4) = [] := hR 4 (by decide)
    have q6 : (vf 6) = pv ∧ (pf 6) = [] := hR 6 (by decide)
    have q7 : (vf 7) = .int .i64 (i : Int) ∧ (pf 7) = [] := hR 7 (by decide)
    have q8 : (vf 8) = .int .i64 ((i : Int) - 1) ∧ (pf 8) = [] := hR 8 (by decide)
    have q9 : (vf 9) = elP pv (((i : Int) - 1).toNat * 1) ∧ (pf 9) = [] := hR 9 (by decide)
    have q10 : (vf 10) = .int .i64 (xs.getD (((i : Int) - 1).toNat) 0) ∧ (pf 10) = [] := hR 10 (by decide)
    have q11 : (vf 11) = .bool true ∧ (pf 11) = [] := hR 11 (by decide)
    have q12 : (vf 12) = .bool false ∧ (pf 12) = [] := hR 12 (by decide)
    refine hl_less (l' := [rowE 3 1 v6 ((srcI d (xs.getD i 0)).length) ((srcI d (xs.getD i 0)).map (Value.int .i64)), boxE b1 #[.int .i64 d.W, .int .i64 d.H, .int .i64 d.T, .int .i64 d.R] 25]) (sx 0 rfl (sx 1 rfl (sx 2 rfl (sx 3 rfl (sx 6 rfl (sx 7 rfl (sx 8 rfl (sx 25 rfl (sx 29 rfl (sx 44 (congrArg some e12.1) (sub_nil _))))))))))) (by first | (simp only [p5, v5, q0.2, q1.2, q2.2, q3.2, q4.2, q6.2, q7.2, q8.2, q9.2, q10.2, q11.2, q12.2, List.flatMap_cons, List.flatMap_nil, List.append_nil, List.nil_append, List.cons_append]; exact List.Sublist.refl _) | simp [p5, v5, q0.2, q1.2, q2.2, q3.2, q4.2, q6.2, q7.2, q8.2, q9.2, q10.2, q11.2, q12.2]) ?_
    simp only [List.drop_succ_cons, List.drop_zero]
    refine hl_less (sx 0 rfl (sx 1 rfl (sx 2 rfl (sx 3 rfl (sx 6 rfl (sx 7 rfl (sx 8 rfl (sx 25 rfl (sx 29 rfl (sx 44 rfl (sub_nil _))))))))))) (.refl _) ?_
    refine hl_nil ?_
    refine hq_then ?_
    refine hc_false rfl ?_
    refine hc_skip ?_
    refine hq_then ?_
    refine hc_region ?_
    refine hl_v rfl rfl rfl (rv_ev rfl) ?_
    refine hl_v rfl rfl rfl (rv_ev rfl) ?_
    refine hl_v rfl rfl rfl (rv_ev rfl) ?_
    refine hl_v rfl rfl rfl (rv_ev rfl) ?_
    refine hl_v rfl rfl rfl (rv_index (s := 1) rfl Try.underlying26 (by kernel_rfl) rfl rfl (rd_old hpv) (by omega) (by first | omega | (simp only [List.length_set]; omega))) ?_
    refine hl_v rfl rfl rfl (rv_loadEl (u := .int .i64 (xs.getD i 0)) rfl (by kernel_rfl) rfl (rd_old hpv) (ints_at1 (show _ < xs.length by first | omega | (simp only [List.length_set]; omega)))) ?_
    refine hl_v rfl rfl rfl (rv_index (s := 1) rfl Try.underlying26 (by kernel_rfl) rfl rfl (rd_old hcv) (by omega) (by first | omega | (simp only [List.length_set]; omega))) ?_
    refine hl_v rfl rfl rfl (rv_loadEl (u := .int .i64 (cs.getD ((xs.getD i 0).toNat) 0)) rfl (by kernel_rfl) rfl (rd_old hcv) (ints_at1 (show _ < cs.length by first | omega | (simp only [List.length_set]; omega)))) ?_
    refine hl_v rfl rfl rfl (rv_add rfl rfl rfl (by constructor <;> omega)) ?_
    refine hl_v rfl rfl rfl (rv_ev rfl) ?_
    refine hl_less (sx 0 rfl (sx 1 rfl (sx 2 rfl (sx 3 rfl (sx 6 rfl (sx 7 rfl (sx 8 rfl (sx 25 rfl (sx 29 rfl (sx 44 rfl (sub_nil _))))))))))) (.refl _) ?_
    refine hl_nil ?_
    refine hq_block_normal ?_
    refine hq_then ?_
    refine hc_region ?_
    refine hl_v rfl rfl rfl (rv_ev rfl) ?_
    refine hl_v rfl rfl rfl (rv_add rfl rfl rfl (by constructor <;> omega)) ?_
    refine hl_v rfl rfl rfl (rv_ev rfl) ?_
    refine hl_less (sx 0 rfl (sx 1 rfl (sx 2 rfl (sx 3 rfl (sx 6 rfl (sx 7 rfl (sx 8 rfl (sx 25 rfl (sx 29 rfl (sx 44 rfl (sub_nil _))))))))))) (.refl _) ?_
    refine hl_nil ?_
    exact hq_round1 (i + 1) ⟨by omega, by omega⟩ (by omega) (sx 0 rfl (sx 1 rfl (sx 2 rfl (sx 3 rfl (sx 6 rfl (sx 7 (by rw [Nat.add_sub_cancel, pcst_step cs xs (i := i) (by omega)]; rfl) (sx 8 rfl (sx 25 rfl (sub_nil _))))))))) ((.cons _ (.cons_cons _ .slnil)))
  ·
   refine hl_less (sx 0 rfl (sx 1 rfl (sx 2 rfl (sx 3 rfl (sx 6 rfl (sx 7 rfl (sx 8 rfl (sx 25 rfl (sx 29 rfl (sub_nil _)))))))))) (.refl _) ?_
   refine hl_nil ?_
   refine hq_then ?_
   refine hc_false rfl ?_
   refine hc_exit ?_
   refine hq_then_exit ?_
   refine hq_then_exit ?_
   refine hq_block_exit ?_
   refine hq_then ?_
   refine hc_seq ?_
   refine hc_region ?_
   refine hl_v rfl rfl rfl (rv_ev rfl) ?_
   refine hl_v rfl rfl rfl (rv_ev rfl) ?_
   refine hl_less (sx 0 rfl (sx 1 rfl (sx 2 rfl (sx 3 rfl (sx 6 rfl (sx 7 rfl (sx 8 rfl (sx 25 rfl (sx 29 rfl (sub_nil _)))))))))) (.refl _) ?_
   refine hl_nil ?_
   refine hq_then ?_
   refine hc_ret ?_
   exact hq_ans rfl rfl (by rw [show i - 1 = xs.length - 1 by omega])
set_option maxHeartbeats 4000000 in
set_option maxRecDepth 100000 in
theorem CheapestPath_ret (d : Dev) (cs st : List Int) (cv sv : Value) (t : Int) (w : World) (hd : devB d = true) (hcv : RdsW w cv 1 cs.length (cs.map (Value.int .i64))) (hcl : (cs.length : Int) = allI d) (hcr : ∀ k, k < cs.length → 1 ≤ cs.getD k 0 ∧ cs.getD k 0 ≤ 100000) (hsv : RdsW w sv 1 st.length (st.map (Value.int .i64))) (hsl : st.length ≤ 1000000) (hst : ∀ s ∈ st, nodeOkI d s = true) (ht : 0 ≤ t ∧ t < allI d) (hreach : ∀ D, DistOk cs.length (srcI d) cs st D → 0 ≤ gI D t) :
  Calls Try.prog 27 #[.agg #[.int .i64 d.W, .int .i64 d.H, .int .i64 d.T, .int .i64 d.R], cv, sv, .int .i64 t] w (Ret w (fun v' post => ∃ xs : List Int, post = [rowE 3 1 v' xs.length (xs.map (Value.int .i64))] ∧ ∃ D x, DistOk cs.length (srcI d) cs st D ∧ x ∈ st ∧ CP cs.length (srcI d) cs st D t x xs)) := by
 obtain ⟨ra1, ra2⟩ := all_rng hd
 refine calls_hc (N := 20) (args := [.agg #[.int .i64 d.W, .int .i64 d.H, .int .i64 d.T, .int .i64 d.R], cv, sv, .int .i64 t]) Try.func27 rfl rfl ?_
 refine hc_less _ (sx 0 rfl (sx 1 rfl (sx 2 rfl (sx 3 rfl (sub_nil _))))) (.refl _) ?_
 refine hc_seq ?_
 refine hc_region ?_
 refine hl_box rfl rfl rfl (rq_box rfl rfl) ?_
 intro b1
 refine hl_v rfl rfl rfl (rv_ev rfl) ?_
 refine hl_less (sx 0 rfl (sx 1 rfl (sx 2 rfl (sx 3 rfl (sx 4 rfl (sx 8 rfl (sub_nil _))))))) (.refl _) ?_
 refine hl_nil ?_
 refine hq_then ?_
 refine hc_seq ?_
 refine hc_seq ?_
 refine hc_region ?_
 refine hl_v rfl rfl rfl (rv_loadN (cs := [.int .i64 d.W, .int .i64 d.H, .int .i64 d.T, .int .i64 d.R]) rfl (by kernel_rfl) (by kernel_rfl) rfl rfl (box_part 0 rfl 0 rfl)) ?_
 refine hl_v rfl rfl rfl (rv_ev rfl) ?_
 refine hl_v rfl rfl rfl (rv_ev rfl) ?_
 refine hl_callV rfl rfl rfl (rq_call (by kernel_rfl) rfl (fun w hm => ret_ans (startsOk_yes d cs st _ _ w hd ((rd_old hcv) w hm) hcl hcr ((rd_old hsv) w hm) hsl hst))) ?_
 refine hl_v rfl rfl rfl (rv_ev rfl) ?_
 refine hl_less (sx 0 rfl (sx 1 rfl (sx 2 rfl (sx 3 rfl (sx 4 rfl (sx 8 rfl (sx 13 rfl (sub_nil _)))))))) (.refl _) ?_
 refine hl_nil ?_
 refine hq_then ?_
 refine hc_false rfl ?_
 refine hc_skip ?_
 refine hq_then ?_
 refine hc_seq ?_
 refine hc_region ?_
 refine hl_v rfl rfl rfl (rv_loadN (cs := [.int .i64 d.W, .int .i64 d.H, .int .i64 d.T, .int .i64 d.R]) rfl (by kernel_rfl) (by kernel_rfl) rfl rfl (box_part 0 rfl 0 rfl)) ?_
 refine hl_q rfl rfl rfl (rq_call (by kernel_rfl) rfl (fun w hm => graphOf_ret d w hd)) ?_
 intro v2 p3 hR4
 obtain ⟨b, g, rfl, rfl, hgk⟩ := hR4
 refine hl_v rfl rfl rfl (rv_ev rfl) ?_
 refine hl_v rfl rfl rfl (rv_ev rfl) ?_
 refine hl_v rfl rfl rfl (rv_ev rfl) ?_
 refine hl_q rfl rfl rfl (rq_call (by kernel_rfl) rfl (fun w hm => cheapestPath_ret d b g cs st _ _ t w (gr_rds 0 rfl w hm) hgk hd ((rd_old hcv) w hm) hcl hcr ((rd_old hsv) w hm) hsl (fun s hs => by have := (nodeOk_rng (hst s hs)).2; omega) ht hreach)) ?_
 intro v5 p6 hR7
 obtain ⟨xs, rfl, D2, x0, hD2, hx0, hcp⟩ := hR7
 have hxl := hcp.l0
 have hxm := hcp.len
 refine hl_v rfl rfl rfl (rv_ev rfl) ?_
 refine hl_less (sx 0 rfl (sx 1 rfl (sx 2 rfl (sx 3 rfl (sx 4 rfl (sx 8 rfl (sx 13 rfl (sub_nil _)))))))) (.refl _) ?_
 refine hl_nil ?_
 refine hq_then ?_
 refine hc_ret ?_
 exact hq_retR (post := [rowE 3 1 v5 xs.length (xs.map (Value.int .i64))]) rfl rfl ((.cons_cons _ (.cons _ (.cons _ .slnil)))) ⟨xs, rfl, D2, x0, hD2, hx0, hcp⟩
set_option maxHeartbeats 4000000 in
set_option maxRecDepth 100000 in
theorem walk_FnPathLeast (a0 : Option Addr) (len0 cap0 : Nat) (z0 : List Int) (w : World) (hbr : BRow .u8 w a0 len0 cap0 z0) :
  Calls Try.prog 6 #[.slice a0 len0 cap0] w (Ans w (.bool true)) := by
 have hcd0 := cod_le hbr 0
 refine calls_hc (N := 116) (args := [.slice a0 len0 cap0]) Try.func6 rfl rfl ?_
 refine hc_less _ (sx 0 rfl (sub_nil _)) (.refl _) ?_
 refine hc_seq ?_
 refine hc_region ?_
 refine hl_v rfl rfl rfl (rv_ev rfl) ?_
 refine hl_less (sx 0 rfl (sx 2 rfl (sub_nil _))) (.refl _) ?_
 refine hl_nil ?_
 refine hq_then ?_
 refine hc_seq ?_
 refine hc_seq ?_
 refine hc_region ?_
 refine hl_v rfl rfl rfl (rv_ev rfl) ?_
 refine hl_callV rfl rfl rfl (rq_call (by kernel_rfl) rfl (fun w hm => ret_ans (ans_of (big_any a0 len0 cap0 w (hbr.len_le))))) ?_
 refine hl_bool (fun h1 => ?_) (fun h1 => ?_)
 ·
  have h1p := of_decide_eq_true h1
  refine hl_less (sx 0 rfl (sx 2 rfl (sx 15 rfl (sub_nil _)))) (.refl _) ?_
  refine hl_nil ?_
  refine hq_then ?_
  refine hc_true rfl ?_
  refine hc_seq ?_
  refine hc_region ?_
  refine hl_v rfl rfl rfl (rv_ev rfl) ?_
  refine hl_less (sx 0 rfl (sx 2 rfl (sx 15 rfl (sub_nil _)))) (.refl _) ?_
  refine hl_nil ?_
  refine hq_then ?_
  refine hc_ret ?_
  refine hq_then_ret ?_
  exact hq_ans rfl rfl rfl
 ·
  have h1p := of_decide_eq_false h1
  refine hl_less (sx 0 rfl (sx 2 rfl (sx 15 rfl (sub_nil _)))) (.refl _) ?_
  refine hl_nil ?_
  refine hq_then ?_
  refine hc_false rfl ?_
  refine hc_skip ?_
  refine hq_then ?_
  refine hc_seq ?_
  refine hc_region ?_
  refine hl_v rfl rfl rfl (rv_ev rfl) ?_
  refine hl_q rfl rfl rfl (rq_call (by kernel_rfl) rfl (fun w hm => DrawWalk_ret _ _ _ z0 w (hbr.below hm.bel) (by omega))) ?_
  intro v2 p3 hR4
  obtain ⟨d, s0, r, sv, ks, hdr, ⟨t, ⟨ht0, ht1⟩, hst⟩, rfl, rfl, ⟨o1r, o2r, o3r⟩, htr⟩ := hR4
  have hd := hdr.ok
  obtain ⟨dr1, dr2, dr3, dr4, dr5, dr6, -⟩ := id hdr
  have har : 0 ≤ (d.W - 1) * (d.H - 1) ∧ 0 ≤ (5 - d.W) * d.H := ⟨Int.mul_nonneg (by omega) (by omega), Int.mul_nonneg (by omega) (by omega)⟩
  have e1 : (d.W - 1) * (d.H - 1) = d.W * d.H - d.W - d.H + 1 := by rw [Int.sub_mul, Int.mul_sub]; omega
  have e2 : (5 - d.W) * d.H = 5 * d.H - d.W * d.H := by rw [Int.sub_mul]
  rw [e1, e2] at har
  obtain ⟨ra1, ra2⟩ := all_rng hd
  obtain ⟨q1, q2⟩ := per_rng hd
  obtain ⟨hs1, hs2, hs3, hs4, hs5⟩ := out0 hd ht0 ht1
  rw [← hst] at hs1 hs2 hs3 hs4 hs5
  have ht1 := htr.len
  have ht2 := htr.l0
  have ht3 := htr.l1
  have hns := htr.nsok (by omega)
  have hk7 : ks.length ≤ 7 := by rw [htr.sinks]; have := List.length_filter_le (fun x => decide (x % perI d < 5)) (r.ns.drop 1); rw [List.length_drop] at this; omega
  have hrt : RtOk d s0 r.ns r.fs ks := ⟨htr, by rw [hst]; exact node_out hd ht0 (by assumption), by omega⟩
  have hwa := wcnt_all hrt hd
  refine hl_v rfl rfl rfl (rv_ev rfl) ?_
  refine hl_v rfl rfl rfl (rv_ev rfl) ?_
  refine hl_v rfl rfl rfl (rv_ev rfl) ?_
  refine hl_v rfl rfl rfl (rv_ev rfl) ?_
  refine hl_v rfl rfl rfl (rv_ev rfl) ?_
  refine hl_box rfl rfl rfl (rq_alloc (z := .agg #[.int .i64 0, .int .i64 0, .int .i64 0, .int .i64 0]) rfl (by kernel_rfl)) ?_
  intro b5
  refine hl_box rfl rfl rfl (rq_alloc (z := .agg #[.slice none 0 0, .slice none 0 0]) rfl (by kernel_rfl)) ?_
  intro b6
  refine hl_storeBoxN (i := 1) (off := 0) (us := [.int .i64 d.W, .int .i64 d.H, .int .i64 d.T, .int .i64 d.R]) (l' := [boxE b6 #[.slice none 0 0, .slice none 0 0] 28, boxE b5 #[.int .i64 d.W, .int .i64 d.H, .int .i64 d.T, .int .i64 d.R] 25, rtE r, rowE 3 1 sv ks.length (ks.map (Value.int .i64))]) rfl rfl rfl (by kernel_rfl) rfl rfl rfl (all_cons rfl (all_cons rfl (all_cons rfl (all_cons rfl all_nil)))) rfl rfl rfl ?_
  refine hl_v rfl rfl rfl (rv_ev rfl) ?_
  refine hl_v rfl rfl rfl (rv_ev rfl) ?_
  refine hl_storeBoxN (i := 0) (off := 0) (us := [r.nv, r.fv]) (l' := [boxE b6 #[r.nv, r.fv] 28, boxE b5 #[.int .i64 d.W, .int .i64 d.H, .int .i64 d.T, .int .i64 d.R] 25, rtE r, rowE 3 1 sv ks.length (ks.map (Value.int .i64))]) rfl rfl rfl (by kernel_rfl) rfl rfl rfl (all_cons o1r (all_cons o2r all_nil)) rfl rfl rfl ?_
  refine hl_less (sx 0 rfl (sx 2 rfl (sx 3 rfl (sx 4 rfl (sx 6 rfl (sx 15 rfl (sub_nil _))))))) (.refl _) ?_
  refine hl_nil ?_
  refine hq_then ?_
  refine hc_seq ?_
  refine hc_region ?_
  refine hl_row rfl rfl rfl (rq_slice0 (s := 1) rfl Try.underlying26 (by kernel_rfl)) ?_
  intro g7
  refine hl_v rfl rfl rfl (rv_ev rfl) ?_
  refine hl_less (sx 0 rfl (sx 2 rfl (sx 3 rfl (sx 4 rfl (sx 6 rfl (sx 7 rfl (sx 15 rfl (sub_nil _)))))))) (.refl _) ?_
  refine hl_nil ?_
  refine hq_then ?_
  refine hc_seq ?_
  refine hc_seq ?_
  refine hc_region ?_
  refine hl_v rfl rfl rfl (rv_ev rfl) ?_
  refine hl_less (sx 0 rfl (sx 2 rfl (sx 3 rfl (sx 4 rfl (sx 6 rfl (sx 7 rfl (sx 8 rfl (sx 15 rfl (sub_nil _))))))))) (.refl _) ?_
  refine hl_nil ?_
  refine hq_then ?_
  refine hc_block ?_
  refine hc_loop3 (α := Nat) (β := Value) (γ := List Int) (fun q u zs => [rowE 3 1 u zs.length (zs.map (Value.int .i64)), boxE b6 #[r.nv, r.fv] 28, boxE b5 #[.int .i64 d.W, .int .i64 d.H, .int .i64 d.T, .int .i64 d.R] 25, rtE r, rowE 3 1 sv ks.length (ks.map (Value.int .i64))]) (fun q u zs => [(0, .slice a0 len0 cap0), (2, .bool false), (3, .pointer (some ⟨b5, 0, none⟩)), (4, .int .i64 s0), (6, .pointer (some ⟨b6, 0, none⟩)), (7, u), (8, .int .i64 (q : Int)), (15, .bool false)]) (fun q u zs => (q : Int) ≤ allI d ∧ zs.length = q ∧ ∀ i, i < zs.length → 1 ≤ zs.getD i 0 ∧ zs.getD i 0 ≤ 50) (fun q u zs => (allI d).toNat - q) 0 _ [] ⟨by omega, rfl, fun i h => absurd h (by simp)⟩ (sx 0 rfl (sx 2 rfl (sx 3 rfl (sx 4 rfl (sx 6 rfl (sx 7 rfl (sx 8 rfl (sx 15 rfl (sub_nil _))))))))) ((.cons_cons _ (.cons_cons _ (.cons_cons _ (.cons_cons _ (.cons_cons _ .slnil)))))) ?_
  intro q u zs hi8
  obtain ⟨hq, hzl, hzr⟩ := hi8
  have hcdq := cod_le hbr q
  refine hc_seq ?_
  refine hc_seq ?_
  refine hc_region ?_
  refine hl_v rfl rfl rfl (rv_ev rfl) ?_
  refine hl_v rfl rfl rfl (rv_loadN (cs := [.int .i64 d.W, .int .i64 d.H, .int .i64 d.T, .int .i64 d.R]) rfl (by kernel_rfl) (by kernel_rfl) rfl rfl (box_part 2 rfl 0 rfl)) ?_
  refine hl_callV rfl rfl rfl (rq_call (by kernel_rfl) rfl (fun w hm => ret_ans (specRouteNodes_yes d hd w))) ?_
  refine hl_lss rfl rfl rfl rfl rfl rfl (fun h9 => ?_) (fun h9 => ?_)
  ·
   refine hl_less (sx 0 rfl (sx 2 rfl (sx 3 rfl (sx 4 rfl (sx 6 rfl (sx 7 rfl (sx 8 rfl (sx 15 rfl (sx 27 rfl (sub_nil _)))))))))) (.refl _) ?_
   refine hl_nil ?_
   refine hq_then ?_
   refine hc_true rfl ?_
   refine hc_skip ?_
   refine hq_then ?_
   refine hc_seq ?_
   refine hc_block ?_
   refine hc_region ?_
   refine hl_v rfl rfl rfl (rv_ev rfl) ?_
   refine hl_v rfl rfl rfl (rv_ev rfl) ?_
   refine hl_v rfl rfl rfl (rv_ev rfl) ?_
   refine hl_callV rfl rfl rfl (rq_call (by kernel_rfl) rfl (fun w hm => ret_ans (at_ans hbr q (by omega) w hm))) ?_
   refine hl_v rfl rfl rfl (rv_rem rfl rfl rfl (by constructor <;> omega)) ?_
   refine hl_v rfl rfl rfl (rv_add rfl rfl rfl (by constructor <;> omega)) ?_
   refine hl_row rfl rfl rfl (rq_buildSlice (z := .int .i64 0) (s := 1) (cs := ([1 + ((cod z0 len0 q : Int) % 20)].map (Value.int .i64))) rfl Try.underlying26 (by kernel_rfl) (by decide) rfl (by kernel_rfl) rfl) ?_
   intro g10
   refine hl_append (i := 1) (z := .int .i64 0) (bytes := 8) (n' := (zs ++ ([1 + ((cod z0 len0 q : Int) % 20)])).length) (xs' := ((zs ++ ([1 + ((cod z0 len0 q : Int) % 20)])).map (Value.int .i64))) (L := fun v11 => [rowE 3 1 (.slice (some ⟨g10, 0, none⟩) 1 1) 1 ([1 + ((cod z0 len0 q : Int) % 20)].map (Value.int .i64)), rowE 3 1 v11 ((zs ++ ([1 + ((cod z0 len0 q : Int) % 20)])).length) ((zs ++ ([1 + ((cod z0 len0 q : Int) % 20)])).map (Value.int .i64)), boxE b6 #[r.nv, r.fv] 28, boxE b5 #[.int .i64 d.W, .int .i64 d.H, .int .i64 d.T, .int .i64 d.R] 25, rtE r, rowE 3 1 sv ks.length (ks.map (Value.int .i64))]) rfl rfl rfl rfl Try.underlying26 (by kernel_rfl) (by kernel_rfl) rfl rfl rfl (rd_row 0 rfl) (ints_one _) (by first | omega | (simp; omega)) (len_app zs ([1 + ((cod z0 len0 q : Int) % 20)])) (ints_app zs ([1 + ((cod z0 len0 q : Int) % 20)])) (fun _ => rfl) ?_
   intro v11
   refine hl_v rfl rfl rfl (rv_ev rfl) ?_
   refine hl_less (sx 0 rfl (sx 2 rfl (sx 3 rfl (sx 4 rfl (sx 6 rfl (sx 7 rfl (sx 8 rfl (sx 15 rfl (sx 27 rfl (sub_nil _)))))))))) (.refl _) ?_
   refine hl_nil ?_
   refine hq_block_normal ?_
   refine hq_then ?_
   refine hc_region ?_
   refine hl_v rfl rfl rfl (rv_ev rfl) ?_
   refine hl_v rfl rfl rfl (rv_add rfl rfl rfl (by constructor <;> omega)) ?_
   refine hl_v rfl rfl rfl (rv_ev rfl) ?_
   refine hl_less (sx 0 rfl (sx 2 rfl (sx 3 rfl (sx 4 rfl (sx 6 rfl (sx 7 rfl (sx 8 rfl (sx 15 rfl (sx 27 rfl (sub_nil _)))))))))) (.refl _) ?_
   refine hl_nil ?_
   exact hq_round3 (q + 1) v11 (zs ++ ([1 + ((cod z0 len0 q : Int) % 20)])) ⟨by omega, by simp; omega, app_rng hzr (by omega)⟩ (by omega) (sx 0 rfl (sx 2 rfl (sx 3 rfl (sx 4 rfl (sx 6 rfl (sx 7 rfl (sx 8 rfl (sx 15 rfl (sub_nil _))))))))) ((.cons _ (.cons_cons _ (.cons_cons _ (.cons_cons _ (.cons_cons _ (.cons_cons _ .slnil)))))))
  ·
   refine hl_less (sx 0 rfl (sx 2 rfl (sx 3 rfl (sx 4 rfl (sx 6 rfl (sx 7 rfl (sx 8 rfl (sx 15 rfl (sx 27 rfl (sub_nil _)))))))))) (.refl _) ?_
   refine hl_nil ?_
   refine hq_then ?_
   refine hc_false rfl ?_
   refine hc_exit ?_
   refine hq_then_exit ?_
   refine hq_then_exit ?_
   refine hq_block_exit ?_
   refine hq_then ?_
   refine hc_seq ?_
   refine hc_region ?_
   have hcl : (zs.length : Int) = allI d := by omega
   have hcr : ∀ k, k < zs.length → 1 ≤ zs.getD k 0 ∧ zs.getD k 0 ≤ 100000 := fun k hk => by have := hzr k hk; omega
   refine hl_v rfl rfl rfl (rv_loadN (cs := [.int .i64 d.W, .int .i64 d.H, .int .i64 d.T, .int .i64 d.R]) rfl (by kernel_rfl) (by kernel_rfl) rfl rfl (box_part 2 rfl 0 rfl)) ?_
   refine hl_v rfl rfl rfl (rv_ev rfl) ?_
   refine hl_v rfl rfl rfl (rv_ev rfl) ?_
   refine hl_row rfl rfl rfl (rq_buildSlice (z := .int .i64 0) (s := 1) (cs := ([s0].map (Value.int .i64))) rfl Try.underlying26 (by kernel_rfl) (by decide) rfl (by kernel_rfl) rfl) ?_
   intro g12
   refine hl_q rfl rfl rfl (rq_call (by kernel_rfl) rfl (fun w hm => Distances_ret d zs [s0] _ _ w hd ((rd_row 1 rfl) w hm) hcl hcr ((rd_row 0 rfl) w hm) (by simp) (by rw [List.forall_mem_singleton]; exact hrt.ok))) ?_
   intro v13 p14 hR15
   obtain ⟨D, rfl, hD⟩ := hR15
   have hDl := hD.len
   refine hl_v rfl rfl rfl (rv_ev rfl) ?_
   refine hl_less (sx 0 rfl (sx 2 rfl (sx 3 rfl (sx 4 rfl (sx 6 rfl (sx 7 rfl (sx 8 rfl (sx 9 rfl (sx 15 rfl (sx 27 rfl (sub_nil _))))))))))) (.refl _) ?_
   refine hl_nil ?_
   refine hq_then ?_
   refine hc_seq ?_
   refine hc_seq ?_
   refine hc_region ?_
   refine hl_v rfl rfl rfl (rv_ev rfl) ?_
   refine hl_less (sx 0 rfl (sx 2 rfl (sx 3 rfl (sx 4 rfl (sx 6 rfl (sx 7 rfl (sx 8 rfl (sx 9 rfl (sx 10 rfl (sx 15 rfl (sx 27 rfl (sub_nil _)))))))))))) (.refl _) ?_
   refine hl_nil ?_
   refine hq_then ?_
   refine hc_block ?_
   refine hc_loop1 (α := Nat) (fun k => [rowE 3 1 v13 D.length (D.map (Value.int .i64)), rowE 3 1 u zs.length (zs.map (Value.int .i64)), boxE b6 #[r.nv, r.fv] 28, boxE b5 #[.int .i64 d.W, .int .i64 d.H, .int .i64 d.T, .int .i64 d.R] 25, rtE r, rowE 3 1 sv ks.length (ks.map (Value.int .i64))]) (fun k => [(0, .slice a0 len0 cap0), (2, .bool false), (3, .pointer (some ⟨b5, 0, none⟩)), (4, .int .i64 s0), (6, .pointer (some ⟨b6, 0, none⟩)), (7, u), (8, .int .i64 (q : Int)), (9, v13), (10, .int .i64 (k : Int)), (15, .bool false), (27, .bool false)]) (fun k => k ≤ r.ns.length) (fun k => r.ns.length - k) 0 (by omega) (sx 0 rfl (sx 2 rfl (sx 3 rfl (sx 4 rfl (sx 6 rfl (sx 7 rfl (sx 8 rfl (sx 9 rfl (sx 10 rfl (sx 15 rfl (sx 27 rfl (sub_nil _)))))))))))) ((.cons_cons _ (.cons _ (.cons_cons _ (.cons_cons _ (.cons_cons _ (.cons_cons _ (.cons_cons _ .slnil)))))))) ?_
   intro k hi16
   have hk := hi16
   refine hc_seq ?_
   refine hc_seq ?_
   refine hc_region ?_
   refine hl_v rfl rfl rfl (rv_ev rfl) ?_
   refine hl_v rfl rfl rfl (rv_field (k0 := 0) rfl (by kernel_rfl) rfl) ?_
   refine hl_v rfl rfl rfl (rv_load rfl (by kernel_rfl) rfl (box_cell 2 rfl rfl)) ?_
   refine hl_v rfl rfl rfl (rv_len rfl Try.underlying26 rfl (fun w hm => (rt_rds 4 rfl w hm).1)) ?_
   refine hl_lss rfl rfl rfl rfl rfl rfl (fun h17 => ?_) (fun h17 => ?_)
   ·
    refine hl_less (sx 0 rfl (sx 2 rfl (sx 3 rfl (sx 4 rfl (sx 6 rfl (sx 7 rfl (sx 8 rfl (sx 9 rfl (sx 10 rfl (sx 15 rfl (sx 27 rfl (sx 47 rfl (sub_nil _))))))))))))) (.refl _) ?_
    refine hl_nil ?_
    refine hq_then ?_
    refine hc_true rfl ?_
    refine hc_skip ?_
    refine hq_then ?_
    refine hc_seq ?_
    refine hc_block ?_
    refine hc_seq ?_
    refine hc_region ?_
    have hxr := htr.rng (r.ns.getD k 0) (getD_inX (by omega))
    have hDp := tree_reach (by omega) htr hD (List.mem_singleton.2 rfl) k k (Nat.le_refl _) (by omega)
    have hgx : getI D (r.ns.getD k 0) = gI D (r.ns.getD k 0) := by unfold getI; rw [if_pos (by omega)]
    refine hl_v rfl rfl rfl (rv_ev rfl) ?_
    refine hl_v rfl rfl rfl (rv_field (k0 := 0) rfl (by kernel_rfl) rfl) ?_
    refine hl_v rfl rfl rfl (rv_load rfl (by kernel_rfl) rfl (box_cell 2 rfl rfl)) ?_
    refine hl_v rfl rfl rfl (rv_ev rfl) ?_
    refine hl_v rfl rfl rfl (rv_index (s := 1) rfl Try.underlying26 (by kernel_rfl) rfl rfl (fun w hm => (rt_rds 4 rfl w hm).1) (by omega) (by first | omega | (simp only [List.length_set]; omega))) ?_
    refine hl_v rfl rfl rfl (rv_loadEl (u := .int .i64 (r.ns.getD k 0)) rfl (by kernel_rfl) rfl (fun w hm => (rt_rds 4 rfl w hm).1) (ints_at1 (show _ < r.ns.length by first | omega | (simp only [List.length_set]; omega)))) ?_
    refine hl_callV rfl rfl rfl (rq_call (by kernel_rfl) rfl (fun w hm => ret_ans (lawsGet_ans D (r.ns.getD k 0) _ w ((rd_row 0 rfl) w hm) (by first | omega | simp)))) ?_
    refine hl_v rfl rfl rfl (rv_ev rfl) ?_
    refine hl_less (sx 0 rfl (sx 2 rfl (sx 3 rfl (sx 4 rfl (sx 6 rfl (sx 7 rfl (sx 8 rfl (sx 9 rfl (sx 10 rfl (sx 11 rfl (sx 15 rfl (sx 27 rfl (sx 47 rfl (sub_nil _)))))))))))))) (.refl _) ?_
    refine hl_nil ?_
    refine hq_then ?_
    refine hc_seq ?_
    refine hc_draw (by kernel_rfl) 10 [0, 1, 2, 3, 4, 5, 6, 7, 8, 9] (List.take 10 _) (List.drop 10 _) [[], [], [], [2], [], [4], [], [5, 6], [7], [0, 1, 3, 8]] [57, 58, 59, 60, 61, 62, 63, 64, 65, 66] (fun i_ vs_ v_ p_ => match i_ with | 0 => v_ = .agg #[.int .i64 d.W, .int .i64 d.H, .int .i64 d.T, .int .i64 d.R] ∧ p_ = [] | 1 => v_ = u ∧ p_ = [] | 2 => v_ = .int .i64 s0 ∧ p_ = [] | 3 => IsRow_o 3 1 1 ([s0].map (Value.int .i64)) v_ p_ | 4 => v_ = .pointer (some ⟨b6, 0 + 0, none⟩) ∧ p_ = [] | 5 => v_ = r.nv ∧ p_ = [] | 6 => v_ = .int .i64 (k : Int) ∧ p_ = [] | 7 => v_ = elP r.nv (((k : Int)).toNat * 1) ∧ p_ = [] | 8 => v_ = .int .i64 (r.ns.getD k 0) ∧ p_ = [] | 9 => (fun v' post => ∃ xs : List Int, post = [rowE 3 1 v' xs.length (xs.map (Value.int .i64))] ∧ ∃ D x, DistOk zs.length (srcI d) zs ([s0]) D ∧ x ∈ ([s0]) ∧ CP zs.length (srcI d) zs ([s0]) D (r.ns.getD k 0) x xs) v_ p_ | _ => True) (List.take_append_drop 10 _).symm (by kernel_rfl) (by kernel_rfl) rfl rfl ?_ ?_
    ·
     refine ⟨?_, ?_, ?_, ?_, ?_, ?_, ?_, ?_, ?_, ?_, trivial⟩
     ·
      intro vf pf hR
      refine Or.inl ⟨rfl, ?_⟩
      refine rq_less (sx 3 rfl (sub_nil _)) (List.sublist_append_right _ _) ?_
      exact rq_v (rv_loadN (cs := [.int .i64 d.W, .int .i64 d.H, .int .i64 d.T, .int .i64 d.R]) rfl (by kernel_rfl) (by kernel_rfl) rfl rfl (box_part 3 rfl 0 rfl))
     ·
      intro vf pf hR
      refine Or.inl ⟨rfl, ?_⟩
      refine rq_less (sx 7 rfl (sub_nil _)) (List.sublist_append_right _ _) ?_
      exact rq_v (rv_ev rfl)
     ·
      intro vf pf hR
      refine Or.inl ⟨rfl, ?_⟩
      refine rq_less (sx 4 rfl (sub_nil _)) (List.sublist_append_right _ _) ?_
      exact rq_v (rv_ev rfl)
     ·
      intro vf pf hR
      have e2 : (vf 2) = .int .i64 s0 ∧ (pf 2) = [] := hR 2 (by decide)
      refine Or.inl ⟨rfl, ?_⟩
      refine rq_less (sx 59 (congrArg some e2.1) (sub_nil _)) (List.sublist_append_right _ _) ?_
      exact rq_buildSlice (z := .int .i64 0) (s := 1) (cs := ([s0].map (Value.int .i64))) rfl Try.underlying26 (by kernel_rfl) (by decide) rfl (by kernel_rfl) rfl
     ·
      intro vf pf hR
      refine Or.inl ⟨rfl, ?_⟩
      refine rq_less (sx 6 rfl (sub_nil _)) (List.sublist_append_right _ _) ?_
      exact rq_v (rv_field (k0 := 0) rfl (by kernel_rfl) rfl)
     ·
      intro vf pf hR
      have e4 : (vf 4) = .pointer (some ⟨b6, 0 + 0, none⟩) ∧ (pf 4) = [] := hR 4 (by decide)
      refine Or.inl ⟨rfl, ?_⟩
      refine rq_less (sx 61 (congrArg some e4.1) (sub_nil _)) (List.sublist_append_right _ _) ?_
      exact rq_v (rv_load rfl (by kernel_rfl) rfl (box_cell 2 rfl rfl))
     ·
      intro vf pf hR
      refine Or.inl ⟨rfl, ?_⟩
      refine rq_less (sx 10 rfl (sub_nil _)) (List.sublist_append_right _ _) ?_
      exact rq_v (rv_ev rfl)
     ·
      intro vf pf hR
      have e5 : (vf 5) = r.nv ∧ (pf 5) = [] := hR 5 (by decide)
      have e6 : (vf 6) = .int .i64 (k : Int) ∧ (pf 6) = [] := hR 6 (by decide)
      refine Or.inl ⟨rfl, ?_⟩
      refine rq_less (sx 62 (congrArg some e5.1) (sx 63 (congrArg some e6.1) (sub_nil _))) (List.sublist_append_right _ _) ?_
      exact rq_v (rv_index (s := 1) rfl Try.underlying26 (by kernel_rfl) rfl rfl (fun w hm => (rt_rds 4 rfl w hm).1) (by omega) (by first | omega | (simp only [List.length_set]; omega)))
     ·
      intro vf pf hR
      have e7 : (vf 7) = elP r.nv (((k : Int)).toNat * 1) ∧ (pf 7) = [] := hR 7 (by decide)
      refine Or.inl ⟨rfl, ?_⟩
      refine rq_less (sx 64 (congrArg some e7.1) (sub_nil _)) (List.sublist_append_right _ _) ?_
      exact rq_v (rv_loadEl (u := .int .i64 (r.ns.getD k 0)) rfl (by kernel_rfl) rfl (fun w hm => (rt_rds 4 rfl w hm).1) (ints_at1 (show _ < r.ns.length by first | omega | (simp only [List.length_set]; omega))))
     ·
      intro vf pf hR
      have e0 : (vf 0) = .agg #[.int .i64 d.W, .int .i64 d.H, .int .i64 d.T, .int .i64 d.R] ∧ (pf 0) = [] := hR 0 (by decide)
      have e1 : (vf 1) = u ∧ (pf 1) = [] := hR 1 (by decide)
      have e3 : IsRow_o 3 1 1 ([s0].map (Value.int .i64)) (vf 3) (pf 3) := hR 3 (by decide)
      obtain ⟨g18, v3, p3⟩ := e3
      have e8 : (vf 8) = .int .i64 (r.ns.getD k 0) ∧ (pf 8) = [] := hR 8 (by decide)
      refine Or.inl ⟨rfl, ?_⟩
      refine rq_less (l' := [rowE 3 1 (.slice (some ⟨g18, 0, none⟩) 1 1) 1 ([s0].map (Value.int .i64)), rowE 3 1 v13 D.length (D.map (Value.int .i64)), rowE 3 1 u zs.length (zs.map (Value.int .i64)), boxE b6 #[r.nv, r.fv] 28, boxE b5 #[.int .i64 d.W, .int .i64 d.H, .int .i64 d.T, .int .i64 d.R] 25, rtE r, rowE 3 1 sv ks.length (ks.map (Value.int .i64))]) (sx 57 (congrArg some e0.1) (sx 58 (congrArg some e1.1) (sx 60 (congrArg some v3) (sx 65 (congrArg some e8.1) (sub_nil _))))) (by first | (simp only [p3, v3, e0.2, e1.2, e8.2, List.flatMap_cons, List.flatMap_nil, List.append_nil, List.nil_append, List.cons_append]; exact List.Sublist.refl _) | simp [p3, v3, e0.2, e1.2, e8.2]) ?_
      exact rq_call (by kernel_rfl) rfl (fun w hm => CheapestPath_ret d zs [s0] _ _ (r.ns.getD k 0) w hd ((rd_row 2 rfl) w hm) hcl hcr ((rd_row 0 rfl) w hm) (by simp) (by rw [List.forall_mem_singleton]; exact hrt.ok) hxr (fun D hD => tree_reach (by omega) htr hD (List.mem_singleton.2 rfl) k k (Nat.le_refl _) (by omega)))
    ·
     intro vf pf hR
     have e3 : IsRow_o 3 1 1 ([s0].map (Value.int .i64)) (vf 3) (pf 3) := hR 3 (by decide)
     obtain ⟨g18, v3, p3⟩ := e3
     have e9 : (fun v' post => ∃ xs : List Int, post = [rowE 3 1 v' xs.length (xs.map (Value.int .i64))] ∧ ∃ D x, DistOk zs.length (srcI d) zs ([s0]) D ∧ x ∈ ([s0]) ∧ CP zs.length (srcI d) zs ([s0]) D (r.ns.getD k 0) x xs) (vf 9) (pf 9) := hR 9 (by decide)
     obtain ⟨v19, v9⟩ : ∃ x, vf 9 = x := ⟨_, rfl⟩
     obtain ⟨p20, p9⟩ : ∃ x, pf 9 = x := ⟨_, rfl⟩
     have hR21 := e9
     rw [v9, p9] at hR21
     obtain ⟨xs, rfl, D2, x0, hD2, hx0, hcp⟩ := hR21
     have hxl := hcp.l0
     have hxm := hcp.len
     have q0 : (vf 0) = .agg #[.int .i64 d.W, .int .i64 d.H, .int .i64 d.T, .int .i64 d.R] ∧ (pf 0) = [] := hR 0 (by decide)
     have q1 : (vf 1) = u ∧ (pf 1) = [] := hR 1 (by decide)
     have q2 : (vf 2) = .int .i64 s0 ∧ (pf 2) = [] := hR 2 (by decide)
     have q4 : (vf 4) = .pointer (some ⟨b6, 0 + 0, none⟩) ∧ (pf 4) = [] := hR 4 (by decide)
     have q5 : (vf 5) = r.nv ∧ (pf 5) = [] := hR 5 (by decide)
     have q6 : (vf 6) = .int .i64 (k : Int) ∧ (pf 6) = [] := hR 6 (by decide)
     have q7 : (vf 7) = elP r.nv (((k : Int)).toNat * 1) ∧ (pf 7) = [] := hR 7 (by decide)
     have q8 : (vf 8) = .int .i64 (r.ns.getD k 0) ∧ (pf 8) = [] := hR 8 (by decide)
     refine hl_less (l' := [rowE 3 1 (.slice (some ⟨g18, 0, none⟩) 1 1) 1 ([s0].map (Value.int .i64)), rowE 3 1 v19 xs.length (xs.map (Value.int .i64)), rowE 3 1 v13 D.length (D.map (Value.int .i64)), rowE 3 1 u zs.length (zs.map (Value.int .i64)), boxE b6 #[r.nv, r.fv] 28, boxE b5 #[.int .i64 d.W, .int .i64 d.H, .int .i64 d.T, .int .i64 d.R] 25, rtE r, rowE 3 1 sv ks.length (ks.map (Value.int .i64))]) (sx 0 rfl (sx 2 rfl (sx 3 rfl (sx 4 rfl (sx 6 rfl (sx 7 rfl (sx 8 rfl (sx 9 rfl (sx 10 rfl (sx 11 rfl (sx 15 rfl (sx 27 rfl (sx 47 rfl (sx 66 (congrArg some v9) (sub_nil _))))))))))))))) (by first | (simp only [p3, v3, p9, v9, q0.2, q1.2, q2.2, q4.2, q5.2, q6.2, q7.2, q8.2, List.flatMap_cons, List.flatMap_nil, List.append_nil, List.nil_append, List.cons_append]; exact List.Sublist.refl _) | simp [p3, v3, p9, v9, q0.2, q1.2, q2.2, q4.2, q5.2, q6.2, q7.2, q8.2]) ?_
     simp only [List.drop_succ_cons, List.drop_zero]
     refine hl_v rfl rfl rfl (rv_ev rfl) ?_
     refine hl_less (sx 0 rfl (sx 2 rfl (sx 3 rfl (sx 4 rfl (sx 6 rfl (sx 7 rfl (sx 8 rfl (sx 9 rfl (sx 10 rfl (sx 11 rfl (sx 12 rfl (sx 15 rfl (sx 27 rfl (sx 47 rfl (sub_nil _))))))))))))))) (.refl _) ?_
     refine hl_nil ?_
     refine hq_then ?_
     refine hc_seq ?_
     refine hc_draw (by kernel_rfl) 6 [0, 1, 2, 3, 4, 5] (List.take 6 _) (List.drop 6 _) [[], [], [], [], [2, 3], [0, 1, 4]] [67, 68, 69, 70, 71, 72] (fun i_ vs_ v_ p_ => match i_ with | 0 => v_ = .agg #[.int .i64 d.W, .int .i64 d.H, .int .i64 d.T, .int .i64 d.R] ∧ p_ = [] | 1 => v_ = u ∧ p_ = [] | 2 => v_ = .agg #[r.nv, r.fv] ∧ p_ = [] | 3 => v_ = .int .i64 (k : Int) ∧ p_ = [] | 4 => (fun v' post => ∃ ys : List Int, post = [rowE 3 1 v' ys.length (ys.map (Value.int .i64))] ∧ PathP d r.ns k ys) v_ p_ | 5 => (fun v' post => ∃ ys : List Int, PathP d r.ns k ys ∧ v' = .int .i64 (pcst zs ys (ys.length - 1)) ∧ post = []) v_ p_ | _ => True) (List.take_append_drop 6 _).symm (by kernel_rfl) (by kernel_rfl) rfl rfl ?_ ?_
     ·
      refine ⟨?_, ?_, ?_, ?_, ?_, ?_, trivial⟩
      ·
       intro vf pf hR
       refine Or.inl ⟨rfl, ?_⟩
       refine rq_less (sx 3 rfl (sub_nil _)) (List.sublist_append_right _ _) ?_
       exact rq_v (rv_loadN (cs := [.int .i64 d.W, .int .i64 d.H, .int .i64 d.T, .int .i64 d.R]) rfl (by kernel_rfl) (by kernel_rfl) rfl rfl (box_part 5 rfl 0 rfl))
      ·
       intro vf pf hR
       refine Or.inl ⟨rfl, ?_⟩
       refine rq_less (sx 7 rfl (sub_nil _)) (List.sublist_append_right _ _) ?_
       exact rq_v (rv_ev rfl)
      ·
       intro vf pf hR
       refine Or.inl ⟨rfl, ?_⟩
       refine rq_less (sx 6 rfl (sub_nil _)) (List.sublist_append_right _ _) ?_
       exact rq_v (rv_loadN (cs := [r.nv, r.fv]) rfl (by kernel_rfl) (by kernel_rfl) rfl rfl (box_part 4 rfl 0 rfl))
      ·
       intro vf pf hR
       refine Or.inl ⟨rfl, ?_⟩
       refine rq_less (sx 10 rfl (sub_nil _)) (List.sublist_append_right _ _) ?_
       exact rq_v (rv_ev rfl)
      ·
       intro vf pf hR
       have e2 : (vf 2) = .agg #[r.nv, r.fv] ∧ (pf 2) = [] := hR 2 (by decide)
       have e3 : (vf 3) = .int .i64 (k : Int) ∧ (pf 3) = [] := hR 3 (by decide)
       refine Or.inl ⟨rfl, ?_⟩
       refine rq_less (sx 69 (congrArg some e2.1) (sx 70 (congrArg some e3.1) (sub_nil _))) (List.sublist_append_right _ _) ?_
       exact rq_call (by kernel_rfl) rfl (fun w hm => PathTo_ret d s0 r ks k w hrt (rt_rds 6 rfl w hm).1 (rt_rds 6 rfl w hm).2 (by omega))
      ·
       intro vf pf hR
       have e0 : (vf 0) = .agg #[.int .i64 d.W, .int .i64 d.H, .int .i64 d.T, .int .i64 d.R] ∧ (pf 0) = [] := hR 0 (by decide)
       have e1 : (vf 1) = u ∧ (pf 1) = [] := hR 1 (by decide)
       have e4 : (fun v' post => ∃ ys : List Int, post = [rowE 3 1 v' ys.length (ys.map (Value.int .i64))] ∧ PathP d r.ns k ys) (vf 4) (pf 4) := hR 4 (by decide)
       obtain ⟨v22, v4⟩ : ∃ x, vf 4 = x := ⟨_, rfl⟩
       obtain ⟨p23, p4⟩ : ∃ x, pf 4 = x := ⟨_, rfl⟩
       have hR24 := e4
       rw [v4, p4] at hR24
       obtain ⟨ys, rfl, hp⟩ := hR24
       have hp0 := hp.l0
       have hp1 := hp.l1
       have hp2 := hp.two
       have hg0 : getI ys 0 = s0 := by unfold getI; rw [if_pos (by omega)]; exact hp.first.trans htr.root
       have hg1 : getI ys ((ys.length : Int) - 1) = r.ns.getD k 0 := by unfold getI; rw [if_pos (by omega), show ((ys.length : Int) - 1).toNat = ys.length - 1 by omega]; exact hp.last
       refine Or.inl ⟨rfl, ?_⟩
       refine rq_less (l' := [rowE 3 1 v22 ys.length (ys.map (Value.int .i64)), rowE 3 1 (.slice (some ⟨g18, 0, none⟩) 1 1) 1 ([s0].map (Value.int .i64)), rowE 3 1 v19 xs.length (xs.map (Value.int .i64)), rowE 3 1 v13 D.length (D.map (Value.int .i64)), rowE 3 1 u zs.length (zs.map (Value.int .i64)), boxE b6 #[r.nv, r.fv] 28, boxE b5 #[.int .i64 d.W, .int .i64 d.H, .int .i64 d.T, .int .i64 d.R] 25, rtE r, rowE 3 1 sv ks.length (ks.map (Value.int .i64))]) (sx 67 (congrArg some e0.1) (sx 68 (congrArg some e1.1) (sx 71 (congrArg some v4) (sub_nil _)))) (by first | (simp only [p4, v4, e0.2, e1.2, List.flatMap_cons, List.flatMap_nil, List.append_nil, List.nil_append, List.cons_append]; exact List.Sublist.refl _) | simp [p4, v4, e0.2, e1.2]) ?_
       exact rq_mono (rq_call (by kernel_rfl) rfl (fun w hm => ret_ans (PathCost_ans d zs ys _ _ w hd ((rd_row 4 rfl) w hm) hcl hcr ((rd_row 0 rfl) w hm) (by omega) (by have := hp.first; rw [this, htr.root]; exact hrt.ok) hp.chain))) (fun v_ p_ h => ⟨ys, hp, h.1, h.2⟩)
     ·
      intro vf pf hR
      have e4 : (fun v' post => ∃ ys : List Int, post = [rowE 3 1 v' ys.length (ys.map (Value.int .i64))] ∧ PathP d r.ns k ys) (vf 4) (pf 4) := hR 4 (by decide)
      obtain ⟨v22, v4⟩ : ∃ x, vf 4 = x := ⟨_, rfl⟩
      obtain ⟨p23, p4⟩ : ∃ x, pf 4 = x := ⟨_, rfl⟩
      have hR24 := e4
      rw [v4, p4] at hR24
      obtain ⟨ys, rfl, hp⟩ := hR24
      have hp0 := hp.l0
      have hp1 := hp.l1
      have hp2 := hp.two
      have hg0 : getI ys 0 = s0 := by unfold getI; rw [if_pos (by omega)]; exact hp.first.trans htr.root
      have hg1 : getI ys ((ys.length : Int) - 1) = r.ns.getD k 0 := by unfold getI; rw [if_pos (by omega), show ((ys.length : Int) - 1).toNat = ys.length - 1 by omega]; exact hp.last
      have e5 : (fun v' post => ∃ ys : List Int, PathP d r.ns k ys ∧ v' = .int .i64 (pcst zs ys (ys.length - 1)) ∧ post = []) (vf 5) (pf 5) := hR 5 (by decide)
      obtain ⟨v25, v5⟩ : ∃ x, vf 5 = x := ⟨_, rfl⟩
      obtain ⟨p26, p5⟩ : ∃ x, pf 5 = x := ⟨_, rfl⟩
      have hR27 := e5
      rw [v5, p5] at hR27
      obtain ⟨ys2, hp2, rfl, rfl⟩ := hR27
      have q0 : (vf 0) = .agg #[.int .i64 d.W, .int .i64 d.H, .int .i64 d.T, .int .i64 d.R] ∧ (pf 0) = [] := hR 0 (by decide)
      have q1 : (vf 1) = u ∧ (pf 1) = [] := hR 1 (by decide)
      have q2 : (vf 2) = .agg #[r.nv, r.fv] ∧ (pf 2) = [] := hR 2 (by decide)
      have q3 : (vf 3) = .int .i64 (k : Int) ∧ (pf 3) = [] := hR 3 (by decide)
      refine hl_less (l' := [rowE 3 1 v22 ys.length (ys.map (Value.int .i64)), rowE 3 1 (.slice (some ⟨g18, 0, none⟩) 1 1) 1 ([s0].map (Value.int .i64)), rowE 3 1 v19 xs.length (xs.map (Value.int .i64)), rowE 3 1 v13 D.length (D.map (Value.int .i64)), rowE 3 1 u zs.length (zs.map (Value.int .i64)), boxE b6 #[r.nv, r.fv] 28, boxE b5 #[.int .i64 d.W, .int .i64 d.H, .int .i64 d.T, .int .i64 d.R] 25, rtE r, rowE 3 1 sv ks.length (ks.map (Value.int .i64))]) (sx 0 rfl (sx 2 rfl (sx 3 rfl (sx 4 rfl (sx 6 rfl (sx 7 rfl (sx 8 rfl (sx 9 rfl (sx 10 rfl (sx 11 rfl (sx 12 rfl (sx 15 rfl (sx 27 rfl (sx 47 rfl (sx 72 (congrArg some v5) (sub_nil _)))))))))))))))) (by first | (simp only [p4, v4, p5, v5, q0.2, q1.2, q2.2, q3.2, List.flatMap_cons, List.flatMap_nil, List.append_nil, List.nil_append, List.cons_append]; exact List.Sublist.refl _) | simp [p4, v4, p5, v5, q0.2, q1.2, q2.2, q3.2]) ?_
      simp only [List.drop_succ_cons, List.drop_zero]
      refine hl_v rfl rfl rfl (rv_ev rfl) ?_
      refine hl_less (sx 0 rfl (sx 2 rfl (sx 3 rfl (sx 4 rfl (sx 6 rfl (sx 7 rfl (sx 8 rfl (sx 9 rfl (sx 10 rfl (sx 11 rfl (sx 12 rfl (sx 13 rfl (sx 15 rfl (sx 27 rfl (sx 47 rfl (sub_nil _)))))))))))))))) (.refl _) ?_
      refine hl_nil ?_
      refine hq_then ?_
      refine hc_seq ?_
      have hxb := hD2.rng (r.ns.getD k 0) hxr.1 (by omega)
      have hxz := hcp.pos
      have hq1 : gI D2 (r.ns.getD k 0) = gI D (r.ns.getD k 0) := dist_eq hcl hcr hD hD2 hxr.1 hxr.2 hDp
      have hq2 := hcp.cost (xs.length - 1) (by omega)
      rw [hcp.last] at hq2
      have hx0s : x0 = s0 := List.mem_singleton.1 hx0
      have hq3 : gI D2 x0 = 0 := hD2.sts _ hx0
      have hq4 := chain_le hD (ys := ys2) (fun i hi => by have := (nodeOk_rng (chain_node (by rw [hp2.first, htr.root]; exact hrt.ok) hp2.chain i hi)).2; omega) (fun i hi => hasB_mem.1 (hp2.chain i hi)) (by rw [hp2.first, htr.root]; exact hD.sts _ (List.mem_singleton.2 rfl)) (ys2.length - 1) (by have := hp2.l0; omega)
      rw [hp2.last] at hq4
      have hg9 : getI xs 0 = s0 := by unfold getI; rw [if_pos (by omega)]; exact hcp.first.trans hx0s
      have hg8 : getI xs ((xs.length : Int) - 1) = r.ns.getD k 0 := by unfold getI; rw [if_pos (by omega), show ((xs.length : Int) - 1).toNat = xs.length - 1 by omega]; exact hcp.last
      have hb28 : (decide (getI D (r.ns.getD k 0) < 0)) = false := decide_eq_false (by omega)
      have hb29 : (decide (pcst zs ys2 (ys2.length - 1) < getI D (r.ns.getD k 0))) = false := decide_eq_false (by omega)
      have hb30 : ((pcst zs xs (xs.length - 1)) != (getI D (r.ns.getD k 0))) = false := Bool.eq_false_iff.2 (fun h => bne_iff_ne.1 h (by omega))
      have hb31 : ((getI xs 0) != s0) = false := Bool.eq_false_iff.2 (fun h => bne_iff_ne.1 h (by omega))
      have hb32 : ((getI xs ((xs.length : Int) - 1)) != (r.ns.getD k 0)) = false := Bool.eq_false_iff.2 (fun h => bne_iff_ne.1 h (by omega))
      refine hc_draw (by kernel_rfl) 34 [0, 1, 2, 3, 4, 5, 6, 7, 8, 9, 10, 11, 12, 13, 14, 15, 16, 17, 18, 19, 20, 21, 22, 23, 24, 25, 26, 27, 28, 29, 30, 31, 32, 33] (List.take 34 _) (List.drop 34 _) [[], [0], [1], [2], [2], [2, 3, 4], [2, 5], [6], [7], [7], [7], [7, 8, 9, 10], [7], [7, 11, 12], [7, 13], [14], [15], [15, 16], [15], [15, 17, 18], [15, 19], [20], [21], [21], [21, 23], [21, 24], [21, 22, 25], [21], [21, 27], [21], [21, 28, 29], [21, 30], [21, 26, 31], [21, 32]] [73, 74, 75, 76, 77, 78, 79, 80, 81, 82, 83, 84, 85, 86, 87, 88, 89, 90, 91, 92, 93, 94, 95, 96, 97, 98, 99, 100, 101, 102, 103, 104, 105, 106] (fun i_ vs_ v_ p_ => match i_ with | 0 => v_ = .int .i64 (getI D (r.ns.getD k 0)) ∧ p_ = [] | 1 => v_ = .bool false ∧ p_ = [] | 2 => v_ = .bool false ∧ p_ = [] | 3 => v_ = .int .i64 (pcst zs ys2 (ys2.length - 1)) ∧ p_ = [] | 4 => v_ = .int .i64 (getI D (r.ns.getD k 0)) ∧ p_ = [] | 5 => v_ = .bool false ∧ p_ = [] | 6 => v_ = .bool false ∧ p_ = [] | 7 => v_ = .bool false ∧ p_ = [] | 8 => v_ = .agg #[.int .i64 d.W, .int .i64 d.H, .int .i64 d.T, .int .i64 d.R] ∧ p_ = [] | 9 => v_ = u ∧ p_ = [] | 10 => v_ = v19 ∧ p_ = [] | 11 => v_ = .int .i64 (pcst zs xs (xs.length - 1)) ∧ p_ = [] | 12 => v_ = .int .i64 (getI D (r.ns.getD k 0)) ∧ p_ = [] | 13 => v_ = .bool false ∧ p_ = [] | 14 => v_ = .bool false ∧ p_ = [] | 15 => v_ = .bool false ∧ p_ = [] | 16 => v_ = v19 ∧ p_ = [] | 17 => v_ = .int .i64 (getI xs 0) ∧ p_ = [] | 18 => v_ = .int .i64 s0 ∧ p_ = [] | 19 => v_ = .bool false ∧ p_ = [] | 20 => v_ = .bool false ∧ p_ = [] | 21 => v_ = .bool false ∧ p_ = [] | 22 => v_ = v19 ∧ p_ = [] | 23 => v_ = v19 ∧ p_ = [] | 24 => v_ = .int .i64 (xs.length : Int) ∧ p_ = [] | 25 => v_ = .int .i64 ((xs.length : Int) - 1) ∧ p_ = [] | 26 => v_ = .int .i64 (getI xs ((xs.length : Int) - 1)) ∧ p_ = [] | 27 => v_ = .pointer (some ⟨b6, 0 + 0, none⟩) ∧ p_ = [] | 28 => v_ = r.nv ∧ p_ = [] | 29 => v_ = .int .i64 (k : Int) ∧ p_ = [] | 30 => v_ = elP r.nv (((k : Int)).toNat * 1) ∧ p_ = [] | 31 => v_ = .int .i64 (r.ns.getD k 0) ∧ p_ = [] | 32 => v_ = .bool false ∧ p_ = [] | 33 => v_ = .bool false ∧ p_ = [] | _ => True) (List.take_append_drop 34 _).symm (by kernel_rfl) (by kernel_rfl) rfl rfl ?_ ?_
      ·
       refine ⟨?_, ?_, ?_, ?_, ?_, ?_, ?_, ?_, ?_, ?_, ?_, ?_, ?_, ?_, ?_, ?_, ?_, ?_, ?_, ?_, ?_, ?_, ?_, ?_, ?_, ?_, ?_, ?_, ?_, ?_, ?_, ?_, ?_, ?_, trivial⟩
       ·
        intro vf pf hR
        refine Or.inl ⟨rfl, ?_⟩
        refine rq_less (sx 11 rfl (sub_nil _)) (List.sublist_append_right _ _) ?_
        exact rq_v (rv_ev rfl)
       ·
        intro vf pf hR
        have e0 : (vf 0) = .int .i64 (getI D (r.ns.getD k 0)) ∧ (pf 0) = [] := hR 0 (by decide)
        refine Or.inl ⟨rfl, ?_⟩
        refine rq_less (sx 73 (congrArg some e0.1) (sub_nil _)) (List.sublist_append_right _ _) ?_
        exact rq_mono (rq_v (rv_cmp rfl rfl rfl rfl)) (fun _ _ h => ⟨h.1.trans (congrArg Value.bool hb28), h.2⟩)
       ·
        intro vf pf hR
        have e1 : (vf 1) = .bool false ∧ (pf 1) = [] := hR 1 (by decide)
        refine Or.inl ⟨rfl, ?_⟩
        refine rq_less (sx 74 (congrArg some e1.1) (sub_nil _)) (List.sublist_append_right _ _) ?_
        exact rq_v (rv_ev rfl)
       ·
        intro vf pf hR
        have e2 : (vf 2) = .bool false ∧ (pf 2) = [] := hR 2 (by decide)
        refine Or.inl ⟨want_of (congrArg some e2.1) rfl, ?_⟩
        refine rq_less (sx 13 rfl (sub_nil _)) (List.sublist_append_right _ _) ?_
        exact rq_v (rv_ev rfl)
       ·
        intro vf pf hR
        have e2 : (vf 2) = .bool false ∧ (pf 2) = [] := hR 2 (by decide)
        refine Or.inl ⟨want_of (congrArg some e2.1) rfl, ?_⟩
        refine rq_less (sx 11 rfl (sub_nil _)) (List.sublist_append_right _ _) ?_
        exact rq_v (rv_ev rfl)
       ·
        intro vf pf hR
        have e2 : (vf 2) = .bool false ∧ (pf 2) = [] := hR 2 (by decide)
        have e3 : (vf 3) = .int .i64 (pcst zs ys2 (ys2.length - 1)) ∧ (pf 3) = [] := hR 3 (by decide)
        have e4 : (vf 4) = .int .i64 (getI D (r.ns.getD k 0)) ∧ (pf 4) = [] := hR 4 (by decide)
        refine Or.inl ⟨want_of (congrArg some e2.1) rfl, ?_⟩
        refine rq_less (sx 76 (congrArg some e3.1) (sx 77 (congrArg some e4.1) (sub_nil _))) (List.sublist_append_right _ _) ?_
        exact rq_mono (rq_v (rv_cmp rfl rfl rfl rfl)) (fun _ _ h => ⟨h.1.trans (congrArg Value.bool hb29), h.2⟩)
       ·
        intro vf pf hR
        have e2 : (vf 2) = .bool false ∧ (pf 2) = [] := hR 2 (by decide)
        have e5 : (vf 5) = .bool false ∧ (pf 5) = [] := hR 5 (by decide)
        refine Or.inl ⟨rfl, ?_⟩
        refine rq_less (sx 75 (congrArg some e2.1) (sx 78 (congrArg some e5.1) (sub_nil _))) (List.sublist_append_right _ _) ?_
        exact rq_v (rv_ev rfl)
       ·
        intro vf pf hR
        have e6 : (vf 6) = .bool false ∧ (pf 6) = [] := hR 6 (by decide)
        refine Or.inl ⟨rfl, ?_⟩
        refine rq_less (sx 79 (congrArg some e6.1) (sub_nil _)) (List.sublist_append_right _ _) ?_
        exact rq_v (rv_ev rfl)
       ·
        intro vf pf hR
        have e7 : (vf 7) = .bool false ∧ (pf 7) = [] := hR 7 (by decide)
        refine Or.inl ⟨want_of (congrArg some e7.1) rfl, ?_⟩
        refine rq_less (sx 3 rfl (sub_nil _)) (List.sublist_append_right _ _) ?_
        exact rq_v (rv_loadN (cs := [.int .i64 d.W, .int .i64 d.H, .int .i64 d.T, .int .i64 d.R]) rfl (by kernel_rfl) (by kernel_rfl) rfl rfl (box_part 6 rfl 0 rfl))
       ·
        intro vf pf hR
        have e7 : (vf 7) = .bool false ∧ (pf 7) = [] := hR 7 (by decide)
        refine Or.inl ⟨want_of (congrArg some e7.1) rfl, ?_⟩
        refine rq_less (sx 7 rfl (sub_nil _)) (List.sublist_append_right _ _) ?_
        exact rq_v (rv_ev rfl)
       ·
        intro vf pf hR
        have e7 : (vf 7) = .bool false ∧ (pf 7) = [] := hR 7 (by decide)
        refine Or.inl ⟨want_of (congrArg some e7.1) rfl, ?_⟩
        refine rq_less (sx 12 rfl (sub_nil _)) (List.sublist_append_right _ _) ?_
        exact rq_v (rv_ev rfl)
       ·
        intro vf pf hR
        have e7 : (vf 7) = .bool false ∧ (pf 7) = [] := hR 7 (by decide)
        have e8 : (vf 8) = .agg #[.int .i64 d.W, .int .i64 d.H, .int .i64 d.T, .int .i64 d.R] ∧ (pf 8) = [] := hR 8 (by decide)
        have e9 : (vf 9) = u ∧ (pf 9) = [] := hR 9 (by decide)
        have e10 : (vf 10) = v19 ∧ (pf 10) = [] := hR 10 (by decide)
        refine Or.inl ⟨want_of (congrArg some e7.1) rfl, ?_⟩
        refine rq_less (sx 81 (congrArg some e8.1) (sx 82 (congrArg some e9.1) (sx 83 (congrArg some e10.1) (sub_nil _)))) (List.sublist_append_right _ _) ?_
        exact (rq_call (by kernel_rfl) rfl (fun w hm => ret_ans (PathCost_ans d zs xs _ _ w hd ((rd_row 4 rfl) w hm) hcl hcr ((rd_row 2 rfl) w hm) (by omega) (by rw [hcp.first, List.mem_singleton.1 hx0]; exact hrt.ok) (fun k hk => hasB_mem.2 (hcp.chain k hk).1))))
       ·
        intro vf pf hR
        have e7 : (vf 7) = .bool false ∧ (pf 7) = [] := hR 7 (by decide)
        refine Or.inl ⟨want_of (congrArg some e7.1) rfl, ?_⟩
        refine rq_less (sx 11 rfl (sub_nil _)) (List.sublist_append_right _ _) ?_
        exact rq_v (rv_ev rfl)
       ·
        intro vf pf hR
        have e7 : (vf 7) = .bool false ∧ (pf 7) = [] := hR 7 (by decide)
        have e11 : (vf 11) = .int .i64 (pcst zs xs (xs.length - 1)) ∧ (pf 11) = [] := hR 11 (by decide)
        have e12 : (vf 12) = .int .i64 (getI D (r.ns.getD k 0)) ∧ (pf 12) = [] := hR 12 (by decide)
        refine Or.inl ⟨want_of (congrArg some e7.1) rfl, ?_⟩
        refine rq_less (sx 84 (congrArg some e11.1) (sx 85 (congrArg some e12.1) (sub_nil _))) (List.sublist_append_right _ _) ?_
        exact rq_mono (rq_v (rv_cmp rfl rfl rfl rfl)) (fun _ _ h => ⟨h.1.trans (congrArg Value.bool hb30), h.2⟩)
       ·
        intro vf pf hR
        have e7 : (vf 7) = .bool false ∧ (pf 7) = [] := hR 7 (by decide)
        have e13 : (vf 13) = .bool false ∧ (pf 13) = [] := hR 13 (by decide)
        refine Or.inl ⟨rfl, ?_⟩
        refine rq_less (sx 80 (congrArg some e7.1) (sx 86 (congrArg some e13.1) (sub_nil _))) (List.sublist_append_right _ _) ?_
        exact rq_v (rv_ev rfl)
       ·
        intro vf pf hR
        have e14 : (vf 14) = .bool false ∧ (pf 14) = [] := hR 14 (by decide)
        refine Or.inl ⟨rfl, ?_⟩
        refine rq_less (sx 87 (congrArg some e14.1) (sub_nil _)) (List.sublist_append_right _ _) ?_
        exact rq_v (rv_ev rfl)
       ·
        intro vf pf hR
        have e15 : (vf 15) = .bool false ∧ (pf 15) = [] := hR 15 (by decide)
        refine Or.inl ⟨want_of (congrArg some e15.1) rfl, ?_⟩
        refine rq_less (sx 12 rfl (sub_nil _)) (List.sublist_append_right _ _) ?_
        exact rq_v (rv_ev rfl)
       ·
        intro vf pf hR
        have e15 : (vf 15) = .bool false ∧ (pf 15) = [] := hR 15 (by decide)
        have e16 : (vf 16) = v19 ∧ (pf 16) = [] := hR 16 (by decide)
        refine Or.inl ⟨want_of (congrArg some e15.1) rfl, ?_⟩
        refine rq_less (sx 89 (congrArg some e16.1) (sub_nil _)) (List.sublist_append_right _ _) ?_
        exact (rq_call (by kernel_rfl) rfl (fun w hm => ret_ans (lawsGet_ans xs 0 _ w ((rd_row 2 rfl) w hm) (by first | omega | simp))))
       ·
        intro vf pf hR
        have e15 : (vf 15) = .bool false ∧ (pf 15) = [] := hR 15 (by decide)
        refine Or.inl ⟨want_of (congrArg some e15.1) rfl, ?_⟩
        refine rq_less (sx 4 rfl (sub_nil _)) (List.sublist_append_right _ _) ?_
        exact rq_v (rv_ev rfl)
       ·
        intro vf pf hR
        have e15 : (vf 15) = .bool false ∧ (pf 15) = [] := hR 15 (by decide)
        have e17 : (vf 17) = .int .i64 (getI xs 0) ∧ (pf 17) = [] := hR 17 (by decide)
        have e18 : (vf 18) = .int .i64 s0 ∧ (pf 18) = [] := hR 18 (by decide)
        refine Or.inl ⟨want_of (congrArg some e15.1) rfl, ?_⟩
        refine rq_less (sx 90 (congrArg some e17.1) (sx 91 (congrArg some e18.1) (sub_nil _))) (List.sublist_append_right _ _) ?_
        exact rq_mono (rq_v (rv_cmp rfl rfl rfl rfl)) (fun _ _ h => ⟨h.1.trans (congrArg Value.bool hb31), h.2⟩)
       ·
        intro vf pf hR
        have e15 : (vf 15) = .bool false ∧ (pf 15) = [] := hR 15 (by decide)
        have e19 : (vf 19) = .bool false ∧ (pf 19) = [] := hR 19 (by decide)
        refine Or.inl ⟨rfl, ?_⟩
        refine rq_less (sx 88 (congrArg some e15.1) (sx 92 (congrArg some e19.1) (sub_nil _))) (List.sublist_append_right _ _) ?_
        exact rq_v (rv_ev rfl)
       ·
        intro vf pf hR
        have e20 : (vf 20) = .bool false ∧ (pf 20) = [] := hR 20 (by decide)
        refine Or.inl ⟨rfl, ?_⟩
        refine rq_less (sx 93 (congrArg some e20.1) (sub_nil _)) (List.sublist_append_right _ _) ?_
        exact rq_v (rv_ev rfl)
       ·
        intro vf pf hR
        have e21 : (vf 21) = .bool false ∧ (pf 21) = [] := hR 21 (by decide)
        refine Or.inl ⟨want_of (congrArg some e21.1) rfl, ?_⟩
        refine rq_less (sx 12 rfl (sub_nil _)) (List.sublist_append_right _ _) ?_
        exact rq_v (rv_ev rfl)
       ·
        intro vf pf hR
        have e21 : (vf 21) = .bool false ∧ (pf 21) = [] := hR 21 (by decide)
        refine Or.inl ⟨want_of (congrArg some e21.1) rfl, ?_⟩
        refine rq_less (sx 12 rfl (sub_nil _)) (List.sublist_append_right _ _) ?_
        exact rq_v (rv_ev rfl)
       ·
        intro vf pf hR
        have e21 : (vf 21) = .bool false ∧ (pf 21) = [] := hR 21 (by decide)
        have e23 : (vf 23) = v19 ∧ (pf 23) = [] := hR 23 (by decide)
        refine Or.inl ⟨want_of (congrArg some e21.1) rfl, ?_⟩
        refine rq_less (sx 96 (congrArg some e23.1) (sub_nil _)) (List.sublist_append_right _ _) ?_
        exact rq_v (rv_len rfl Try.underlying26 rfl (rd_row 2 rfl))
       ·
        intro vf pf hR
        have e21 : (vf 21) = .bool false ∧ (pf 21) = [] := hR 21 (by decide)
        have e24 : (vf 24) = .int .i64 (xs.length : Int) ∧ (pf 24) = [] := hR 24 (by decide)
        refine Or.inl ⟨want_of (congrArg some e21.1) rfl, ?_⟩
        refine rq_less (sx 97 (congrArg some e24.1) (sub_nil _)) (List.sublist_append_right _ _) ?_
        exact rq_v (rv_sub rfl rfl rfl (by constructor <;> omega))
       ·
        intro vf pf hR
        have e21 : (vf 21) = .bool false ∧ (pf 21) = [] := hR 21 (by decide)
        have e22 : (vf 22) = v19 ∧ (pf 22) = [] := hR 22 (by decide)
        have e25 : (vf 25) = .int .i64 ((xs.length : Int) - 1) ∧ (pf 25) = [] := hR 25 (by decide)
        refine Or.inl ⟨want_of (congrArg some e21.1) rfl, ?_⟩
        refine rq_less (sx 95 (congrArg some e22.1) (sx 98 (congrArg some e25.1) (sub_nil _))) (List.sublist_append_right _ _) ?_
        exact (rq_call (by kernel_rfl) rfl (fun w hm => ret_ans (lawsGet_ans xs ((xs.length : Int) - 1) _ w ((rd_row 2 rfl) w hm) (by first | omega | simp))))
       ·
        intro vf pf hR
        have e21 : (vf 21) = .bool false ∧ (pf 21) = [] := hR 21 (by decide)
        refine Or.inl ⟨want_of (congrArg some e21.1) rfl, ?_⟩
        refine rq_less (sx 6 rfl (sub_nil _)) (List.sublist_append_right _ _) ?_
        exact rq_v (rv_field (k0 := 0) rfl (by kernel_rfl) rfl)
       ·
        intro vf pf hR
        have e21 : (vf 21) = .bool false ∧ (pf 21) = [] := hR 21 (by decide)
        have e27 : (vf 27) = .pointer (some ⟨b6, 0 + 0, none⟩) ∧ (pf 27) = [] := hR 27 (by decide)
        refine Or.inl ⟨want_of (congrArg some e21.1) rfl, ?_⟩
        refine rq_less (sx 100 (congrArg some e27.1) (sub_nil _)) (List.sublist_append_right _ _) ?_
        exact rq_v (rv_load rfl (by kernel_rfl) rfl (box_cell 5 rfl rfl))
       ·
        intro vf pf hR
        have e21 : (vf 21) = .bool false ∧ (pf 21) = [] := hR 21 (by decide)
        refine Or.inl ⟨want_of (congrArg some e21.1) rfl, ?_⟩
        refine rq_less (sx 10 rfl (sub_nil _)) (List.sublist_append_right _ _) ?_
        exact rq_v (rv_ev rfl)
       ·
        intro vf pf hR
        have e21 : (vf 21) = .bool false ∧ (pf 21) = [] := hR 21 (by decide)
        have e28 : (vf 28) = r.nv ∧ (pf 28) = [] := hR 28 (by decide)
        have e29 : (vf 29) = .int .i64 (k : Int) ∧ (pf 29) = [] := hR 29 (by decide)
        refine Or.inl ⟨want_of (congrArg some e21.1) rfl, ?_⟩
        refine rq_less (sx 101 (congrArg some e28.1) (sx 102 (congrArg some e29.1) (sub_nil _))) (List.sublist_append_right _ _) ?_
        exact rq_v (rv_index (s := 1) rfl Try.underlying26 (by kernel_rfl) rfl rfl (fun w hm => (rt_rds 7 rfl w hm).1) (by omega) (by first | omega | (simp only [List.length_set]; omega)))
       ·
        intro vf pf hR
        have e21 : (vf 21) = .bool false ∧ (pf 21) = [] := hR 21 (by decide)
        have e30 : (vf 30) = elP r.nv (((k : Int)).toNat * 1) ∧ (pf 30) = [] := hR 30 (by decide)
        refine Or.inl ⟨want_of (congrArg some e21.1) rfl, ?_⟩
        refine rq_less (sx 103 (congrArg some e30.1) (sub_nil _)) (List.sublist_append_right _ _) ?_
        exact rq_v (rv_loadEl (u := .int .i64 (r.ns.getD k 0)) rfl (by kernel_rfl) rfl (fun w hm => (rt_rds 7 rfl w hm).1) (ints_at1 (show _ < r.ns.length by first | omega | (simp only [List.length_set]; omega))))
       ·
        intro vf pf hR
        have e21 : (vf 21) = .bool false ∧ (pf 21) = [] := hR 21 (by decide)
        have e26 : (vf 26) = .int .i64 (getI xs ((xs.length : Int) - 1)) ∧ (pf 26) = [] := hR 26 (by decide)
        have e31 : (vf 31) = .int .i64 (r.ns.getD k 0) ∧ (pf 31) = [] := hR 31 (by decide)
        refine Or.inl ⟨want_of (congrArg some e21.1) rfl, ?_⟩
        refine rq_less (sx 99 (congrArg some e26.1) (sx 104 (congrArg some e31.1) (sub_nil _))) (List.sublist_append_right _ _) ?_
        exact rq_mono (rq_v (rv_cmp rfl rfl rfl rfl)) (fun _ _ h => ⟨h.1.trans (congrArg Value.bool hb32), h.2⟩)
       ·
        intro vf pf hR
        have e21 : (vf 21) = .bool false ∧ (pf 21) = [] := hR 21 (by decide)
        have e32 : (vf 32) = .bool false ∧ (pf 32) = [] := hR 32 (by decide)
        refine Or.inl ⟨rfl, ?_⟩
        refine rq_less (sx 94 (congrArg some e21.1) (sx 105 (congrArg some e32.1) (sub_nil _))) (List.sublist_append_right _ _) ?_
        exact rq_v (rv_ev rfl)
      ·
       intro vf pf hR
       have e33 : (vf 33) = .bool false ∧ (pf 33) = [] := hR 33 (by decide)
       refine hl_less (l' := [rowE 3 1 v22 ys.length (ys.map (Value.int .i64)), rowE 3 1 (.slice (some ⟨g18, 0, none⟩) 1 1) 1 ([s0].map (Value.int .i64)), rowE 3 1 v19 xs.length (xs.map (Value.int .i64)), rowE 3 1 v13 D.length (D.map (Value.int .i64)), rowE 3 1 u zs.length (zs.map (Value.int .i64)), boxE b6 #[r.nv, r.fv] 28, boxE b5 #[.int .i64 d.W, .int .i64 d.H, .int .i64 d.T, .int .i64 d.R] 25, rtE r, rowE 3 1 sv ks.length (ks.map (Value.int .i64))]) (sx 0 rfl (sx 2 rfl (sx 3 rfl (sx 4 rfl (sx 6 rfl (sx 7 rfl (sx 8 rfl (sx 9 rfl (sx 10 rfl (sx 11 rfl (sx 12 rfl (sx 13 rfl (sx 15 rfl (sx 27 rfl (sx 47 rfl (sx 106 (congrArg some e33.1) (sub_nil _))))))))))))))))) (List.sublist_append_right _ _) ?_
       simp only [List.drop_succ_cons, List.drop_zero]
       refine hl_less (sx 0 rfl (sx 2 rfl (sx 3 rfl (sx 4 rfl (sx 6 rfl (sx 7 rfl (sx 8 rfl (sx 9 rfl (sx 10 rfl (sx 11 rfl (sx 12 rfl (sx 13 rfl (sx 15 rfl (sx 27 rfl (sx 47 rfl (sx 106 rfl (sub_nil _))))))))))))))))) (.refl _) ?_
       refine hl_nil ?_
       refine hq_then ?_
       refine hc_false rfl ?_
       refine hc_skip ?_
       refine hq_block_normal ?_
       refine hq_then ?_
       refine hc_region ?_
       refine hl_v rfl rfl rfl (rv_ev rfl) ?_
       refine hl_v rfl rfl rfl (rv_add rfl rfl rfl (by constructor <;> omega)) ?_
       refine hl_v rfl rfl rfl (rv_ev rfl) ?_
       refine hl_less (sx 0 rfl (sx 2 rfl (sx 3 rfl (sx 4 rfl (sx 6 rfl (sx 7 rfl (sx 8 rfl (sx 9 rfl (sx 10 rfl (sx 11 rfl (sx 12 rfl (sx 13 rfl (sx 15 rfl (sx 27 rfl (sx 47 rfl (sx 106 rfl (sub_nil _))))))))))))))))) (.refl _) ?_
       refine hl_nil ?_
       exact hq_round1 (k + 1) (by omega) (by omega) (sx 0 rfl (sx 2 rfl (sx 3 rfl (sx 4 rfl (sx 6 rfl (sx 7 rfl (sx 8 rfl (sx 9 rfl (sx 10 rfl (sx 15 rfl (sx 27 rfl (sub_nil _)))))))))))) ((.cons _ (.cons _ (.cons _ (.cons_cons _ (.cons_cons _ (.cons_cons _ (.cons_cons _ (.cons_cons _ (.cons_cons _ .slnil))))))))))
   ·
    refine hl_less (sx 0 rfl (sx 2 rfl (sx 3 rfl (sx 4 rfl (sx 6 rfl (sx 7 rfl (sx 8 rfl (sx 9 rfl (sx 10 rfl (sx 15 rfl (sx 27 rfl (sx 47 rfl (sub_nil _))))))))))))) (.refl _) ?_
    refine hl_nil ?_
    refine hq_then ?_
    refine hc_false rfl ?_
    refine hc_exit ?_
    refine hq_then_exit ?_
    refine hq_then_exit ?_
    refine hq_block_exit ?_
    refine hq_then ?_
    refine hc_seq ?_
    refine hc_region ?_
    have hg7 : getI D s0 = 0 := by unfold getI; rw [if_pos (by have := (nodeOk_rng hrt.ok).2; omega)]; exact hD.sts _ (List.mem_singleton.2 rfl)
    refine hl_v rfl rfl rfl (rv_loadN (cs := [.int .i64 d.W, .int .i64 d.H, .int .i64 d.T, .int .i64 d.R]) rfl (by kernel_rfl) (by kernel_rfl) rfl rfl (box_part 3 rfl 0 rfl)) ?_
    refine hl_v rfl rfl rfl (rv_ev rfl) ?_
    refine hl_callV rfl rfl rfl (rq_call (by kernel_rfl) rfl (fun w hm => ret_ans (CostsOk_yes d zs _ w hd ((rd_row 1 rfl) w hm) hcl hcr))) ?_
    refine hl_v rfl rfl rfl (rv_ev rfl) ?_
    refine hl_v rfl rfl rfl (rv_ev rfl) ?_
    refine hl_v rfl rfl rfl (rv_ev rfl) ?_
    refine hl_callV rfl rfl rfl (rq_call (by kernel_rfl) rfl (fun w hm => ret_ans (lawsGet_ans D s0 _ w ((rd_row 0 rfl) w hm) (by first | omega | simp)))) ?_
    refine hl_eql rfl rfl rfl rfl rfl rfl (fun h33 => ?_) (fun h33 => absurd h33 (by omega))
    refine hl_v rfl rfl rfl (rv_ev rfl) ?_
    refine hl_v rfl rfl rfl (rv_ev rfl) ?_
    refine hl_less (sx 0 rfl (sx 2 rfl (sx 3 rfl (sx 4 rfl (sx 6 rfl (sx 7 rfl (sx 8 rfl (sx 9 rfl (sx 10 rfl (sx 15 rfl (sx 27 rfl (sx 47 rfl (sub_nil _))))))))))))) (.refl _) ?_
    refine hl_nil ?_
    refine hq_then ?_
    refine hc_ret ?_
    exact hq_ans rfl rfl rfl
end Go.Proofs.Ytagjmgfcbmbkhaa
