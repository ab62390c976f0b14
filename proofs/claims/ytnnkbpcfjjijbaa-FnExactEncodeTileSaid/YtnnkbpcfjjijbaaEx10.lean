/- decodeTile: the walk. -/
import Derived.Test.YtnnkbpcfjjijbaaEx9
set_option linter.unusedVariables false
set_option linter.unusedSimpArgs false
namespace Go.Proofs.Ytnnkbpcfjjijbaa
open Go.RowKit

def muxs (d : Dev) : Int := 5 + 4 * d.T
def decLe (xs : List Int) (p : Int) : List Int × Int × Int × Int := ([getN xs p 3, getN xs (p + 3) 3, getN xs (p + 6) 3, getN xs (p + 9) 3], getN xs (p + 12) 16, getN xs (p + 28) 1, getN xs (p + 29) 1)
def decV (d : Dev) (xs : List Int) : List Int × List (List Int × Int × Int × Int) × Int × Int :=
  ((List.range (muxs d).toNat).map (fun m : Nat => getN xs (5 * m) 5), [decLe xs (5 * muxs d), decLe xs (5 * muxs d + 30)], getN xs (5 * muxs d + 60) 2, getN xs (5 * muxs d + 62) 5)
theorem list4 {ys : List Int} {a b c e : Int} (h : ys.length = 4) (h0 : ys.getD 0 0 = a) (h1 : ys.getD 1 0 = b) (h2 : ys.getD 2 0 = c) (h3 : ys.getD 3 0 = e) : ys = [a, b, c, e] := by
  match ys, h with
  | [x, y, z, u], _ => simp at h0 h1 h2 h3; subst h0 h1 h2 h3; rfl
theorem list2 {ys : List Le} {a b : List Int × Int × Int × Int} (h : ys.length = 2) (h0 : (ys.getD 0 Le0).val = a) (h1 : (ys.getD 1 Le0).val = b) : ys.map Le.val = [a, b] := by
  match ys, h with
  | [x, y], _ => simp at h0 h1; subst h0 h1; rfl
theorem empty_at {d : Dev} {t : Tc} (hv : devB d = true) (h : t.val = emptyT d) : t.mx.length = (muxs d).toNat ∧ t.es.length = 2 ∧ (∀ i, i < 2 → (t.es.getD i Le0).xs.length = 4) ∧ t.pad = 0 ∧ t.ram = 0 := by
  unfold emptyT at h
  rw [if_pos hv] at h
  simp only [Tc.val, Prod.mk.injEq] at h
  obtain ⟨h1, h2, h3, h4⟩ := h
  have hl : t.es.length = 2 := by simpa using congrArg List.length h2
  refine ⟨by rw [h1, List.length_replicate]; rfl, hl, fun i hi => ?_, h3, h4⟩
  match hes : t.es, hl with
  | [a, b], _ =>
    rw [hes] at h2
    simp only [List.map_cons, List.map_nil, List.cons.injEq, and_true] at h2
    rcases (show i = 0 ∨ i = 1 by omega) with rfl | rfl
    · show a.xs.length = 4; have := congrArg Prod.fst h2.1; rw [show a.xs = [0, 0, 0, 0] from this]; rfl
    · show b.xs.length = 4; have := congrArg Prod.fst h2.2; rw [show b.xs = [0, 0, 0, 0] from this]; rfl
set_option maxHeartbeats 4000000 in
set_option maxRecDepth 100000 in
theorem decodeTile_sl (d : Dev) (xs : List Int) (a_ : Option Addr) (cap_ : Nat) (w : World) (hd : devB d = true) (hv : RdsW w (.slice a_ xs.length cap_) 1 xs.length (xs.map (Value.int .i64))) (hxs : Words xs) (hfl : 92 + 20 * d.T ≤ 16 * (xs.length : Int)) (hlen : xs.length ≤ 1000000) :
    Calls Try.prog 106 #[.agg #[.int .i64 d.W, .int .i64 d.H, .int .i64 d.T, .int .i64 d.R], .slice a_ xs.length cap_] w (Ret w (IsTc (decV d xs))) := by
  obtain ⟨-, -, ⟨l1, l2⟩, -⟩ := (devB_iff d).1 hd
  have hmu0 : muxs d = 5 + 4 * d.T := rfl
  refine calls_hc (N := 84) (args := [.agg #[.int .i64 d.W, .int .i64 d.H, .int .i64 d.T, .int .i64 d.R], .slice a_ xs.length cap_]) Try.func106 rfl rfl ?_
  refine hc_less _ (sub_cons (d := 0) rfl (sub_cons (d := 1) rfl (sub_nil _))) (.refl _) ?_
  refine hc_seq ?_
  refine hc_region ?_
  refine hl_box rfl rfl rfl (rq_box rfl rfl) ?_
  intro b1
  refine hl_box rfl rfl rfl (rq_alloc (z := .agg #[.slice none 0 0, .slice none 0 0, .int .i64 0, .int .i64 0]) rfl (by kernel_rfl)) ?_
  intro b2
  refine hl_less (sub_cons (d := 0) rfl (sub_cons (d := 1) rfl (sub_cons (d := 2) rfl (sub_cons (d := 4) rfl (sub_nil _))))) (.refl _) ?_
  refine hl_nil ?_
  refine hq_then ?_
  refine hc_seq ?_
  refine hc_region ?_
  refine hl_v rfl rfl rfl (rv_ev rfl) ?_
  refine hl_v rfl rfl rfl (rv_build (cs := #[.slice a_ xs.length cap_, .int .i64 0]) rfl rfl (by kernel_rfl)) ?_
  refine hl_box rfl rfl rfl (rq_box rfl rfl) ?_
  intro b3
  refine hl_v rfl rfl rfl (rv_ev rfl) ?_
  refine hl_less (sub_cons (d := 0) rfl (sub_cons (d := 1) rfl (sub_cons (d := 2) rfl (sub_cons (d := 4) rfl (sub_cons (d := 5) rfl (sub_nil _)))))) (.refl _) ?_
  refine hl_nil ?_
  refine hq_then ?_
  refine hc_seq ?_
  refine hc_region ?_
  refine hl_v rfl rfl rfl (rv_loadN (cs := [.int .i64 d.W, .int .i64 d.H, .int .i64 d.T, .int .i64 d.R]) rfl (by kernel_rfl) (by kernel_rfl) rfl rfl (box_part 2 rfl 0 rfl)) ?_
  refine hl_q rfl rfl rfl (rq_call (by kernel_rfl) rfl (fun w hm => implEmptyTile_ret d w)) ?_
  intro v4 p5 hR6
  obtain ⟨t, rfl, rfl, ⟨c1t, c2t⟩, valt, n1t, n2t, n3t⟩ := hR6
  obtain ⟨ht1, ht2, ht3, ht4, ht5⟩ := empty_at hd valt
  refine hl_box rfl rfl rfl (rq_alloc (z := .agg #[.slice none 0 0, .slice none 0 0, .int .i64 0, .int .i64 0]) rfl (by kernel_rfl)) ?_
  intro b7
  refine hl_storeBoxN (i := 0) (off := 0) (us := [t.mv, t.lv, .int .i64 t.pad, .int .i64 t.ram]) (l' := [boxE b7 #[t.mv, t.lv, .int .i64 t.pad, .int .i64 t.ram] 39, tcE t, boxE b3 #[.slice a_ xs.length cap_, .int .i64 0] 129, boxE b2 #[.slice none 0 0, .slice none 0 0, .int .i64 0, .int .i64 0] 39, boxE b1 #[.int .i64 d.W, .int .i64 d.H, .int .i64 d.T, .int .i64 d.R] 25]) rfl rfl rfl (by kernel_rfl) rfl rfl rfl (all_cons c1t (all_cons c2t (all_cons rfl (all_cons rfl all_nil)))) rfl rfl rfl ?_
  refine hl_less (sub_cons (d := 0) rfl (sub_cons (d := 1) rfl (sub_cons (d := 2) rfl (sub_cons (d := 4) rfl (sub_cons (d := 5) rfl (sub_cons (d := 6) rfl (sub_nil _))))))) (.refl _) ?_
  refine hl_nil ?_
  refine hq_then ?_
  refine hc_seq ?_
  refine hc_seq ?_
  refine hc_region ?_
  refine hl_conv [tcE t, boxE b7 #[t.mv, t.lv, .int .i64 t.pad, .int .i64 t.ram] 39, boxE b3 #[.slice a_ xs.length cap_, .int .i64 0] 129, boxE b2 #[.slice none 0 0, .slice none 0 0, .int .i64 0, .int .i64 0] 39, boxE b1 #[.int .i64 d.W, .int .i64 d.H, .int .i64 d.T, .int .i64 d.R] 25] (conv_pick (src := [boxE b7 #[t.mv, t.lv, .int .i64 t.pad, .int .i64 t.ram] 39, tcE t, boxE b3 #[.slice a_ xs.length cap_, .int .i64 0] 129, boxE b2 #[.slice none 0 0, .slice none 0 0, .int .i64 0, .int .i64 0] 39, boxE b1 #[.int .i64 d.W, .int .i64 d.H, .int .i64 d.T, .int .i64 d.R] 25]) (dst := [tcE t, boxE b7 #[t.mv, t.lv, .int .i64 t.pad, .int .i64 t.ram] 39, boxE b3 #[.slice a_ xs.length cap_, .int .i64 0] 129, boxE b2 #[.slice none 0 0, .slice none 0 0, .int .i64 0, .int .i64 0] 39, boxE b1 #[.int .i64 d.W, .int .i64 d.H, .int .i64 d.T, .int .i64 d.R] 25]) (l := []) [1, 0, 2, 3, 4] (by decide) rfl) ?_
  refine hl_conv [rowE 3 1 t.mv t.mx.length (t.mx.map (Value.int .i64)), lesE t.lv t.es, boxE b7 #[t.mv, t.lv, .int .i64 t.pad, .int .i64 t.ram] 39, boxE b3 #[.slice a_ xs.length cap_, .int .i64 0] 129, boxE b2 #[.slice none 0 0, .slice none 0 0, .int .i64 0, .int .i64 0] 39, boxE b1 #[.int .i64 d.W, .int .i64 d.H, .int .i64 d.T, .int .i64 d.R] 25] conv_unbig ?_
  refine hl_conv [lesE t.lv t.es, rowE 3 1 t.mv t.mx.length (t.mx.map (Value.int .i64)), boxE b7 #[t.mv, t.lv, .int .i64 t.pad, .int .i64 t.ram] 39, boxE b3 #[.slice a_ xs.length cap_, .int .i64 0] 129, boxE b2 #[.slice none 0 0, .slice none 0 0, .int .i64 0, .int .i64 0] 39, boxE b1 #[.int .i64 d.W, .int .i64 d.H, .int .i64 d.T, .int .i64 d.R] 25] (conv_pick (src := [rowE 3 1 t.mv t.mx.length (t.mx.map (Value.int .i64)), lesE t.lv t.es, boxE b7 #[t.mv, t.lv, .int .i64 t.pad, .int .i64 t.ram] 39, boxE b3 #[.slice a_ xs.length cap_, .int .i64 0] 129, boxE b2 #[.slice none 0 0, .slice none 0 0, .int .i64 0, .int .i64 0] 39, boxE b1 #[.int .i64 d.W, .int .i64 d.H, .int .i64 d.T, .int .i64 d.R] 25]) (dst := [lesE t.lv t.es, rowE 3 1 t.mv t.mx.length (t.mx.map (Value.int .i64)), boxE b7 #[t.mv, t.lv, .int .i64 t.pad, .int .i64 t.ram] 39, boxE b3 #[.slice a_ xs.length cap_, .int .i64 0] 129, boxE b2 #[.slice none 0 0, .slice none 0 0, .int .i64 0, .int .i64 0] 39, boxE b1 #[.int .i64 d.W, .int .i64 d.H, .int .i64 d.T, .int .i64 d.R] 25]) (l := []) [1, 0, 2, 3, 4, 5] (by decide) rfl) ?_
  refine hl_conv [bigE (t.es.map lePart), rowE 87 4 t.lv t.es.length (t.es.flatMap Le.cells), rowE 3 1 t.mv t.mx.length (t.mx.map (Value.int .i64)), boxE b7 #[t.mv, t.lv, .int .i64 t.pad, .int .i64 t.ram] 39, boxE b3 #[.slice a_ xs.length cap_, .int .i64 0] 129, boxE b2 #[.slice none 0 0, .slice none 0 0, .int .i64 0, .int .i64 0] 39, boxE b1 #[.int .i64 d.W, .int .i64 d.H, .int .i64 d.T, .int .i64 d.R] 25] conv_unbig ?_
  refine hl_v rfl rfl rfl (rv_field (k0 := 0) rfl (by kernel_rfl) rfl) ?_
  refine hl_v rfl rfl rfl (rv_load rfl (by kernel_rfl) rfl (box_cell 3 rfl rfl)) ?_
  refine hl_v rfl rfl rfl (rv_len rfl Try.underlying30 rfl (rd_row 2 rfl)) ?_
  refine hl_v rfl rfl rfl (rv_ev rfl) ?_
  refine hl_less (sub_cons (d := 0) rfl (sub_cons (d := 1) rfl (sub_cons (d := 2) rfl (sub_cons (d := 4) rfl (sub_cons (d := 5) rfl (sub_cons (d := 6) rfl (sub_cons (d := 17) rfl (sub_cons (d := 18) rfl (sub_nil _))))))))) (.refl _) ?_
  refine hl_nil ?_
  refine hq_then ?_
  refine hc_block ?_
  refine hc_loop3 (α := Nat) (β := Int) (γ := List Int) (fun m q zs => [bigE (t.es.map lePart), rowE 87 4 t.lv t.es.length (t.es.flatMap Le.cells), rowE 3 1 t.mv zs.length (zs.map (Value.int .i64)), boxE b7 #[t.mv, t.lv, .int .i64 t.pad, .int .i64 t.ram] 39, boxE b3 #[.slice a_ xs.length cap_, .int .i64 q] 129, boxE b2 #[.slice none 0 0, .slice none 0 0, .int .i64 0, .int .i64 0] 39, boxE b1 #[.int .i64 d.W, .int .i64 d.H, .int .i64 d.T, .int .i64 d.R] 25]) (fun m q zs => [(0, .agg #[.int .i64 d.W, .int .i64 d.H, .int .i64 d.T, .int .i64 d.R]), (1, .slice a_ xs.length cap_), (2, .pointer (some ⟨b1, 0, none⟩)), (4, .pointer (some ⟨b2, 0, none⟩)), (5, .pointer (some ⟨b3, 0, none⟩)), (6, .pointer (some ⟨b7, 0, none⟩)), (17, .int .i64 (t.mx.length : Int)), (18, .int .i64 (m : Int))]) (fun m q zs => m ≤ t.mx.length ∧ q = 5 * (m : Int) ∧ zs.length = t.mx.length ∧ ∀ i, i < m → zs.getD i 0 = getN xs (5 * (i : Int)) 5) (fun m q zs => t.mx.length - m) 0 0 t.mx ⟨by omega, by omega, rfl, fun i hi => absurd hi (by omega)⟩ (sub_cons (d := 0) rfl (sub_cons (d := 1) rfl (sub_cons (d := 2) rfl (sub_cons (d := 4) rfl (sub_cons (d := 5) rfl (sub_cons (d := 6) rfl (sub_cons (d := 17) rfl (sub_cons (d := 18) rfl (sub_nil _))))))))) ((.cons_cons _ (.cons_cons _ (.cons_cons _ (.cons_cons _ (.cons_cons _ (.cons_cons _ (.cons_cons _ .slnil)))))))) ?_
  intro m q zs hi8
  obtain ⟨hm1, hmq, hml, hmz⟩ := hi8
  refine hc_seq ?_
  refine hc_region ?_
  refine hl_lss rfl rfl rfl rfl rfl rfl (fun h9 => ?_) (fun h9 => ?_)
  ·
    refine hl_less (sub_cons (d := 0) rfl (sub_cons (d := 1) rfl (sub_cons (d := 2) rfl (sub_cons (d := 4) rfl (sub_cons (d := 5) rfl (sub_cons (d := 6) rfl (sub_cons (d := 17) rfl (sub_cons (d := 18) rfl (sub_cons (d := 19) rfl (sub_nil _)))))))))) (.refl _) ?_
    refine hl_nil ?_
    refine hq_then ?_
    refine hc_seq ?_
    refine hc_true rfl ?_
    refine hc_skip ?_
    refine hq_then ?_
    refine hc_seq ?_
    refine hc_block ?_
    refine hc_seq ?_
    refine hc_region ?_
    refine hl_v rfl rfl rfl (rv_ev rfl) ?_
    refine hl_v rfl rfl rfl (rv_ev rfl) ?_
    refine hl_less (sub_cons (d := 0) rfl (sub_cons (d := 1) rfl (sub_cons (d := 2) rfl (sub_cons (d := 4) rfl (sub_cons (d := 5) rfl (sub_cons (d := 6) rfl (sub_cons (d := 7) rfl (sub_cons (d := 17) rfl (sub_cons (d := 18) rfl (sub_cons (d := 19) rfl (sub_nil _))))))))))) (.refl _) ?_
    refine hl_nil ?_
    refine hq_then ?_
    refine hc_conv [boxE b3 #[.slice a_ xs.length cap_, .int .i64 q] 129, bigE (t.es.map lePart), rowE 87 4 t.lv t.es.length (t.es.flatMap Le.cells), rowE 3 1 t.mv zs.length (zs.map (Value.int .i64)), boxE b7 #[t.mv, t.lv, .int .i64 t.pad, .int .i64 t.ram] 39, boxE b2 #[.slice none 0 0, .slice none 0 0, .int .i64 0, .int .i64 0] 39, boxE b1 #[.int .i64 d.W, .int .i64 d.H, .int .i64 d.T, .int .i64 d.R] 25] (conv_pick (src := [bigE (t.es.map lePart), rowE 87 4 t.lv t.es.length (t.es.flatMap Le.cells), rowE 3 1 t.mv zs.length (zs.map (Value.int .i64)), boxE b7 #[t.mv, t.lv, .int .i64 t.pad, .int .i64 t.ram] 39, boxE b3 #[.slice a_ xs.length cap_, .int .i64 q] 129, boxE b2 #[.slice none 0 0, .slice none 0 0, .int .i64 0, .int .i64 0] 39, boxE b1 #[.int .i64 d.W, .int .i64 d.H, .int .i64 d.T, .int .i64 d.R] 25]) (dst := [boxE b3 #[.slice a_ xs.length cap_, .int .i64 q] 129, bigE (t.es.map lePart), rowE 87 4 t.lv t.es.length (t.es.flatMap Le.cells), rowE 3 1 t.mv zs.length (zs.map (Value.int .i64)), boxE b7 #[t.mv, t.lv, .int .i64 t.pad, .int .i64 t.ram] 39, boxE b2 #[.slice none 0 0, .slice none 0 0, .int .i64 0, .int .i64 0] 39, boxE b1 #[.int .i64 d.W, .int .i64 d.H, .int .i64 d.T, .int .i64 d.R] 25]) (l := []) [4, 0, 1, 2, 3, 5, 6] (by decide) rfl) ?_
    refine hc_draw2 (l := [bigE (t.es.map lePart), rowE 87 4 t.lv t.es.length (t.es.flatMap Le.cells), rowE 3 1 t.mv zs.length (zs.map (Value.int .i64)), boxE b7 #[t.mv, t.lv, .int .i64 t.pad, .int .i64 t.ram] 39, boxE b2 #[.slice none 0 0, .slice none 0 0, .int .i64 0, .int .i64 0] 39, boxE b1 #[.int .i64 d.W, .int .i64 d.H, .int .i64 d.T, .int .i64 d.R] 25]) (by kernel_rfl) 6 [0, 1, 2, 3, 4, 5] (List.take 6 _) (List.drop 6 _) [[], [0], [], [], [3], [1, 2]] [21, 22, 23, 24, 25, 26] (fun i vs_ v_ p_ => match i with | 0 => v_ = .pointer (some ⟨b7, 0 + 0, none⟩) ∧ p_ = [] | 1 => v_ = t.mv ∧ p_ = [] | 2 => v_ = .int .i64 (m : Int) ∧ p_ = [] | 3 => v_ = .pointer (some ⟨b3, 0, none⟩) ∧ p_ = [] | 4 => (∃ pm_, p_ = [pm_] ∧ (fun u_ p_ => u_ = .int .i64 (getN xs q 5) ∧ p_ = boxE b3 #[.slice a_ xs.length cap_, .int .i64 (q + 5)] 129) v_ pm_) | 5 => v_ = elP t.mv (((m : Int)).toNat * 1) ∧ p_ = [] | _ => True) [[], [0], [], [], [3], [1, 2]] [none, none, none, none, some 7, none] [boxE b3 #[.slice a_ xs.length cap_, .int .i64 q] 129] [0, 1, 2, 3, 4, 5] 7 (List.take_append_drop 6 _).symm (by kernel_rfl) (by kernel_rfl) (by kernel_rfl) rfl rfl ?_ ?_
    ·
      refine ⟨?_, ?_, ?_, ?_, ?_, ?_, trivial⟩
      ·
        intro vf pf hmu hR
        refine Or.inl ⟨rfl, ?_⟩
        show RunQ _ _ _ (([] : List Nat).flatMap pf ++ _) (envOf _ vf [] ++ _) _ _
        refine rq_less (l' := [bigE (t.es.map lePart), rowE 87 4 t.lv t.es.length (t.es.flatMap Le.cells), rowE 3 1 t.mv zs.length (zs.map (Value.int .i64)), boxE b7 #[t.mv, t.lv, .int .i64 t.pad, .int .i64 t.ram] 39, boxE b2 #[.slice none 0 0, .slice none 0 0, .int .i64 0, .int .i64 0] 39, boxE b1 #[.int .i64 d.W, .int .i64 d.H, .int .i64 d.T, .int .i64 d.R] 25]) (sub_cons (d := 6) rfl (sub_nil _)) (List.sublist_append_right _ _) ?_
        exact rq_v (rv_field (k0 := 0) rfl (by kernel_rfl) rfl)
      ·
        intro vf pf hmu hR
        have e0 : (vf 0) = .pointer (some ⟨b7, 0 + 0, none⟩) ∧ (pf 0) = [] := hR 0 (by decide)
        refine Or.inl ⟨rfl, ?_⟩
        show RunQ _ _ _ (([0] : List Nat).flatMap pf ++ _) (envOf _ vf [0] ++ _) _ _
        refine rq_less (l' := [bigE (t.es.map lePart), rowE 87 4 t.lv t.es.length (t.es.flatMap Le.cells), rowE 3 1 t.mv zs.length (zs.map (Value.int .i64)), boxE b7 #[t.mv, t.lv, .int .i64 t.pad, .int .i64 t.ram] 39, boxE b2 #[.slice none 0 0, .slice none 0 0, .int .i64 0, .int .i64 0] 39, boxE b1 #[.int .i64 d.W, .int .i64 d.H, .int .i64 d.T, .int .i64 d.R] 25]) (sub_cons (d := 21) (congrArg some e0.1) (sub_nil _)) (List.sublist_append_right _ _) ?_
        exact rq_v (rv_load rfl (by kernel_rfl) rfl (box_cell 3 rfl rfl))
      ·
        intro vf pf hmu hR
        refine Or.inl ⟨rfl, ?_⟩
        show RunQ _ _ _ (([] : List Nat).flatMap pf ++ _) (envOf _ vf [] ++ _) _ _
        refine rq_less (l' := [bigE (t.es.map lePart), rowE 87 4 t.lv t.es.length (t.es.flatMap Le.cells), rowE 3 1 t.mv zs.length (zs.map (Value.int .i64)), boxE b7 #[t.mv, t.lv, .int .i64 t.pad, .int .i64 t.ram] 39, boxE b2 #[.slice none 0 0, .slice none 0 0, .int .i64 0, .int .i64 0] 39, boxE b1 #[.int .i64 d.W, .int .i64 d.H, .int .i64 d.T, .int .i64 d.R] 25]) (sub_cons (d := 7) rfl (sub_nil _)) (List.sublist_append_right _ _) ?_
        exact rq_v (rv_ev rfl)
      ·
        intro vf pf hmu hR
        refine Or.inl ⟨rfl, ?_⟩
        show RunQ _ _ _ (([] : List Nat).flatMap pf ++ _) (envOf _ vf [] ++ _) _ _
        refine rq_less (l' := [bigE (t.es.map lePart), rowE 87 4 t.lv t.es.length (t.es.flatMap Le.cells), rowE 3 1 t.mv zs.length (zs.map (Value.int .i64)), boxE b7 #[t.mv, t.lv, .int .i64 t.pad, .int .i64 t.ram] 39, boxE b2 #[.slice none 0 0, .slice none 0 0, .int .i64 0, .int .i64 0] 39, boxE b1 #[.int .i64 d.W, .int .i64 d.H, .int .i64 d.T, .int .i64 d.R] 25]) (sub_cons (d := 5) rfl (sub_nil _)) (List.sublist_append_right _ _) ?_
        exact rq_v (rv_ev rfl)
      ·
        intro vf pf hmu hR
        have e3 : (vf 3) = .pointer (some ⟨b3, 0, none⟩) ∧ (pf 3) = [] := hR 3 (by decide)
        refine Or.inl ⟨rfl, ?_⟩
        show RunM _ _ _ (pf 7) (([3] : List Nat).flatMap pf ++ _) (envOf _ vf [3] ++ _) _ _
        rw [hmu]
        refine rm_less (X' := [bigE (t.es.map lePart), rowE 87 4 t.lv t.es.length (t.es.flatMap Le.cells), rowE 3 1 t.mv zs.length (zs.map (Value.int .i64)), boxE b7 #[t.mv, t.lv, .int .i64 t.pad, .int .i64 t.ram] 39, boxE b2 #[.slice none 0 0, .slice none 0 0, .int .i64 0, .int .i64 0] 39, boxE b1 #[.int .i64 d.W, .int .i64 d.H, .int .i64 d.T, .int .i64 d.R] 25]) (sub_cons (d := 24) (congrArg some e3.1) (sub_nil _)) (by first | (simp only [e3.2, List.flatMap_cons, List.flatMap_nil, List.append_nil, List.nil_append, List.cons_append]; exact List.Sublist.refl _) | simp [e3.2]) ?_
        exact rq_callM (R := (fun u_ p_ => u_ = .int .i64 (getN xs q 5) ∧ p_ = boxE b3 #[.slice a_ xs.length cap_, .int .i64 (q + 5)] 129)) (by kernel_rfl) rfl (fun L w hX hm => bitGet_mut xs (.slice a_ xs.length cap_) b3 q 5 _ _ w hm (rd_old hv) hxs (by omega) (by omega) (by omega))
      ·
        intro vf pf hmu hR
        have e1 : (vf 1) = t.mv ∧ (pf 1) = [] := hR 1 (by decide)
        have e2 : (vf 2) = .int .i64 (m : Int) ∧ (pf 2) = [] := hR 2 (by decide)
        refine Or.inl ⟨rfl, ?_⟩
        show RunQ _ _ _ (([1, 2] : List Nat).flatMap pf ++ _) (envOf _ vf [1, 2] ++ _) _ _
        refine rq_less (l' := [bigE (t.es.map lePart), rowE 87 4 t.lv t.es.length (t.es.flatMap Le.cells), rowE 3 1 t.mv zs.length (zs.map (Value.int .i64)), boxE b7 #[t.mv, t.lv, .int .i64 t.pad, .int .i64 t.ram] 39, boxE b2 #[.slice none 0 0, .slice none 0 0, .int .i64 0, .int .i64 0] 39, boxE b1 #[.int .i64 d.W, .int .i64 d.H, .int .i64 d.T, .int .i64 d.R] 25]) (sub_cons (d := 22) (congrArg some e1.1) (sub_cons (d := 23) (congrArg some e2.1) (sub_nil _))) (List.sublist_append_right _ _) ?_
        exact rq_v (rv_index (s := 1) rfl Try.underlying30 (by kernel_rfl) rfl rfl (rd_row 2 rfl) (by omega) (by first | omega | (simp only [List.length_set]; omega)))
    ·
      intro vf pf hmu hR
      have e4 : (∃ pm_, (pf 4) = [pm_] ∧ (fun u_ p_ => u_ = .int .i64 (getN xs q 5) ∧ p_ = boxE b3 #[.slice a_ xs.length cap_, .int .i64 (q + 5)] 129) (vf 4) pm_) := hR 4 (by decide)
      obtain ⟨p11, p4, hR12⟩ := e4
      obtain ⟨v10, v4⟩ : ∃ x, vf 4 = x := ⟨_, rfl⟩
      rw [v4] at hR12
      obtain ⟨rfl, rfl⟩ := hR12
      have e5 : (vf 5) = elP t.mv (((m : Int)).toNat * 1) ∧ (pf 5) = [] := hR 5 (by decide)
      have q0 : (vf 0) = .pointer (some ⟨b7, 0 + 0, none⟩) ∧ (pf 0) = [] := hR 0 (by decide)
      have q1 : (vf 1) = t.mv ∧ (pf 1) = [] := hR 1 (by decide)
      have q2 : (vf 2) = .int .i64 (m : Int) ∧ (pf 2) = [] := hR 2 (by decide)
      have q3 : (vf 3) = .pointer (some ⟨b3, 0, none⟩) ∧ (pf 3) = [] := hR 3 (by decide)
      have q5 : (vf 5) = elP t.mv (((m : Int)).toNat * 1) ∧ (pf 5) = [] := hR 5 (by decide)
      refine hl_less (l' := [boxE b3 #[.slice a_ xs.length cap_, .int .i64 (q + 5)] 129, bigE (t.es.map lePart), rowE 87 4 t.lv t.es.length (t.es.flatMap Le.cells), rowE 3 1 t.mv zs.length (zs.map (Value.int .i64)), boxE b7 #[t.mv, t.lv, .int .i64 t.pad, .int .i64 t.ram] 39, boxE b2 #[.slice none 0 0, .slice none 0 0, .int .i64 0, .int .i64 0] 39, boxE b1 #[.int .i64 d.W, .int .i64 d.H, .int .i64 d.T, .int .i64 d.R] 25]) (sub_cons (d := 0) rfl (sub_cons (d := 1) rfl (sub_cons (d := 2) rfl (sub_cons (d := 4) rfl (sub_cons (d := 5) rfl (sub_cons (d := 6) rfl (sub_cons (d := 7) rfl (sub_cons (d := 17) rfl (sub_cons (d := 18) rfl (sub_cons (d := 19) rfl (sub_cons (d := 25) (congrArg some v4) (sub_cons (d := 26) (congrArg some e5.1) (sub_nil _))))))))))))) (by first | (simp only [p4, v4, q0.2, q1.2, q2.2, q3.2, q5.2, List.flatMap_cons, List.flatMap_nil, List.append_nil, List.nil_append, List.cons_append]; exact List.Sublist.refl _) | simp [p4, v4, q0.2, q1.2, q2.2, q3.2, q5.2]) ?_
      simp only [List.drop_succ_cons, List.drop_zero]
      refine hl_storeEl (i := 3) (n' := (zs.set m (getN xs q 5)).length) (xs' := ((zs.set m (getN xs q 5)).map (Value.int .i64))) (l' := [boxE b3 #[.slice a_ xs.length cap_, .int .i64 (q + 5)] 129, bigE (t.es.map lePart), rowE 87 4 t.lv t.es.length (t.es.flatMap Le.cells), rowE 3 1 t.mv ((zs.set m (getN xs q 5)).length) ((zs.set m (getN xs q 5)).map (Value.int .i64)), boxE b7 #[t.mv, t.lv, .int .i64 t.pad, .int .i64 t.ram] 39, boxE b2 #[.slice none 0 0, .slice none 0 0, .int .i64 0, .int .i64 0] 39, boxE b1 #[.int .i64 d.W, .int .i64 d.H, .int .i64 d.T, .int .i64 d.R] 25]) rfl rfl rfl (by kernel_rfl) rfl rfl rfl rfl (by first | omega | (simp only [List.length_set]; omega)) List.length_set.symm (ints_set _ _ _) rfl ?_
      refine hl_less (sub_cons (d := 0) rfl (sub_cons (d := 1) rfl (sub_cons (d := 2) rfl (sub_cons (d := 4) rfl (sub_cons (d := 5) rfl (sub_cons (d := 6) rfl (sub_cons (d := 7) rfl (sub_cons (d := 17) rfl (sub_cons (d := 18) rfl (sub_cons (d := 19) rfl (sub_nil _))))))))))) (.refl _) ?_
      refine hl_nil ?_
      refine hq_block_normal ?_
      refine hq_then ?_
      refine hc_region ?_
      refine hl_v rfl rfl rfl (rv_add rfl rfl rfl (by constructor <;> omega)) ?_
      refine hl_v rfl rfl rfl (rv_ev rfl) ?_
      refine hl_less (sub_cons (d := 0) rfl (sub_cons (d := 1) rfl (sub_cons (d := 2) rfl (sub_cons (d := 4) rfl (sub_cons (d := 5) rfl (sub_cons (d := 6) rfl (sub_cons (d := 7) rfl (sub_cons (d := 17) rfl (sub_cons (d := 18) rfl (sub_cons (d := 19) rfl (sub_nil _))))))))))) (.refl _) ?_
      refine hl_nil ?_
      refine hq_conv [bigE (t.es.map lePart), rowE 87 4 t.lv t.es.length (t.es.flatMap Le.cells), rowE 3 1 t.mv ((zs.set m (getN xs q 5)).length) ((zs.set m (getN xs q 5)).map (Value.int .i64)), boxE b7 #[t.mv, t.lv, .int .i64 t.pad, .int .i64 t.ram] 39, boxE b3 #[.slice a_ xs.length cap_, .int .i64 (q + 5)] 129, boxE b2 #[.slice none 0 0, .slice none 0 0, .int .i64 0, .int .i64 0] 39, boxE b1 #[.int .i64 d.W, .int .i64 d.H, .int .i64 d.T, .int .i64 d.R] 25] (conv_pick (src := [boxE b3 #[.slice a_ xs.length cap_, .int .i64 (q + 5)] 129, bigE (t.es.map lePart), rowE 87 4 t.lv t.es.length (t.es.flatMap Le.cells), rowE 3 1 t.mv ((zs.set m (getN xs q 5)).length) ((zs.set m (getN xs q 5)).map (Value.int .i64)), boxE b7 #[t.mv, t.lv, .int .i64 t.pad, .int .i64 t.ram] 39, boxE b2 #[.slice none 0 0, .slice none 0 0, .int .i64 0, .int .i64 0] 39, boxE b1 #[.int .i64 d.W, .int .i64 d.H, .int .i64 d.T, .int .i64 d.R] 25]) (dst := [bigE (t.es.map lePart), rowE 87 4 t.lv t.es.length (t.es.flatMap Le.cells), rowE 3 1 t.mv ((zs.set m (getN xs q 5)).length) ((zs.set m (getN xs q 5)).map (Value.int .i64)), boxE b7 #[t.mv, t.lv, .int .i64 t.pad, .int .i64 t.ram] 39, boxE b3 #[.slice a_ xs.length cap_, .int .i64 (q + 5)] 129, boxE b2 #[.slice none 0 0, .slice none 0 0, .int .i64 0, .int .i64 0] 39, boxE b1 #[.int .i64 d.W, .int .i64 d.H, .int .i64 d.T, .int .i64 d.R] 25]) (l := []) [1, 2, 3, 4, 0, 5, 6] (by decide) rfl) ?_
      exact hq_round3 (m + 1) (q + 5) (zs.set m (getN xs q 5)) ⟨by omega, by omega, by rw [List.length_set]; exact hml, fun i hi => by by_cases him : i = m; (subst him; rw [getD_set_self' (by omega), hmq]); rw [getD_set_ne' (fun h => him h.symm)]; exact hmz i (by omega)⟩ (by omega) (sub_cons (d := 0) rfl (sub_cons (d := 1) rfl (sub_cons (d := 2) rfl (sub_cons (d := 4) rfl (sub_cons (d := 5) rfl (sub_cons (d := 6) rfl (sub_cons (d := 17) rfl (sub_cons (d := 18) rfl (sub_nil _))))))))) ((.cons_cons _ (.cons_cons _ (.cons_cons _ (.cons_cons _ (.cons_cons _ (.cons_cons _ (.cons_cons _ .slnil))))))))
  ·
    refine hl_less (sub_cons (d := 0) rfl (sub_cons (d := 1) rfl (sub_cons (d := 2) rfl (sub_cons (d := 4) rfl (sub_cons (d := 5) rfl (sub_cons (d := 6) rfl (sub_cons (d := 17) rfl (sub_cons (d := 18) rfl (sub_cons (d := 19) rfl (sub_nil _)))))))))) (.refl _) ?_
    refine hl_nil ?_
    refine hq_then ?_
    refine hc_seq ?_
    refine hc_false rfl ?_
    refine hc_exit ?_
    refine hq_then_exit ?_
    refine hq_then_exit ?_
    refine hq_block_exit ?_
    refine hq_then ?_
    refine hc_seq ?_
    refine hc_seq ?_
    refine hc_region ?_
    refine hl_v rfl rfl rfl (rv_field (k0 := 1) rfl (by kernel_rfl) rfl) ?_
    refine hl_v rfl rfl rfl (rv_load rfl (by kernel_rfl) rfl (box_cell 3 rfl rfl)) ?_
    refine hl_v rfl rfl rfl (rv_len rfl Try.underlying37 rfl (rd_row 1 rfl)) ?_
    refine hl_v rfl rfl rfl (rv_ev rfl) ?_
    refine hl_less (sub_cons (d := 0) rfl (sub_cons (d := 1) rfl (sub_cons (d := 2) rfl (sub_cons (d := 4) rfl (sub_cons (d := 5) rfl (sub_cons (d := 6) rfl (sub_cons (d := 17) rfl (sub_cons (d := 18) rfl (sub_cons (d := 19) rfl (sub_cons (d := 30) rfl (sub_cons (d := 31) rfl (sub_nil _)))))))))))) (.refl _) ?_
    refine hl_nil ?_
    refine hq_then ?_
    refine hc_block ?_
    refine hc_loop3 (α := Nat) (β := Int) (γ := List Le) (fun e q es => [bigE (es.map lePart), rowE 87 4 t.lv es.length (es.flatMap Le.cells), rowE 3 1 t.mv zs.length (zs.map (Value.int .i64)), boxE b7 #[t.mv, t.lv, .int .i64 t.pad, .int .i64 t.ram] 39, boxE b3 #[.slice a_ xs.length cap_, .int .i64 q] 129, boxE b2 #[.slice none 0 0, .slice none 0 0, .int .i64 0, .int .i64 0] 39, boxE b1 #[.int .i64 d.W, .int .i64 d.H, .int .i64 d.T, .int .i64 d.R] 25]) (fun e q es => [(0, .agg #[.int .i64 d.W, .int .i64 d.H, .int .i64 d.T, .int .i64 d.R]), (1, .slice a_ xs.length cap_), (2, .pointer (some ⟨b1, 0, none⟩)), (4, .pointer (some ⟨b2, 0, none⟩)), (5, .pointer (some ⟨b3, 0, none⟩)), (6, .pointer (some ⟨b7, 0, none⟩)), (17, .int .i64 (t.mx.length : Int)), (18, .int .i64 (m : Int)), (19, .bool false), (30, .int .i64 (t.es.length : Int)), (31, .int .i64 (e : Int))]) (fun e q es => e ≤ 2 ∧ q = 5 * (muxs d) + 30 * e ∧ es.length = 2 ∧ (∀ i, i < e → (es.getD i Le0).val = decLe xs (5 * (muxs d) + 30 * (i : Int))) ∧ ∀ i, e ≤ i → i < 2 → (es.getD i Le0).xs.length = 4) (fun e q es => 2 - e) 0 _ t.es ⟨by omega, by unfold muxs at *; omega, ht2, fun i hi => absurd hi (by omega), fun i _ hi => ht3 i hi⟩ (sub_cons (d := 0) rfl (sub_cons (d := 1) rfl (sub_cons (d := 2) rfl (sub_cons (d := 4) rfl (sub_cons (d := 5) rfl (sub_cons (d := 6) rfl (sub_cons (d := 17) rfl (sub_cons (d := 18) rfl (sub_cons (d := 19) rfl (sub_cons (d := 30) rfl (sub_cons (d := 31) rfl (sub_nil _)))))))))))) ((.cons_cons _ (.cons_cons _ (.cons_cons _ (.cons_cons _ (.cons_cons _ (.cons_cons _ (.cons_cons _ .slnil)))))))) ?_
    intro e q es hi13
    obtain ⟨he1, heq, hel, hez, he4⟩ := hi13
    refine hc_seq ?_
    refine hc_region ?_
    refine hl_lss rfl rfl rfl rfl rfl rfl (fun h14 => ?_) (fun h14 => ?_)
    ·
      refine hl_less (sub_cons (d := 0) rfl (sub_cons (d := 1) rfl (sub_cons (d := 2) rfl (sub_cons (d := 4) rfl (sub_cons (d := 5) rfl (sub_cons (d := 6) rfl (sub_cons (d := 17) rfl (sub_cons (d := 18) rfl (sub_cons (d := 19) rfl (sub_cons (d := 30) rfl (sub_cons (d := 31) rfl (sub_cons (d := 32) rfl (sub_nil _))))))))))))) (.refl _) ?_
      refine hl_nil ?_
      refine hq_then ?_
      refine hc_seq ?_
      refine hc_true rfl ?_
      refine hc_skip ?_
      refine hq_then ?_
      refine hc_seq ?_
      refine hc_block ?_
      refine hc_seq ?_
      refine hc_region ?_
      refine hl_v rfl rfl rfl (rv_ev rfl) ?_
      refine hl_v rfl rfl rfl (rv_ev rfl) ?_
      refine hl_less (sub_cons (d := 0) rfl (sub_cons (d := 1) rfl (sub_cons (d := 2) rfl (sub_cons (d := 4) rfl (sub_cons (d := 5) rfl (sub_cons (d := 6) rfl (sub_cons (d := 8) rfl (sub_cons (d := 17) rfl (sub_cons (d := 18) rfl (sub_cons (d := 19) rfl (sub_cons (d := 30) rfl (sub_cons (d := 31) rfl (sub_cons (d := 32) rfl (sub_nil _)))))))))))))) (.refl _) ?_
      refine hl_nil ?_
      refine hq_then ?_
      refine hc_seq ?_
      refine hc_seq ?_
      refine hc_region ?_
      have hx4 := he4 e (Nat.le_refl _) (by omega)
      refine hl_conv [bigE (es.map lePart), rowE 87 4 t.lv es.length (es.flatMap Le.cells), rowE 3 1 t.mv zs.length (zs.map (Value.int .i64)), boxE b7 #[t.mv, t.lv, .int .i64 t.pad, .int .i64 t.ram] 39, boxE b3 #[.slice a_ xs.length cap_, .int .i64 q] 129, boxE b2 #[.slice none 0 0, .slice none 0 0, .int .i64 0, .int .i64 0] 39, boxE b1 #[.int .i64 d.W, .int .i64 d.H, .int .i64 d.T, .int .i64 d.R] 25] (conv_pick (src := [bigE (es.map lePart), rowE 87 4 t.lv es.length (es.flatMap Le.cells), rowE 3 1 t.mv zs.length (zs.map (Value.int .i64)), boxE b7 #[t.mv, t.lv, .int .i64 t.pad, .int .i64 t.ram] 39, boxE b3 #[.slice a_ xs.length cap_, .int .i64 q] 129, boxE b2 #[.slice none 0 0, .slice none 0 0, .int .i64 0, .int .i64 0] 39, boxE b1 #[.int .i64 d.W, .int .i64 d.H, .int .i64 d.T, .int .i64 d.R] 25]) (dst := [bigE (es.map lePart), rowE 87 4 t.lv es.length (es.flatMap Le.cells), rowE 3 1 t.mv zs.length (zs.map (Value.int .i64)), boxE b7 #[t.mv, t.lv, .int .i64 t.pad, .int .i64 t.ram] 39, boxE b3 #[.slice a_ xs.length cap_, .int .i64 q] 129, boxE b2 #[.slice none 0 0, .slice none 0 0, .int .i64 0, .int .i64 0] 39, boxE b1 #[.int .i64 d.W, .int .i64 d.H, .int .i64 d.T, .int .i64 d.R] 25]) (l := []) [0, 1, 2, 3, 4, 5, 6] (by decide) rfl) ?_
      refine hl_conv [rowE 3 1 ((es.getD e Le0).v) ((es.getD e Le0).xs.length) ((es.getD e Le0).xs.map (Value.int .i64)), bigE ((es.map lePart).eraseIdx e), rowE 87 4 t.lv es.length (es.flatMap Le.cells), rowE 3 1 t.mv zs.length (zs.map (Value.int .i64)), boxE b7 #[t.mv, t.lv, .int .i64 t.pad, .int .i64 t.ram] 39, boxE b3 #[.slice a_ xs.length cap_, .int .i64 q] 129, boxE b2 #[.slice none 0 0, .slice none 0 0, .int .i64 0, .int .i64 0] 39, boxE b1 #[.int .i64 d.W, .int .i64 d.H, .int .i64 d.T, .int .i64 d.R] 25] (conv_focus (j := e) (by rw [List.getElem?_map, getD_at (d := Le0) (by omega)]; rfl)) ?_
      refine hl_v rfl rfl rfl (rv_field (k0 := 1) rfl (by kernel_rfl) rfl) ?_
      refine hl_v rfl rfl rfl (rv_load rfl (by kernel_rfl) rfl (box_cell 4 rfl rfl)) ?_
      refine hl_v rfl rfl rfl (rv_ev rfl) ?_
      refine hl_v rfl rfl rfl (rv_index (s := 4) rfl Try.underlying37 (by kernel_rfl) rfl rfl (rd_row 2 rfl) (by omega) (by first | omega | (simp only [List.length_set]; omega))) ?_
      refine hl_v rfl rfl rfl (rv_fieldEl (k0 := 0) rfl (by kernel_rfl) rfl (rd_row 2 rfl) (by first | omega | (simp only [List.length_set]; omega))) ?_
      refine hl_v rfl rfl rfl (rv_loadEl (u := (es.getD e Le0).v) rfl (by kernel_rfl) rfl (rd_row 2 rfl) ((flat_at Le.cells 4 (fun _ => rfl) es Le0 (show e < _ by first | omega | (simp only [List.length_set]; omega)) (by decide)).trans rfl)) ?_
      refine hl_v rfl rfl rfl (rv_len rfl Try.underlying30 rfl (rd_row 0 rfl)) ?_
      refine hl_v rfl rfl rfl (rv_ev rfl) ?_
      refine hl_less (sub_cons (d := 0) rfl (sub_cons (d := 1) rfl (sub_cons (d := 2) rfl (sub_cons (d := 4) rfl (sub_cons (d := 5) rfl (sub_cons (d := 6) rfl (sub_cons (d := 8) rfl (sub_cons (d := 17) rfl (sub_cons (d := 18) rfl (sub_cons (d := 19) rfl (sub_cons (d := 30) rfl (sub_cons (d := 31) rfl (sub_cons (d := 32) rfl (sub_cons (d := 40) rfl (sub_cons (d := 41) rfl (sub_nil _)))))))))))))))) (.refl _) ?_
      refine hl_nil ?_
      refine hq_then ?_
      refine hc_block ?_
      refine hc_loop3 (α := Nat) (β := Int) (γ := List Int) (fun j q ys => [rowE 3 1 ((es.getD e Le0).v) ys.length (ys.map (Value.int .i64)), bigE ((es.map lePart).eraseIdx e), rowE 87 4 t.lv es.length (es.flatMap Le.cells), rowE 3 1 t.mv zs.length (zs.map (Value.int .i64)), boxE b7 #[t.mv, t.lv, .int .i64 t.pad, .int .i64 t.ram] 39, boxE b3 #[.slice a_ xs.length cap_, .int .i64 q] 129, boxE b2 #[.slice none 0 0, .slice none 0 0, .int .i64 0, .int .i64 0] 39, boxE b1 #[.int .i64 d.W, .int .i64 d.H, .int .i64 d.T, .int .i64 d.R] 25]) (fun j q ys => [(0, .agg #[.int .i64 d.W, .int .i64 d.H, .int .i64 d.T, .int .i64 d.R]), (1, .slice a_ xs.length cap_), (2, .pointer (some ⟨b1, 0, none⟩)), (4, .pointer (some ⟨b2, 0, none⟩)), (5, .pointer (some ⟨b3, 0, none⟩)), (6, .pointer (some ⟨b7, 0, none⟩)), (8, .int .i64 (e : Int)), (17, .int .i64 (t.mx.length : Int)), (18, .int .i64 (m : Int)), (19, .bool false), (30, .int .i64 (t.es.length : Int)), (31, .int .i64 (e : Int)), (32, .bool true), (40, .int .i64 ((es.getD e Le0).xs.length : Int)), (41, .int .i64 (j : Int))]) (fun j q ys => j ≤ 4 ∧ q = 5 * (muxs d) + 30 * e + 3 * (j : Int) ∧ ys.length = 4 ∧ ∀ i, i < j → ys.getD i 0 = getN xs (5 * (muxs d) + 30 * e + 3 * (i : Int)) 3) (fun j q ys => 4 - j) 0 _ _ ⟨by omega, by omega, hx4, fun i hi => absurd hi (by omega)⟩ (sub_cons (d := 0) rfl (sub_cons (d := 1) rfl (sub_cons (d := 2) rfl (sub_cons (d := 4) rfl (sub_cons (d := 5) rfl (sub_cons (d := 6) rfl (sub_cons (d := 8) rfl (sub_cons (d := 17) rfl (sub_cons (d := 18) rfl (sub_cons (d := 19) rfl (sub_cons (d := 30) rfl (sub_cons (d := 31) rfl (sub_cons (d := 32) rfl (sub_cons (d := 40) rfl (sub_cons (d := 41) rfl (sub_nil _)))))))))))))))) ((.cons_cons _ (.cons_cons _ (.cons_cons _ (.cons_cons _ (.cons_cons _ (.cons_cons _ (.cons_cons _ (.cons_cons _ .slnil))))))))) ?_
      intro j q ys hi15
      obtain ⟨hj1, hjq, hjl, hjz⟩ := hi15
      refine hc_seq ?_
      refine hc_region ?_
      refine hl_lss rfl rfl rfl rfl rfl rfl (fun h16 => ?_) (fun h16 => ?_)
      ·
        refine hl_less (sub_cons (d := 0) rfl (sub_cons (d := 1) rfl (sub_cons (d := 2) rfl (sub_cons (d := 4) rfl (sub_cons (d := 5) rfl (sub_cons (d := 6) rfl (sub_cons (d := 8) rfl (sub_cons (d := 17) rfl (sub_cons (d := 18) rfl (sub_cons (d := 19) rfl (sub_cons (d := 30) rfl (sub_cons (d := 31) rfl (sub_cons (d := 32) rfl (sub_cons (d := 40) rfl (sub_cons (d := 41) rfl (sub_cons (d := 42) rfl (sub_nil _))))))))))))))))) (.refl _) ?_
        refine hl_nil ?_
        refine hq_then ?_
        refine hc_seq ?_
        refine hc_true rfl ?_
        refine hc_skip ?_
        refine hq_then ?_
        refine hc_seq ?_
        refine hc_block ?_
        refine hc_seq ?_
        refine hc_region ?_
        refine hl_v rfl rfl rfl (rv_ev rfl) ?_
        refine hl_v rfl rfl rfl (rv_ev rfl) ?_
        refine hl_less (sub_cons (d := 0) rfl (sub_cons (d := 1) rfl (sub_cons (d := 2) rfl (sub_cons (d := 4) rfl (sub_cons (d := 5) rfl (sub_cons (d := 6) rfl (sub_cons (d := 8) rfl (sub_cons (d := 9) rfl (sub_cons (d := 17) rfl (sub_cons (d := 18) rfl (sub_cons (d := 19) rfl (sub_cons (d := 30) rfl (sub_cons (d := 31) rfl (sub_cons (d := 32) rfl (sub_cons (d := 40) rfl (sub_cons (d := 41) rfl (sub_cons (d := 42) rfl (sub_nil _)))))))))))))))))) (.refl _) ?_
        refine hl_nil ?_
        refine hq_then ?_
        refine hc_conv [boxE b3 #[.slice a_ xs.length cap_, .int .i64 q] 129, rowE 3 1 ((es.getD e Le0).v) ys.length (ys.map (Value.int .i64)), bigE ((es.map lePart).eraseIdx e), rowE 87 4 t.lv es.length (es.flatMap Le.cells), rowE 3 1 t.mv zs.length (zs.map (Value.int .i64)), boxE b7 #[t.mv, t.lv, .int .i64 t.pad, .int .i64 t.ram] 39, boxE b2 #[.slice none 0 0, .slice none 0 0, .int .i64 0, .int .i64 0] 39, boxE b1 #[.int .i64 d.W, .int .i64 d.H, .int .i64 d.T, .int .i64 d.R] 25] (conv_pick (src := [rowE 3 1 ((es.getD e Le0).v) ys.length (ys.map (Value.int .i64)), bigE ((es.map lePart).eraseIdx e), rowE 87 4 t.lv es.length (es.flatMap Le.cells), rowE 3 1 t.mv zs.length (zs.map (Value.int .i64)), boxE b7 #[t.mv, t.lv, .int .i64 t.pad, .int .i64 t.ram] 39, boxE b3 #[.slice a_ xs.length cap_, .int .i64 q] 129, boxE b2 #[.slice none 0 0, .slice none 0 0, .int .i64 0, .int .i64 0] 39, boxE b1 #[.int .i64 d.W, .int .i64 d.H, .int .i64 d.T, .int .i64 d.R] 25]) (dst := [boxE b3 #[.slice a_ xs.length cap_, .int .i64 q] 129, rowE 3 1 ((es.getD e Le0).v) ys.length (ys.map (Value.int .i64)), bigE ((es.map lePart).eraseIdx e), rowE 87 4 t.lv es.length (es.flatMap Le.cells), rowE 3 1 t.mv zs.length (zs.map (Value.int .i64)), boxE b7 #[t.mv, t.lv, .int .i64 t.pad, .int .i64 t.ram] 39, boxE b2 #[.slice none 0 0, .slice none 0 0, .int .i64 0, .int .i64 0] 39, boxE b1 #[.int .i64 d.W, .int .i64 d.H, .int .i64 d.T, .int .i64 d.R] 25]) (l := []) [5, 0, 1, 2, 3, 4, 6, 7] (by decide) rfl) ?_
        refine hc_draw2 (l := [rowE 3 1 ((es.getD e Le0).v) ys.length (ys.map (Value.int .i64)), bigE ((es.map lePart).eraseIdx e), rowE 87 4 t.lv es.length (es.flatMap Le.cells), rowE 3 1 t.mv zs.length (zs.map (Value.int .i64)), boxE b7 #[t.mv, t.lv, .int .i64 t.pad, .int .i64 t.ram] 39, boxE b2 #[.slice none 0 0, .slice none 0 0, .int .i64 0, .int .i64 0] 39, boxE b1 #[.int .i64 d.W, .int .i64 d.H, .int .i64 d.T, .int .i64 d.R] 25]) (by kernel_rfl) 10 [0, 1, 2, 3, 4, 5, 6, 7, 8, 9] (List.take 10 _) (List.drop 10 _) [[], [0], [], [1, 2], [3], [4], [], [], [7], [5, 6]] [44, 45, 46, 47, 48, 49, 50, 51, 52, 53] (fun i vs_ v_ p_ => match i with | 0 => v_ = .pointer (some ⟨b7, 0 + 1, none⟩) ∧ p_ = [] | 1 => v_ = t.lv ∧ p_ = [] | 2 => v_ = .int .i64 (e : Int) ∧ p_ = [] | 3 => v_ = elP t.lv (((e : Int)).toNat * 4) ∧ p_ = [] | 4 => v_ = elP t.lv (((e : Int)).toNat * 4 + 0) ∧ p_ = [] | 5 => v_ = (es.getD e Le0).v ∧ p_ = [] | 6 => v_ = .int .i64 (j : Int) ∧ p_ = [] | 7 => v_ = .pointer (some ⟨b3, 0, none⟩) ∧ p_ = [] | 8 => (∃ pm_, p_ = [pm_] ∧ (fun u_ p_ => u_ = .int .i64 (getN xs q 3) ∧ p_ = boxE b3 #[.slice a_ xs.length cap_, .int .i64 (q + 3)] 129) v_ pm_) | 9 => v_ = elP ((es.getD e Le0).v) (((j : Int)).toNat * 1) ∧ p_ = [] | _ => True) [[], [0], [], [1, 2], [3], [4], [], [], [7], [5, 6]] [none, none, none, none, none, none, none, none, some 11, none] [boxE b3 #[.slice a_ xs.length cap_, .int .i64 q] 129] [0, 1, 2, 3, 4, 5, 6, 7, 8, 9] 11 (List.take_append_drop 10 _).symm (by kernel_rfl) (by kernel_rfl) (by kernel_rfl) rfl rfl ?_ ?_
        ·
          refine ⟨?_, ?_, ?_, ?_, ?_, ?_, ?_, ?_, ?_, ?_, trivial⟩
          ·
            intro vf pf hmu hR
            refine Or.inl ⟨rfl, ?_⟩
            show RunQ _ _ _ (([] : List Nat).flatMap pf ++ _) (envOf _ vf [] ++ _) _ _
            refine rq_less (l' := [rowE 3 1 ((es.getD e Le0).v) ys.length (ys.map (Value.int .i64)), bigE ((es.map lePart).eraseIdx e), rowE 87 4 t.lv es.length (es.flatMap Le.cells), rowE 3 1 t.mv zs.length (zs.map (Value.int .i64)), boxE b7 #[t.mv, t.lv, .int .i64 t.pad, .int .i64 t.ram] 39, boxE b2 #[.slice none 0 0, .slice none 0 0, .int .i64 0, .int .i64 0] 39, boxE b1 #[.int .i64 d.W, .int .i64 d.H, .int .i64 d.T, .int .i64 d.R] 25]) (sub_cons (d := 6) rfl (sub_nil _)) (List.sublist_append_right _ _) ?_
            exact rq_v (rv_field (k0 := 1) rfl (by kernel_rfl) rfl)
          ·
            intro vf pf hmu hR
            have e0 : (vf 0) = .pointer (some ⟨b7, 0 + 1, none⟩) ∧ (pf 0) = [] := hR 0 (by decide)
            refine Or.inl ⟨rfl, ?_⟩
            show RunQ _ _ _ (([0] : List Nat).flatMap pf ++ _) (envOf _ vf [0] ++ _) _ _
            refine rq_less (l' := [rowE 3 1 ((es.getD e Le0).v) ys.length (ys.map (Value.int .i64)), bigE ((es.map lePart).eraseIdx e), rowE 87 4 t.lv es.length (es.flatMap Le.cells), rowE 3 1 t.mv zs.length (zs.map (Value.int .i64)), boxE b7 #[t.mv, t.lv, .int .i64 t.pad, .int .i64 t.ram] 39, boxE b2 #[.slice none 0 0, .slice none 0 0, .int .i64 0, .int .i64 0] 39, boxE b1 #[.int .i64 d.W, .int .i64 d.H, .int .i64 d.T, .int .i64 d.R] 25]) (sub_cons (d := 44) (congrArg some e0.1) (sub_nil _)) (List.sublist_append_right _ _) ?_
            exact rq_v (rv_load rfl (by kernel_rfl) rfl (box_cell 4 rfl rfl))
          ·
            intro vf pf hmu hR
            refine Or.inl ⟨rfl, ?_⟩
            show RunQ _ _ _ (([] : List Nat).flatMap pf ++ _) (envOf _ vf [] ++ _) _ _
            refine rq_less (l' := [rowE 3 1 ((es.getD e Le0).v) ys.length (ys.map (Value.int .i64)), bigE ((es.map lePart).eraseIdx e), rowE 87 4 t.lv es.length (es.flatMap Le.cells), rowE 3 1 t.mv zs.length (zs.map (Value.int .i64)), boxE b7 #[t.mv, t.lv, .int .i64 t.pad, .int .i64 t.ram] 39, boxE b2 #[.slice none 0 0, .slice none 0 0, .int .i64 0, .int .i64 0] 39, boxE b1 #[.int .i64 d.W, .int .i64 d.H, .int .i64 d.T, .int .i64 d.R] 25]) (sub_cons (d := 8) rfl (sub_nil _)) (List.sublist_append_right _ _) ?_
            exact rq_v (rv_ev rfl)
          ·
            intro vf pf hmu hR
            have e1 : (vf 1) = t.lv ∧ (pf 1) = [] := hR 1 (by decide)
            have e2 : (vf 2) = .int .i64 (e : Int) ∧ (pf 2) = [] := hR 2 (by decide)
            refine Or.inl ⟨rfl, ?_⟩
            show RunQ _ _ _ (([1, 2] : List Nat).flatMap pf ++ _) (envOf _ vf [1, 2] ++ _) _ _
            refine rq_less (l' := [rowE 3 1 ((es.getD e Le0).v) ys.length (ys.map (Value.int .i64)), bigE ((es.map lePart).eraseIdx e), rowE 87 4 t.lv es.length (es.flatMap Le.cells), rowE 3 1 t.mv zs.length (zs.map (Value.int .i64)), boxE b7 #[t.mv, t.lv, .int .i64 t.pad, .int .i64 t.ram] 39, boxE b2 #[.slice none 0 0, .slice none 0 0, .int .i64 0, .int .i64 0] 39, boxE b1 #[.int .i64 d.W, .int .i64 d.H, .int .i64 d.T, .int .i64 d.R] 25]) (sub_cons (d := 45) (congrArg some e1.1) (sub_cons (d := 46) (congrArg some e2.1) (sub_nil _))) (List.sublist_append_right _ _) ?_
            exact rq_v (rv_index (s := 4) rfl Try.underlying37 (by kernel_rfl) rfl rfl (rd_row 2 rfl) (by omega) (by first | omega | (simp only [List.length_set]; omega)))
          ·
            intro vf pf hmu hR
            have e3 : (vf 3) = elP t.lv (((e : Int)).toNat * 4) ∧ (pf 3) = [] := hR 3 (by decide)
            refine Or.inl ⟨rfl, ?_⟩
            show RunQ _ _ _ (([3] : List Nat).flatMap pf ++ _) (envOf _ vf [3] ++ _) _ _
            refine rq_less (l' := [rowE 3 1 ((es.getD e Le0).v) ys.length (ys.map (Value.int .i64)), bigE ((es.map lePart).eraseIdx e), rowE 87 4 t.lv es.length (es.flatMap Le.cells), rowE 3 1 t.mv zs.length (zs.map (Value.int .i64)), boxE b7 #[t.mv, t.lv, .int .i64 t.pad, .int .i64 t.ram] 39, boxE b2 #[.slice none 0 0, .slice none 0 0, .int .i64 0, .int .i64 0] 39, boxE b1 #[.int .i64 d.W, .int .i64 d.H, .int .i64 d.T, .int .i64 d.R] 25]) (sub_cons (d := 47) (congrArg some e3.1) (sub_nil _)) (List.sublist_append_right _ _) ?_
            exact rq_v (rv_fieldEl (k0 := 0) rfl (by kernel_rfl) rfl (rd_row 2 rfl) (by first | omega | (simp only [List.length_set]; omega)))
          ·
            intro vf pf hmu hR
            have e4 : (vf 4) = elP t.lv (((e : Int)).toNat * 4 + 0) ∧ (pf 4) = [] := hR 4 (by decide)
            refine Or.inl ⟨rfl, ?_⟩
            show RunQ _ _ _ (([4] : List Nat).flatMap pf ++ _) (envOf _ vf [4] ++ _) _ _
            refine rq_less (l' := [rowE 3 1 ((es.getD e Le0).v) ys.length (ys.map (Value.int .i64)), bigE ((es.map lePart).eraseIdx e), rowE 87 4 t.lv es.length (es.flatMap Le.cells), rowE 3 1 t.mv zs.length (zs.map (Value.int .i64)), boxE b7 #[t.mv, t.lv, .int .i64 t.pad, .int .i64 t.ram] 39, boxE b2 #[.slice none 0 0, .slice none 0 0, .int .i64 0, .int .i64 0] 39, boxE b1 #[.int .i64 d.W, .int .i64 d.H, .int .i64 d.T, .int .i64 d.R] 25]) (sub_cons (d := 48) (congrArg some e4.1) (sub_nil _)) (List.sublist_append_right _ _) ?_
            exact rq_v (rv_loadEl (u := (es.getD e Le0).v) rfl (by kernel_rfl) rfl (rd_row 2 rfl) ((flat_at Le.cells 4 (fun _ => rfl) es Le0 (show e < _ by first | omega | (simp only [List.length_set]; omega)) (by decide)).trans rfl))
          ·
            intro vf pf hmu hR
            refine Or.inl ⟨rfl, ?_⟩
            show RunQ _ _ _ (([] : List Nat).flatMap pf ++ _) (envOf _ vf [] ++ _) _ _
            refine rq_less (l' := [rowE 3 1 ((es.getD e Le0).v) ys.length (ys.map (Value.int .i64)), bigE ((es.map lePart).eraseIdx e), rowE 87 4 t.lv es.length (es.flatMap Le.cells), rowE 3 1 t.mv zs.length (zs.map (Value.int .i64)), boxE b7 #[t.mv, t.lv, .int .i64 t.pad, .int .i64 t.ram] 39, boxE b2 #[.slice none 0 0, .slice none 0 0, .int .i64 0, .int .i64 0] 39, boxE b1 #[.int .i64 d.W, .int .i64 d.H, .int .i64 d.T, .int .i64 d.R] 25]) (sub_cons (d := 9) rfl (sub_nil _)) (List.sublist_append_right _ _) ?_
            exact rq_v (rv_ev rfl)
          ·
            intro vf pf hmu hR
            refine Or.inl ⟨rfl, ?_⟩
            show RunQ _ _ _ (([] : List Nat).flatMap pf ++ _) (envOf _ vf [] ++ _) _ _
            refine rq_less (l' := [rowE 3 1 ((es.getD e Le0).v) ys.length (ys.map (Value.int .i64)), bigE ((es.map lePart).eraseIdx e), rowE 87 4 t.lv es.length (es.flatMap Le.cells), rowE 3 1 t.mv zs.length (zs.map (Value.int .i64)), boxE b7 #[t.mv, t.lv, .int .i64 t.pad, .int .i64 t.ram] 39, boxE b2 #[.slice none 0 0, .slice none 0 0, .int .i64 0, .int .i64 0] 39, boxE b1 #[.int .i64 d.W, .int .i64 d.H, .int .i64 d.T, .int .i64 d.R] 25]) (sub_cons (d := 5) rfl (sub_nil _)) (List.sublist_append_right _ _) ?_
            exact rq_v (rv_ev rfl)
          ·
            intro vf pf hmu hR
            have e7 : (vf 7) = .pointer (some ⟨b3, 0, none⟩) ∧ (pf 7) = [] := hR 7 (by decide)
            refine Or.inl ⟨rfl, ?_⟩
            show RunM _ _ _ (pf 11) (([7] : List Nat).flatMap pf ++ _) (envOf _ vf [7] ++ _) _ _
            rw [hmu]
            refine rm_less (X' := [rowE 3 1 ((es.getD e Le0).v) ys.length (ys.map (Value.int .i64)), bigE ((es.map lePart).eraseIdx e), rowE 87 4 t.lv es.length (es.flatMap Le.cells), rowE 3 1 t.mv zs.length (zs.map (Value.int .i64)), boxE b7 #[t.mv, t.lv, .int .i64 t.pad, .int .i64 t.ram] 39, boxE b2 #[.slice none 0 0, .slice none 0 0, .int .i64 0, .int .i64 0] 39, boxE b1 #[.int .i64 d.W, .int .i64 d.H, .int .i64 d.T, .int .i64 d.R] 25]) (sub_cons (d := 51) (congrArg some e7.1) (sub_nil _)) (by first | (simp only [e7.2, List.flatMap_cons, List.flatMap_nil, List.append_nil, List.nil_append, List.cons_append]; exact List.Sublist.refl _) | simp [e7.2]) ?_
            exact rq_callM (R := (fun u_ p_ => u_ = .int .i64 (getN xs q 3) ∧ p_ = boxE b3 #[.slice a_ xs.length cap_, .int .i64 (q + 3)] 129)) (by kernel_rfl) rfl (fun L w hX hm => bitGet_mut xs (.slice a_ xs.length cap_) b3 q 3 _ _ w hm (rd_old hv) hxs (by omega) (by omega) (by omega))
          ·
            intro vf pf hmu hR
            have e5 : (vf 5) = (es.getD e Le0).v ∧ (pf 5) = [] := hR 5 (by decide)
            have e6 : (vf 6) = .int .i64 (j : Int) ∧ (pf 6) = [] := hR 6 (by decide)
            refine Or.inl ⟨rfl, ?_⟩
            show RunQ _ _ _ (([5, 6] : List Nat).flatMap pf ++ _) (envOf _ vf [5, 6] ++ _) _ _
            refine rq_less (l' := [rowE 3 1 ((es.getD e Le0).v) ys.length (ys.map (Value.int .i64)), bigE ((es.map lePart).eraseIdx e), rowE 87 4 t.lv es.length (es.flatMap Le.cells), rowE 3 1 t.mv zs.length (zs.map (Value.int .i64)), boxE b7 #[t.mv, t.lv, .int .i64 t.pad, .int .i64 t.ram] 39, boxE b2 #[.slice none 0 0, .slice none 0 0, .int .i64 0, .int .i64 0] 39, boxE b1 #[.int .i64 d.W, .int .i64 d.H, .int .i64 d.T, .int .i64 d.R] 25]) (sub_cons (d := 49) (congrArg some e5.1) (sub_cons (d := 50) (congrArg some e6.1) (sub_nil _))) (List.sublist_append_right _ _) ?_
            exact rq_v (rv_index (s := 1) rfl Try.underlying30 (by kernel_rfl) rfl rfl (rd_row 0 rfl) (by omega) (by first | omega | (simp only [List.length_set]; omega)))
        ·
          intro vf pf hmu hR
          have e8 : (∃ pm_, (pf 8) = [pm_] ∧ (fun u_ p_ => u_ = .int .i64 (getN xs q 3) ∧ p_ = boxE b3 #[.slice a_ xs.length cap_, .int .i64 (q + 3)] 129) (vf 8) pm_) := hR 8 (by decide)
          obtain ⟨p18, p8, hR19⟩ := e8
          obtain ⟨v17, v8⟩ : ∃ x, vf 8 = x := ⟨_, rfl⟩
          rw [v8] at hR19
          obtain ⟨rfl, rfl⟩ := hR19
          have e9 : (vf 9) = elP ((es.getD e Le0).v) (((j : Int)).toNat * 1) ∧ (pf 9) = [] := hR 9 (by decide)
          have q0 : (vf 0) = .pointer (some ⟨b7, 0 + 1, none⟩) ∧ (pf 0) = [] := hR 0 (by decide)
          have q1 : (vf 1) = t.lv ∧ (pf 1) = [] := hR 1 (by decide)
          have q2 : (vf 2) = .int .i64 (e : Int) ∧ (pf 2) = [] := hR 2 (by decide)
          have q3 : (vf 3) = elP t.lv (((e : Int)).toNat * 4) ∧ (pf 3) = [] := hR 3 (by decide)
          have q4 : (vf 4) = elP t.lv (((e : Int)).toNat * 4 + 0) ∧ (pf 4) = [] := hR 4 (by decide)
          have q5 : (vf 5) = (es.getD e Le0).v ∧ (pf 5) = [] := hR 5 (by decide)
          have q6 : (vf 6) = .int .i64 (j : Int) ∧ (pf 6) = [] := hR 6 (by decide)
          have q7 : (vf 7) = .pointer (some ⟨b3, 0, none⟩) ∧ (pf 7) = [] := hR 7 (by decide)
          have q9 : (vf 9) = elP ((es.getD e Le0).v) (((j : Int)).toNat * 1) ∧ (pf 9) = [] := hR 9 (by decide)
          refine hl_less (l' := [boxE b3 #[.slice a_ xs.length cap_, .int .i64 (q + 3)] 129, rowE 3 1 ((es.getD e Le0).v) ys.length (ys.map (Value.int .i64)), bigE ((es.map lePart).eraseIdx e), rowE 87 4 t.lv es.length (es.flatMap Le.cells), rowE 3 1 t.mv zs.length (zs.map (Value.int .i64)), boxE b7 #[t.mv, t.lv, .int .i64 t.pad, .int .i64 t.ram] 39, boxE b2 #[.slice none 0 0, .slice none 0 0, .int .i64 0, .int .i64 0] 39, boxE b1 #[.int .i64 d.W, .int .i64 d.H, .int .i64 d.T, .int .i64 d.R] 25]) (sub_cons (d := 0) rfl (sub_cons (d := 1) rfl (sub_cons (d := 2) rfl (sub_cons (d := 4) rfl (sub_cons (d := 5) rfl (sub_cons (d := 6) rfl (sub_cons (d := 8) rfl (sub_cons (d := 9) rfl (sub_cons (d := 17) rfl (sub_cons (d := 18) rfl (sub_cons (d := 19) rfl (sub_cons (d := 30) rfl (sub_cons (d := 31) rfl (sub_cons (d := 32) rfl (sub_cons (d := 40) rfl (sub_cons (d := 41) rfl (sub_cons (d := 42) rfl (sub_cons (d := 52) (congrArg some v8) (sub_cons (d := 53) (congrArg some e9.1) (sub_nil _)))))))))))))))))))) (by first | (simp only [p8, v8, q0.2, q1.2, q2.2, q3.2, q4.2, q5.2, q6.2, q7.2, q9.2, List.flatMap_cons, List.flatMap_nil, List.append_nil, List.nil_append, List.cons_append]; exact List.Sublist.refl _) | simp [p8, v8, q0.2, q1.2, q2.2, q3.2, q4.2, q5.2, q6.2, q7.2, q9.2]) ?_
          simp only [List.drop_succ_cons, List.drop_zero]
          refine hl_storeEl (i := 1) (n' := (ys.set j (getN xs q 3)).length) (xs' := ((ys.set j (getN xs q 3)).map (Value.int .i64))) (l' := [boxE b3 #[.slice a_ xs.length cap_, .int .i64 (q + 3)] 129, rowE 3 1 ((es.getD e Le0).v) ((ys.set j (getN xs q 3)).length) ((ys.set j (getN xs q 3)).map (Value.int .i64)), bigE ((es.map lePart).eraseIdx e), rowE 87 4 t.lv es.length (es.flatMap Le.cells), rowE 3 1 t.mv zs.length (zs.map (Value.int .i64)), boxE b7 #[t.mv, t.lv, .int .i64 t.pad, .int .i64 t.ram] 39, boxE b2 #[.slice none 0 0, .slice none 0 0, .int .i64 0, .int .i64 0] 39, boxE b1 #[.int .i64 d.W, .int .i64 d.H, .int .i64 d.T, .int .i64 d.R] 25]) rfl rfl rfl (by kernel_rfl) rfl rfl rfl rfl (by first | omega | (simp only [List.length_set]; omega)) List.length_set.symm (ints_set _ _ _) rfl ?_
          refine hl_less (sub_cons (d := 0) rfl (sub_cons (d := 1) rfl (sub_cons (d := 2) rfl (sub_cons (d := 4) rfl (sub_cons (d := 5) rfl (sub_cons (d := 6) rfl (sub_cons (d := 8) rfl (sub_cons (d := 9) rfl (sub_cons (d := 17) rfl (sub_cons (d := 18) rfl (sub_cons (d := 19) rfl (sub_cons (d := 30) rfl (sub_cons (d := 31) rfl (sub_cons (d := 32) rfl (sub_cons (d := 40) rfl (sub_cons (d := 41) rfl (sub_cons (d := 42) rfl (sub_nil _)))))))))))))))))) (.refl _) ?_
          refine hl_nil ?_
          refine hq_block_normal ?_
          refine hq_then ?_
          refine hc_region ?_
          refine hl_v rfl rfl rfl (rv_add rfl rfl rfl (by constructor <;> omega)) ?_
          refine hl_v rfl rfl rfl (rv_ev rfl) ?_
          refine hl_less (sub_cons (d := 0) rfl (sub_cons (d := 1) rfl (sub_cons (d := 2) rfl (sub_cons (d := 4) rfl (sub_cons (d := 5) rfl (sub_cons (d := 6) rfl (sub_cons (d := 8) rfl (sub_cons (d := 9) rfl (sub_cons (d := 17) rfl (sub_cons (d := 18) rfl (sub_cons (d := 19) rfl (sub_cons (d := 30) rfl (sub_cons (d := 31) rfl (sub_cons (d := 32) rfl (sub_cons (d := 40) rfl (sub_cons (d := 41) rfl (sub_cons (d := 42) rfl (sub_nil _)))))))))))))))))) (.refl _) ?_
          refine hl_nil ?_
          refine hq_conv [rowE 3 1 ((es.getD e Le0).v) ((ys.set j (getN xs q 3)).length) ((ys.set j (getN xs q 3)).map (Value.int .i64)), bigE ((es.map lePart).eraseIdx e), rowE 87 4 t.lv es.length (es.flatMap Le.cells), rowE 3 1 t.mv zs.length (zs.map (Value.int .i64)), boxE b7 #[t.mv, t.lv, .int .i64 t.pad, .int .i64 t.ram] 39, boxE b3 #[.slice a_ xs.length cap_, .int .i64 (q + 3)] 129, boxE b2 #[.slice none 0 0, .slice none 0 0, .int .i64 0, .int .i64 0] 39, boxE b1 #[.int .i64 d.W, .int .i64 d.H, .int .i64 d.T, .int .i64 d.R] 25] (conv_pick (src := [boxE b3 #[.slice a_ xs.length cap_, .int .i64 (q + 3)] 129, rowE 3 1 ((es.getD e Le0).v) ((ys.set j (getN xs q 3)).length) ((ys.set j (getN xs q 3)).map (Value.int .i64)), bigE ((es.map lePart).eraseIdx e), rowE 87 4 t.lv es.length (es.flatMap Le.cells), rowE 3 1 t.mv zs.length (zs.map (Value.int .i64)), boxE b7 #[t.mv, t.lv, .int .i64 t.pad, .int .i64 t.ram] 39, boxE b2 #[.slice none 0 0, .slice none 0 0, .int .i64 0, .int .i64 0] 39, boxE b1 #[.int .i64 d.W, .int .i64 d.H, .int .i64 d.T, .int .i64 d.R] 25]) (dst := [rowE 3 1 ((es.getD e Le0).v) ((ys.set j (getN xs q 3)).length) ((ys.set j (getN xs q 3)).map (Value.int .i64)), bigE ((es.map lePart).eraseIdx e), rowE 87 4 t.lv es.length (es.flatMap Le.cells), rowE 3 1 t.mv zs.length (zs.map (Value.int .i64)), boxE b7 #[t.mv, t.lv, .int .i64 t.pad, .int .i64 t.ram] 39, boxE b3 #[.slice a_ xs.length cap_, .int .i64 (q + 3)] 129, boxE b2 #[.slice none 0 0, .slice none 0 0, .int .i64 0, .int .i64 0] 39, boxE b1 #[.int .i64 d.W, .int .i64 d.H, .int .i64 d.T, .int .i64 d.R] 25]) (l := []) [1, 2, 3, 4, 5, 0, 6, 7] (by decide) rfl) ?_
          exact hq_round3 (j + 1) (q + 3) (ys.set j (getN xs q 3)) ⟨by omega, by omega, by rw [List.length_set]; exact hjl, fun i hi => by by_cases hij : i = j; (subst hij; rw [getD_set_self' (by omega), hjq]); rw [getD_set_ne' (fun h => hij h.symm)]; exact hjz i (by omega)⟩ (by omega) (sub_cons (d := 0) rfl (sub_cons (d := 1) rfl (sub_cons (d := 2) rfl (sub_cons (d := 4) rfl (sub_cons (d := 5) rfl (sub_cons (d := 6) rfl (sub_cons (d := 8) rfl (sub_cons (d := 17) rfl (sub_cons (d := 18) rfl (sub_cons (d := 19) rfl (sub_cons (d := 30) rfl (sub_cons (d := 31) rfl (sub_cons (d := 32) rfl (sub_cons (d := 40) rfl (sub_cons (d := 41) rfl (sub_nil _)))))))))))))))) ((.cons_cons _ (.cons_cons _ (.cons_cons _ (.cons_cons _ (.cons_cons _ (.cons_cons _ (.cons_cons _ (.cons_cons _ .slnil)))))))))
      ·
        refine hl_less (sub_cons (d := 0) rfl (sub_cons (d := 1) rfl (sub_cons (d := 2) rfl (sub_cons (d := 4) rfl (sub_cons (d := 5) rfl (sub_cons (d := 6) rfl (sub_cons (d := 8) rfl (sub_cons (d := 17) rfl (sub_cons (d := 18) rfl (sub_cons (d := 19) rfl (sub_cons (d := 30) rfl (sub_cons (d := 31) rfl (sub_cons (d := 32) rfl (sub_cons (d := 40) rfl (sub_cons (d := 41) rfl (sub_cons (d := 42) rfl (sub_nil _))))))))))))))))) (.refl _) ?_
        refine hl_nil ?_
        refine hq_then ?_
        refine hc_seq ?_
        refine hc_false rfl ?_
        refine hc_exit ?_
        refine hq_then_exit ?_
        refine hq_then_exit ?_
        refine hq_block_exit ?_
        refine hq_then ?_
        refine hc_seq ?_
        refine hc_conv [boxE b3 #[.slice a_ xs.length cap_, .int .i64 q] 129, rowE 3 1 ((es.getD e Le0).v) ys.length (ys.map (Value.int .i64)), bigE ((es.map lePart).eraseIdx e), rowE 87 4 t.lv es.length (es.flatMap Le.cells), rowE 3 1 t.mv zs.length (zs.map (Value.int .i64)), boxE b7 #[t.mv, t.lv, .int .i64 t.pad, .int .i64 t.ram] 39, boxE b2 #[.slice none 0 0, .slice none 0 0, .int .i64 0, .int .i64 0] 39, boxE b1 #[.int .i64 d.W, .int .i64 d.H, .int .i64 d.T, .int .i64 d.R] 25] (conv_pick (src := [rowE 3 1 ((es.getD e Le0).v) ys.length (ys.map (Value.int .i64)), bigE ((es.map lePart).eraseIdx e), rowE 87 4 t.lv es.length (es.flatMap Le.cells), rowE 3 1 t.mv zs.length (zs.map (Value.int .i64)), boxE b7 #[t.mv, t.lv, .int .i64 t.pad, .int .i64 t.ram] 39, boxE b3 #[.slice a_ xs.length cap_, .int .i64 q] 129, boxE b2 #[.slice none 0 0, .slice none 0 0, .int .i64 0, .int .i64 0] 39, boxE b1 #[.int .i64 d.W, .int .i64 d.H, .int .i64 d.T, .int .i64 d.R] 25]) (dst := [boxE b3 #[.slice a_ xs.length cap_, .int .i64 q] 129, rowE 3 1 ((es.getD e Le0).v) ys.length (ys.map (Value.int .i64)), bigE ((es.map lePart).eraseIdx e), rowE 87 4 t.lv es.length (es.flatMap Le.cells), rowE 3 1 t.mv zs.length (zs.map (Value.int .i64)), boxE b7 #[t.mv, t.lv, .int .i64 t.pad, .int .i64 t.ram] 39, boxE b2 #[.slice none 0 0, .slice none 0 0, .int .i64 0, .int .i64 0] 39, boxE b1 #[.int .i64 d.W, .int .i64 d.H, .int .i64 d.T, .int .i64 d.R] 25]) (l := []) [5, 0, 1, 2, 3, 4, 6, 7] (by decide) rfl) ?_
        refine hc_draw2 (l := [rowE 3 1 ((es.getD e Le0).v) ys.length (ys.map (Value.int .i64)), bigE ((es.map lePart).eraseIdx e), rowE 87 4 t.lv es.length (es.flatMap Le.cells), rowE 3 1 t.mv zs.length (zs.map (Value.int .i64)), boxE b7 #[t.mv, t.lv, .int .i64 t.pad, .int .i64 t.ram] 39, boxE b2 #[.slice none 0 0, .slice none 0 0, .int .i64 0, .int .i64 0] 39, boxE b1 #[.int .i64 d.W, .int .i64 d.H, .int .i64 d.T, .int .i64 d.R] 25]) (by kernel_rfl) 7 [0, 1, 2, 3, 4, 5, 6] (List.take 7 _) (List.drop 7 _) [[], [0], [], [], [3], [1, 2], [5]] [55, 56, 57, 58, 59, 60, 61] (fun i vs_ v_ p_ => match i with | 0 => v_ = .pointer (some ⟨b7, 0 + 1, none⟩) ∧ p_ = [] | 1 => v_ = t.lv ∧ p_ = [] | 2 => v_ = .int .i64 (e : Int) ∧ p_ = [] | 3 => v_ = .pointer (some ⟨b3, 0, none⟩) ∧ p_ = [] | 4 => (∃ pm_, p_ = [pm_] ∧ (fun u_ p_ => u_ = .int .i64 (getN xs q 16) ∧ p_ = boxE b3 #[.slice a_ xs.length cap_, .int .i64 (q + 16)] 129) v_ pm_) | 5 => v_ = elP t.lv (((e : Int)).toNat * 4) ∧ p_ = [] | 6 => v_ = elP t.lv (((e : Int)).toNat * 4 + 1) ∧ p_ = [] | _ => True) [[], [0], [], [], [3], [1, 2], [5]] [none, none, none, none, some 8, none, none] [boxE b3 #[.slice a_ xs.length cap_, .int .i64 q] 129] [0, 1, 2, 3, 4, 5, 6] 8 (List.take_append_drop 7 _).symm (by kernel_rfl) (by kernel_rfl) (by kernel_rfl) rfl rfl ?_ ?_
        ·
          refine ⟨?_, ?_, ?_, ?_, ?_, ?_, ?_, trivial⟩
          ·
            intro vf pf hmu hR
            refine Or.inl ⟨rfl, ?_⟩
            show RunQ _ _ _ (([] : List Nat).flatMap pf ++ _) (envOf _ vf [] ++ _) _ _
            refine rq_less (l' := [rowE 3 1 ((es.getD e Le0).v) ys.length (ys.map (Value.int .i64)), bigE ((es.map lePart).eraseIdx e), rowE 87 4 t.lv es.length (es.flatMap Le.cells), rowE 3 1 t.mv zs.length (zs.map (Value.int .i64)), boxE b7 #[t.mv, t.lv, .int .i64 t.pad, .int .i64 t.ram] 39, boxE b2 #[.slice none 0 0, .slice none 0 0, .int .i64 0, .int .i64 0] 39, boxE b1 #[.int .i64 d.W, .int .i64 d.H, .int .i64 d.T, .int .i64 d.R] 25]) (sub_cons (d := 6) rfl (sub_nil _)) (List.sublist_append_right _ _) ?_
            exact rq_v (rv_field (k0 := 1) rfl (by kernel_rfl) rfl)
          ·
            intro vf pf hmu hR
            have e0 : (vf 0) = .pointer (some ⟨b7, 0 + 1, none⟩) ∧ (pf 0) = [] := hR 0 (by decide)
            refine Or.inl ⟨rfl, ?_⟩
            show RunQ _ _ _ (([0] : List Nat).flatMap pf ++ _) (envOf _ vf [0] ++ _) _ _
            refine rq_less (l' := [rowE 3 1 ((es.getD e Le0).v) ys.length (ys.map (Value.int .i64)), bigE ((es.map lePart).eraseIdx e), rowE 87 4 t.lv es.length (es.flatMap Le.cells), rowE 3 1 t.mv zs.length (zs.map (Value.int .i64)), boxE b7 #[t.mv, t.lv, .int .i64 t.pad, .int .i64 t.ram] 39, boxE b2 #[.slice none 0 0, .slice none 0 0, .int .i64 0, .int .i64 0] 39, boxE b1 #[.int .i64 d.W, .int .i64 d.H, .int .i64 d.T, .int .i64 d.R] 25]) (sub_cons (d := 55) (congrArg some e0.1) (sub_nil _)) (List.sublist_append_right _ _) ?_
            exact rq_v (rv_load rfl (by kernel_rfl) rfl (box_cell 4 rfl rfl))
          ·
            intro vf pf hmu hR
            refine Or.inl ⟨rfl, ?_⟩
            show RunQ _ _ _ (([] : List Nat).flatMap pf ++ _) (envOf _ vf [] ++ _) _ _
            refine rq_less (l' := [rowE 3 1 ((es.getD e Le0).v) ys.length (ys.map (Value.int .i64)), bigE ((es.map lePart).eraseIdx e), rowE 87 4 t.lv es.length (es.flatMap Le.cells), rowE 3 1 t.mv zs.length (zs.map (Value.int .i64)), boxE b7 #[t.mv, t.lv, .int .i64 t.pad, .int .i64 t.ram] 39, boxE b2 #[.slice none 0 0, .slice none 0 0, .int .i64 0, .int .i64 0] 39, boxE b1 #[.int .i64 d.W, .int .i64 d.H, .int .i64 d.T, .int .i64 d.R] 25]) (sub_cons (d := 8) rfl (sub_nil _)) (List.sublist_append_right _ _) ?_
            exact rq_v (rv_ev rfl)
          ·
            intro vf pf hmu hR
            refine Or.inl ⟨rfl, ?_⟩
            show RunQ _ _ _ (([] : List Nat).flatMap pf ++ _) (envOf _ vf [] ++ _) _ _
            refine rq_less (l' := [rowE 3 1 ((es.getD e Le0).v) ys.length (ys.map (Value.int .i64)), bigE ((es.map lePart).eraseIdx e), rowE 87 4 t.lv es.length (es.flatMap Le.cells), rowE 3 1 t.mv zs.length (zs.map (Value.int .i64)), boxE b7 #[t.mv, t.lv, .int .i64 t.pad, .int .i64 t.ram] 39, boxE b2 #[.slice none 0 0, .slice none 0 0, .int .i64 0, .int .i64 0] 39, boxE b1 #[.int .i64 d.W, .int .i64 d.H, .int .i64 d.T, .int .i64 d.R] 25]) (sub_cons (d := 5) rfl (sub_nil _)) (List.sublist_append_right _ _) ?_
            exact rq_v (rv_ev rfl)
          ·
            intro vf pf hmu hR
            have e3 : (vf 3) = .pointer (some ⟨b3, 0, none⟩) ∧ (pf 3) = [] := hR 3 (by decide)
            refine Or.inl ⟨rfl, ?_⟩
            show RunM _ _ _ (pf 8) (([3] : List Nat).flatMap pf ++ _) (envOf _ vf [3] ++ _) _ _
            rw [hmu]
            refine rm_less (X' := [rowE 3 1 ((es.getD e Le0).v) ys.length (ys.map (Value.int .i64)), bigE ((es.map lePart).eraseIdx e), rowE 87 4 t.lv es.length (es.flatMap Le.cells), rowE 3 1 t.mv zs.length (zs.map (Value.int .i64)), boxE b7 #[t.mv, t.lv, .int .i64 t.pad, .int .i64 t.ram] 39, boxE b2 #[.slice none 0 0, .slice none 0 0, .int .i64 0, .int .i64 0] 39, boxE b1 #[.int .i64 d.W, .int .i64 d.H, .int .i64 d.T, .int .i64 d.R] 25]) (sub_cons (d := 58) (congrArg some e3.1) (sub_nil _)) (by first | (simp only [e3.2, List.flatMap_cons, List.flatMap_nil, List.append_nil, List.nil_append, List.cons_append]; exact List.Sublist.refl _) | simp [e3.2]) ?_
            exact rq_callM (R := (fun u_ p_ => u_ = .int .i64 (getN xs q 16) ∧ p_ = boxE b3 #[.slice a_ xs.length cap_, .int .i64 (q + 16)] 129)) (by kernel_rfl) rfl (fun L w hX hm => bitGet_mut xs (.slice a_ xs.length cap_) b3 q 16 _ _ w hm (rd_old hv) hxs (by omega) (by omega) (by omega))
          ·
            intro vf pf hmu hR
            have e1 : (vf 1) = t.lv ∧ (pf 1) = [] := hR 1 (by decide)
            have e2 : (vf 2) = .int .i64 (e : Int) ∧ (pf 2) = [] := hR 2 (by decide)
            refine Or.inl ⟨rfl, ?_⟩
            show RunQ _ _ _ (([1, 2] : List Nat).flatMap pf ++ _) (envOf _ vf [1, 2] ++ _) _ _
            refine rq_less (l' := [rowE 3 1 ((es.getD e Le0).v) ys.length (ys.map (Value.int .i64)), bigE ((es.map lePart).eraseIdx e), rowE 87 4 t.lv es.length (es.flatMap Le.cells), rowE 3 1 t.mv zs.length (zs.map (Value.int .i64)), boxE b7 #[t.mv, t.lv, .int .i64 t.pad, .int .i64 t.ram] 39, boxE b2 #[.slice none 0 0, .slice none 0 0, .int .i64 0, .int .i64 0] 39, boxE b1 #[.int .i64 d.W, .int .i64 d.H, .int .i64 d.T, .int .i64 d.R] 25]) (sub_cons (d := 56) (congrArg some e1.1) (sub_cons (d := 57) (congrArg some e2.1) (sub_nil _))) (List.sublist_append_right _ _) ?_
            exact rq_v (rv_index (s := 4) rfl Try.underlying37 (by kernel_rfl) rfl rfl (rd_row 2 rfl) (by omega) (by first | omega | (simp only [List.length_set]; omega)))
          ·
            intro vf pf hmu hR
            have e5 : (vf 5) = elP t.lv (((e : Int)).toNat * 4) ∧ (pf 5) = [] := hR 5 (by decide)
            refine Or.inl ⟨rfl, ?_⟩
            show RunQ _ _ _ (([5] : List Nat).flatMap pf ++ _) (envOf _ vf [5] ++ _) _ _
            refine rq_less (l' := [rowE 3 1 ((es.getD e Le0).v) ys.length (ys.map (Value.int .i64)), bigE ((es.map lePart).eraseIdx e), rowE 87 4 t.lv es.length (es.flatMap Le.cells), rowE 3 1 t.mv zs.length (zs.map (Value.int .i64)), boxE b7 #[t.mv, t.lv, .int .i64 t.pad, .int .i64 t.ram] 39, boxE b2 #[.slice none 0 0, .slice none 0 0, .int .i64 0, .int .i64 0] 39, boxE b1 #[.int .i64 d.W, .int .i64 d.H, .int .i64 d.T, .int .i64 d.R] 25]) (sub_cons (d := 60) (congrArg some e5.1) (sub_nil _)) (List.sublist_append_right _ _) ?_
            exact rq_v (rv_fieldEl (k0 := 1) rfl (by kernel_rfl) rfl (rd_row 2 rfl) (by first | omega | (simp only [List.length_set]; omega)))
        ·
          intro vf pf hmu hR
          have e4 : (∃ pm_, (pf 4) = [pm_] ∧ (fun u_ p_ => u_ = .int .i64 (getN xs q 16) ∧ p_ = boxE b3 #[.slice a_ xs.length cap_, .int .i64 (q + 16)] 129) (vf 4) pm_) := hR 4 (by decide)
          obtain ⟨p21, p4, hR22⟩ := e4
          obtain ⟨v20, v4⟩ : ∃ x, vf 4 = x := ⟨_, rfl⟩
          rw [v4] at hR22
          obtain ⟨rfl, rfl⟩ := hR22
          have e6 : (vf 6) = elP t.lv (((e : Int)).toNat * 4 + 1) ∧ (pf 6) = [] := hR 6 (by decide)
          have q0 : (vf 0) = .pointer (some ⟨b7, 0 + 1, none⟩) ∧ (pf 0) = [] := hR 0 (by decide)
          have q1 : (vf 1) = t.lv ∧ (pf 1) = [] := hR 1 (by decide)
          have q2 : (vf 2) = .int .i64 (e : Int) ∧ (pf 2) = [] := hR 2 (by decide)
          have q3 : (vf 3) = .pointer (some ⟨b3, 0, none⟩) ∧ (pf 3) = [] := hR 3 (by decide)
          have q5 : (vf 5) = elP t.lv (((e : Int)).toNat * 4) ∧ (pf 5) = [] := hR 5 (by decide)
          have q6 : (vf 6) = elP t.lv (((e : Int)).toNat * 4 + 1) ∧ (pf 6) = [] := hR 6 (by decide)
          refine hl_less (l' := [boxE b3 #[.slice a_ xs.length cap_, .int .i64 (q + 16)] 129, rowE 3 1 ((es.getD e Le0).v) ys.length (ys.map (Value.int .i64)), bigE ((es.map lePart).eraseIdx e), rowE 87 4 t.lv es.length (es.flatMap Le.cells), rowE 3 1 t.mv zs.length (zs.map (Value.int .i64)), boxE b7 #[t.mv, t.lv, .int .i64 t.pad, .int .i64 t.ram] 39, boxE b2 #[.slice none 0 0, .slice none 0 0, .int .i64 0, .int .i64 0] 39, boxE b1 #[.int .i64 d.W, .int .i64 d.H, .int .i64 d.T, .int .i64 d.R] 25]) (sub_cons (d := 0) rfl (sub_cons (d := 1) rfl (sub_cons (d := 2) rfl (sub_cons (d := 4) rfl (sub_cons (d := 5) rfl (sub_cons (d := 6) rfl (sub_cons (d := 8) rfl (sub_cons (d := 17) rfl (sub_cons (d := 18) rfl (sub_cons (d := 19) rfl (sub_cons (d := 30) rfl (sub_cons (d := 31) rfl (sub_cons (d := 32) rfl (sub_cons (d := 40) rfl (sub_cons (d := 41) rfl (sub_cons (d := 42) rfl (sub_cons (d := 59) (congrArg some v4) (sub_cons (d := 61) (congrArg some e6.1) (sub_nil _))))))))))))))))))) (by first | (simp only [p4, v4, q0.2, q1.2, q2.2, q3.2, q5.2, q6.2, List.flatMap_cons, List.flatMap_nil, List.append_nil, List.nil_append, List.cons_append]; exact List.Sublist.refl _) | simp [p4, v4, q0.2, q1.2, q2.2, q3.2, q5.2, q6.2]) ?_
          simp only [List.drop_succ_cons, List.drop_zero]
          refine hl_storeEl (i := 3) (n' := (es.set e { es.getD e Le0 with m := getN xs q 16 }).length) (xs' := ((es.set e { es.getD e Le0 with m := getN xs q 16 }).flatMap Le.cells)) (l' := [boxE b3 #[.slice a_ xs.length cap_, .int .i64 (q + 16)] 129, rowE 3 1 ((es.getD e Le0).v) ys.length (ys.map (Value.int .i64)), bigE ((es.map lePart).eraseIdx e), rowE 87 4 t.lv ((es.set e { es.getD e Le0 with m := getN xs q 16 }).length) ((es.set e { es.getD e Le0 with m := getN xs q 16 }).flatMap Le.cells), rowE 3 1 t.mv zs.length (zs.map (Value.int .i64)), boxE b7 #[t.mv, t.lv, .int .i64 t.pad, .int .i64 t.ram] 39, boxE b2 #[.slice none 0 0, .slice none 0 0, .int .i64 0, .int .i64 0] 39, boxE b1 #[.int .i64 d.W, .int .i64 d.H, .int .i64 d.T, .int .i64 d.R] 25]) rfl rfl rfl (by kernel_rfl) rfl rfl rfl rfl (by first | omega | (simp only [List.length_set]; omega)) List.length_set.symm (flat_set Le.cells 4 (fun _ => rfl) _ Le0 _ (by first | omega | (simp only [List.length_set]; omega)) (by decide) rfl) rfl ?_
          refine hl_less (sub_cons (d := 0) rfl (sub_cons (d := 1) rfl (sub_cons (d := 2) rfl (sub_cons (d := 4) rfl (sub_cons (d := 5) rfl (sub_cons (d := 6) rfl (sub_cons (d := 8) rfl (sub_cons (d := 17) rfl (sub_cons (d := 18) rfl (sub_cons (d := 19) rfl (sub_cons (d := 30) rfl (sub_cons (d := 31) rfl (sub_cons (d := 32) rfl (sub_cons (d := 40) rfl (sub_cons (d := 41) rfl (sub_cons (d := 42) rfl (sub_nil _))))))))))))))))) (.refl _) ?_
          refine hl_nil ?_
          refine hq_then ?_
          refine hc_seq ?_
          refine hc_draw2 (l := [rowE 3 1 ((es.getD e Le0).v) ys.length (ys.map (Value.int .i64)), bigE ((es.map lePart).eraseIdx e), rowE 87 4 t.lv ((es.set e { es.getD e Le0 with m := getN xs q 16 }).length) ((es.set e { es.getD e Le0 with m := getN xs q 16 }).flatMap Le.cells), rowE 3 1 t.mv zs.length (zs.map (Value.int .i64)), boxE b7 #[t.mv, t.lv, .int .i64 t.pad, .int .i64 t.ram] 39, boxE b2 #[.slice none 0 0, .slice none 0 0, .int .i64 0, .int .i64 0] 39, boxE b1 #[.int .i64 d.W, .int .i64 d.H, .int .i64 d.T, .int .i64 d.R] 25]) (by kernel_rfl) 7 [0, 1, 2, 3, 4, 5, 6] (List.take 7 _) (List.drop 7 _) [[], [0], [], [], [3], [1, 2], [5]] [62, 63, 64, 65, 66, 67, 68] (fun i vs_ v_ p_ => match i with | 0 => v_ = .pointer (some ⟨b7, 0 + 1, none⟩) ∧ p_ = [] | 1 => v_ = t.lv ∧ p_ = [] | 2 => v_ = .int .i64 (e : Int) ∧ p_ = [] | 3 => v_ = .pointer (some ⟨b3, 0, none⟩) ∧ p_ = [] | 4 => (∃ pm_, p_ = [pm_] ∧ (fun u_ p_ => u_ = .int .i64 (getN xs (q + 16) 1) ∧ p_ = boxE b3 #[.slice a_ xs.length cap_, .int .i64 (q + 16 + 1)] 129) v_ pm_) | 5 => v_ = elP t.lv (((e : Int)).toNat * 4) ∧ p_ = [] | 6 => v_ = elP t.lv (((e : Int)).toNat * 4 + 2) ∧ p_ = [] | _ => True) [[], [0], [], [], [3], [1, 2], [5]] [none, none, none, none, some 8, none, none] [boxE b3 #[.slice a_ xs.length cap_, .int .i64 (q + 16)] 129] [0, 1, 2, 3, 4, 5, 6] 8 (List.take_append_drop 7 _).symm (by kernel_rfl) (by kernel_rfl) (by kernel_rfl) rfl rfl ?_ ?_
          ·
            refine ⟨?_, ?_, ?_, ?_, ?_, ?_, ?_, trivial⟩
            ·
              intro vf pf hmu hR
              refine Or.inl ⟨rfl, ?_⟩
              show RunQ _ _ _ (([] : List Nat).flatMap pf ++ _) (envOf _ vf [] ++ _) _ _
              refine rq_less (l' := [rowE 3 1 ((es.getD e Le0).v) ys.length (ys.map (Value.int .i64)), bigE ((es.map lePart).eraseIdx e), rowE 87 4 t.lv ((es.set e { es.getD e Le0 with m := getN xs q 16 }).length) ((es.set e { es.getD e Le0 with m := getN xs q 16 }).flatMap Le.cells), rowE 3 1 t.mv zs.length (zs.map (Value.int .i64)), boxE b7 #[t.mv, t.lv, .int .i64 t.pad, .int .i64 t.ram] 39, boxE b2 #[.slice none 0 0, .slice none 0 0, .int .i64 0, .int .i64 0] 39, boxE b1 #[.int .i64 d.W, .int .i64 d.H, .int .i64 d.T, .int .i64 d.R] 25]) (sub_cons (d := 6) rfl (sub_nil _)) (List.sublist_append_right _ _) ?_
              exact rq_v (rv_field (k0 := 1) rfl (by kernel_rfl) rfl)
            ·
              intro vf pf hmu hR
              have e0 : (vf 0) = .pointer (some ⟨b7, 0 + 1, none⟩) ∧ (pf 0) = [] := hR 0 (by decide)
              refine Or.inl ⟨rfl, ?_⟩
              show RunQ _ _ _ (([0] : List Nat).flatMap pf ++ _) (envOf _ vf [0] ++ _) _ _
              refine rq_less (l' := [rowE 3 1 ((es.getD e Le0).v) ys.length (ys.map (Value.int .i64)), bigE ((es.map lePart).eraseIdx e), rowE 87 4 t.lv ((es.set e { es.getD e Le0 with m := getN xs q 16 }).length) ((es.set e { es.getD e Le0 with m := getN xs q 16 }).flatMap Le.cells), rowE 3 1 t.mv zs.length (zs.map (Value.int .i64)), boxE b7 #[t.mv, t.lv, .int .i64 t.pad, .int .i64 t.ram] 39, boxE b2 #[.slice none 0 0, .slice none 0 0, .int .i64 0, .int .i64 0] 39, boxE b1 #[.int .i64 d.W, .int .i64 d.H, .int .i64 d.T, .int .i64 d.R] 25]) (sub_cons (d := 62) (congrArg some e0.1) (sub_nil _)) (List.sublist_append_right _ _) ?_
              exact rq_v (rv_load rfl (by kernel_rfl) rfl (box_cell 4 rfl rfl))
            ·
              intro vf pf hmu hR
              refine Or.inl ⟨rfl, ?_⟩
              show RunQ _ _ _ (([] : List Nat).flatMap pf ++ _) (envOf _ vf [] ++ _) _ _
              refine rq_less (l' := [rowE 3 1 ((es.getD e Le0).v) ys.length (ys.map (Value.int .i64)), bigE ((es.map lePart).eraseIdx e), rowE 87 4 t.lv ((es.set e { es.getD e Le0 with m := getN xs q 16 }).length) ((es.set e { es.getD e Le0 with m := getN xs q 16 }).flatMap Le.cells), rowE 3 1 t.mv zs.length (zs.map (Value.int .i64)), boxE b7 #[t.mv, t.lv, .int .i64 t.pad, .int .i64 t.ram] 39, boxE b2 #[.slice none 0 0, .slice none 0 0, .int .i64 0, .int .i64 0] 39, boxE b1 #[.int .i64 d.W, .int .i64 d.H, .int .i64 d.T, .int .i64 d.R] 25]) (sub_cons (d := 8) rfl (sub_nil _)) (List.sublist_append_right _ _) ?_
              exact rq_v (rv_ev rfl)
            ·
              intro vf pf hmu hR
              refine Or.inl ⟨rfl, ?_⟩
              show RunQ _ _ _ (([] : List Nat).flatMap pf ++ _) (envOf _ vf [] ++ _) _ _
              refine rq_less (l' := [rowE 3 1 ((es.getD e Le0).v) ys.length (ys.map (Value.int .i64)), bigE ((es.map lePart).eraseIdx e), rowE 87 4 t.lv ((es.set e { es.getD e Le0 with m := getN xs q 16 }).length) ((es.set e { es.getD e Le0 with m := getN xs q 16 }).flatMap Le.cells), rowE 3 1 t.mv zs.length (zs.map (Value.int .i64)), boxE b7 #[t.mv, t.lv, .int .i64 t.pad, .int .i64 t.ram] 39, boxE b2 #[.slice none 0 0, .slice none 0 0, .int .i64 0, .int .i64 0] 39, boxE b1 #[.int .i64 d.W, .int .i64 d.H, .int .i64 d.T, .int .i64 d.R] 25]) (sub_cons (d := 5) rfl (sub_nil _)) (List.sublist_append_right _ _) ?_
              exact rq_v (rv_ev rfl)
            ·
              intro vf pf hmu hR
              have e3 : (vf 3) = .pointer (some ⟨b3, 0, none⟩) ∧ (pf 3) = [] := hR 3 (by decide)
              refine Or.inl ⟨rfl, ?_⟩
              show RunM _ _ _ (pf 8) (([3] : List Nat).flatMap pf ++ _) (envOf _ vf [3] ++ _) _ _
              rw [hmu]
              refine rm_less (X' := [rowE 3 1 ((es.getD e Le0).v) ys.length (ys.map (Value.int .i64)), bigE ((es.map lePart).eraseIdx e), rowE 87 4 t.lv ((es.set e { es.getD e Le0 with m := getN xs q 16 }).length) ((es.set e { es.getD e Le0 with m := getN xs q 16 }).flatMap Le.cells), rowE 3 1 t.mv zs.length (zs.map (Value.int .i64)), boxE b7 #[t.mv, t.lv, .int .i64 t.pad, .int .i64 t.ram] 39, boxE b2 #[.slice none 0 0, .slice none 0 0, .int .i64 0, .int .i64 0] 39, boxE b1 #[.int .i64 d.W, .int .i64 d.H, .int .i64 d.T, .int .i64 d.R] 25]) (sub_cons (d := 65) (congrArg some e3.1) (sub_nil _)) (by first | (simp only [e3.2, List.flatMap_cons, List.flatMap_nil, List.append_nil, List.nil_append, List.cons_append]; exact List.Sublist.refl _) | simp [e3.2]) ?_
              exact rq_callM (R := (fun u_ p_ => u_ = .int .i64 (getN xs (q + 16) 1) ∧ p_ = boxE b3 #[.slice a_ xs.length cap_, .int .i64 (q + 16 + 1)] 129)) (by kernel_rfl) rfl (fun L w hX hm => bitGet_mut xs (.slice a_ xs.length cap_) b3 (q + 16) 1 _ _ w hm (rd_old hv) hxs (by omega) (by omega) (by omega))
            ·
              intro vf pf hmu hR
              have e1 : (vf 1) = t.lv ∧ (pf 1) = [] := hR 1 (by decide)
              have e2 : (vf 2) = .int .i64 (e : Int) ∧ (pf 2) = [] := hR 2 (by decide)
              refine Or.inl ⟨rfl, ?_⟩
              show RunQ _ _ _ (([1, 2] : List Nat).flatMap pf ++ _) (envOf _ vf [1, 2] ++ _) _ _
              refine rq_less (l' := [rowE 3 1 ((es.getD e Le0).v) ys.length (ys.map (Value.int .i64)), bigE ((es.map lePart).eraseIdx e), rowE 87 4 t.lv ((es.set e { es.getD e Le0 with m := getN xs q 16 }).length) ((es.set e { es.getD e Le0 with m := getN xs q 16 }).flatMap Le.cells), rowE 3 1 t.mv zs.length (zs.map (Value.int .i64)), boxE b7 #[t.mv, t.lv, .int .i64 t.pad, .int .i64 t.ram] 39, boxE b2 #[.slice none 0 0, .slice none 0 0, .int .i64 0, .int .i64 0] 39, boxE b1 #[.int .i64 d.W, .int .i64 d.H, .int .i64 d.T, .int .i64 d.R] 25]) (sub_cons (d := 63) (congrArg some e1.1) (sub_cons (d := 64) (congrArg some e2.1) (sub_nil _))) (List.sublist_append_right _ _) ?_
              exact rq_v (rv_index (s := 4) rfl Try.underlying37 (by kernel_rfl) rfl rfl (rd_row 2 rfl) (by omega) (by first | omega | (simp only [List.length_set]; omega)))
            ·
              intro vf pf hmu hR
              have e5 : (vf 5) = elP t.lv (((e : Int)).toNat * 4) ∧ (pf 5) = [] := hR 5 (by decide)
              refine Or.inl ⟨rfl, ?_⟩
              show RunQ _ _ _ (([5] : List Nat).flatMap pf ++ _) (envOf _ vf [5] ++ _) _ _
              refine rq_less (l' := [rowE 3 1 ((es.getD e Le0).v) ys.length (ys.map (Value.int .i64)), bigE ((es.map lePart).eraseIdx e), rowE 87 4 t.lv ((es.set e { es.getD e Le0 with m := getN xs q 16 }).length) ((es.set e { es.getD e Le0 with m := getN xs q 16 }).flatMap Le.cells), rowE 3 1 t.mv zs.length (zs.map (Value.int .i64)), boxE b7 #[t.mv, t.lv, .int .i64 t.pad, .int .i64 t.ram] 39, boxE b2 #[.slice none 0 0, .slice none 0 0, .int .i64 0, .int .i64 0] 39, boxE b1 #[.int .i64 d.W, .int .i64 d.H, .int .i64 d.T, .int .i64 d.R] 25]) (sub_cons (d := 67) (congrArg some e5.1) (sub_nil _)) (List.sublist_append_right _ _) ?_
              exact rq_v (rv_fieldEl (k0 := 2) rfl (by kernel_rfl) rfl (rd_row 2 rfl) (by first | omega | (simp only [List.length_set]; omega)))
          ·
            intro vf pf hmu hR
            have e4 : (∃ pm_, (pf 4) = [pm_] ∧ (fun u_ p_ => u_ = .int .i64 (getN xs (q + 16) 1) ∧ p_ = boxE b3 #[.slice a_ xs.length cap_, .int .i64 (q + 16 + 1)] 129) (vf 4) pm_) := hR 4 (by decide)
            obtain ⟨p24, p4, hR25⟩ := e4
            obtain ⟨v23, v4⟩ : ∃ x, vf 4 = x := ⟨_, rfl⟩
            rw [v4] at hR25
            obtain ⟨rfl, rfl⟩ := hR25
            have e6 : (vf 6) = elP t.lv (((e : Int)).toNat * 4 + 2) ∧ (pf 6) = [] := hR 6 (by decide)
            have q0 : (vf 0) = .pointer (some ⟨b7, 0 + 1, none⟩) ∧ (pf 0) = [] := hR 0 (by decide)
            have q1 : (vf 1) = t.lv ∧ (pf 1) = [] := hR 1 (by decide)
            have q2 : (vf 2) = .int .i64 (e : Int) ∧ (pf 2) = [] := hR 2 (by decide)
            have q3 : (vf 3) = .pointer (some ⟨b3, 0, none⟩) ∧ (pf 3) = [] := hR 3 (by decide)
            have q5 : (vf 5) = elP t.lv (((e : Int)).toNat * 4) ∧ (pf 5) = [] := hR 5 (by decide)
            have q6 : (vf 6) = elP t.lv (((e : Int)).toNat * 4 + 2) ∧ (pf 6) = [] := hR 6 (by decide)
            refine hl_less (l' := [boxE b3 #[.slice a_ xs.length cap_, .int .i64 (q + 16 + 1)] 129, rowE 3 1 ((es.getD e Le0).v) ys.length (ys.map (Value.int .i64)), bigE ((es.map lePart).eraseIdx e), rowE 87 4 t.lv ((es.set e { es.getD e Le0 with m := getN xs q 16 }).length) ((es.set e { es.getD e Le0 with m := getN xs q 16 }).flatMap Le.cells), rowE 3 1 t.mv zs.length (zs.map (Value.int .i64)), boxE b7 #[t.mv, t.lv, .int .i64 t.pad, .int .i64 t.ram] 39, boxE b2 #[.slice none 0 0, .slice none 0 0, .int .i64 0, .int .i64 0] 39, boxE b1 #[.int .i64 d.W, .int .i64 d.H, .int .i64 d.T, .int .i64 d.R] 25]) (sub_cons (d := 0) rfl (sub_cons (d := 1) rfl (sub_cons (d := 2) rfl (sub_cons (d := 4) rfl (sub_cons (d := 5) rfl (sub_cons (d := 6) rfl (sub_cons (d := 8) rfl (sub_cons (d := 17) rfl (sub_cons (d := 18) rfl (sub_cons (d := 19) rfl (sub_cons (d := 30) rfl (sub_cons (d := 31) rfl (sub_cons (d := 32) rfl (sub_cons (d := 40) rfl (sub_cons (d := 41) rfl (sub_cons (d := 42) rfl (sub_cons (d := 66) (congrArg some v4) (sub_cons (d := 68) (congrArg some e6.1) (sub_nil _))))))))))))))))))) (by first | (simp only [p4, v4, q0.2, q1.2, q2.2, q3.2, q5.2, q6.2, List.flatMap_cons, List.flatMap_nil, List.append_nil, List.nil_append, List.cons_append]; exact List.Sublist.refl _) | simp [p4, v4, q0.2, q1.2, q2.2, q3.2, q5.2, q6.2]) ?_
            simp only [List.drop_succ_cons, List.drop_zero]
            refine hl_storeEl (i := 3) (n' := ((es.set e { es.getD e Le0 with m := getN xs q 16 }).set e { (es.set e { es.getD e Le0 with m := getN xs q 16 }).getD e Le0 with f := getN xs (q + 16) 1 }).length) (xs' := (((es.set e { es.getD e Le0 with m := getN xs q 16 }).set e { (es.set e { es.getD e Le0 with m := getN xs q 16 }).getD e Le0 with f := getN xs (q + 16) 1 }).flatMap Le.cells)) (l' := [boxE b3 #[.slice a_ xs.length cap_, .int .i64 (q + 16 + 1)] 129, rowE 3 1 ((es.getD e Le0).v) ys.length (ys.map (Value.int .i64)), bigE ((es.map lePart).eraseIdx e), rowE 87 4 t.lv (((es.set e { es.getD e Le0 with m := getN xs q 16 }).set e { (es.set e { es.getD e Le0 with m := getN xs q 16 }).getD e Le0 with f := getN xs (q + 16) 1 }).length) (((es.set e { es.getD e Le0 with m := getN xs q 16 }).set e { (es.set e { es.getD e Le0 with m := getN xs q 16 }).getD e Le0 with f := getN xs (q + 16) 1 }).flatMap Le.cells), rowE 3 1 t.mv zs.length (zs.map (Value.int .i64)), boxE b7 #[t.mv, t.lv, .int .i64 t.pad, .int .i64 t.ram] 39, boxE b2 #[.slice none 0 0, .slice none 0 0, .int .i64 0, .int .i64 0] 39, boxE b1 #[.int .i64 d.W, .int .i64 d.H, .int .i64 d.T, .int .i64 d.R] 25]) rfl rfl rfl (by kernel_rfl) rfl rfl rfl rfl (by first | omega | (simp only [List.length_set]; omega)) List.length_set.symm (flat_set Le.cells 4 (fun _ => rfl) _ Le0 _ (by first | omega | (simp only [List.length_set]; omega)) (by decide) rfl) rfl ?_
            refine hl_less (sub_cons (d := 0) rfl (sub_cons (d := 1) rfl (sub_cons (d := 2) rfl (sub_cons (d := 4) rfl (sub_cons (d := 5) rfl (sub_cons (d := 6) rfl (sub_cons (d := 8) rfl (sub_cons (d := 17) rfl (sub_cons (d := 18) rfl (sub_cons (d := 19) rfl (sub_cons (d := 30) rfl (sub_cons (d := 31) rfl (sub_cons (d := 32) rfl (sub_cons (d := 40) rfl (sub_cons (d := 41) rfl (sub_cons (d := 42) rfl (sub_nil _))))))))))))))))) (.refl _) ?_
            refine hl_nil ?_
            refine hq_then ?_
            refine hc_draw2 (l := [rowE 3 1 ((es.getD e Le0).v) ys.length (ys.map (Value.int .i64)), bigE ((es.map lePart).eraseIdx e), rowE 87 4 t.lv (((es.set e { es.getD e Le0 with m := getN xs q 16 }).set e { (es.set e { es.getD e Le0 with m := getN xs q 16 }).getD e Le0 with f := getN xs (q + 16) 1 }).length) (((es.set e { es.getD e Le0 with m := getN xs q 16 }).set e { (es.set e { es.getD e Le0 with m := getN xs q 16 }).getD e Le0 with f := getN xs (q + 16) 1 }).flatMap Le.cells), rowE 3 1 t.mv zs.length (zs.map (Value.int .i64)), boxE b7 #[t.mv, t.lv, .int .i64 t.pad, .int .i64 t.ram] 39, boxE b2 #[.slice none 0 0, .slice none 0 0, .int .i64 0, .int .i64 0] 39, boxE b1 #[.int .i64 d.W, .int .i64 d.H, .int .i64 d.T, .int .i64 d.R] 25]) (by kernel_rfl) 7 [0, 1, 2, 3, 4, 5, 6] (List.take 7 _) (List.drop 7 _) [[], [0], [], [], [3], [1, 2], [5]] [69, 70, 71, 72, 73, 74, 75] (fun i vs_ v_ p_ => match i with | 0 => v_ = .pointer (some ⟨b7, 0 + 1, none⟩) ∧ p_ = [] | 1 => v_ = t.lv ∧ p_ = [] | 2 => v_ = .int .i64 (e : Int) ∧ p_ = [] | 3 => v_ = .pointer (some ⟨b3, 0, none⟩) ∧ p_ = [] | 4 => (∃ pm_, p_ = [pm_] ∧ (fun u_ p_ => u_ = .int .i64 (getN xs (q + 16 + 1) 1) ∧ p_ = boxE b3 #[.slice a_ xs.length cap_, .int .i64 (q + 16 + 1 + 1)] 129) v_ pm_) | 5 => v_ = elP t.lv (((e : Int)).toNat * 4) ∧ p_ = [] | 6 => v_ = elP t.lv (((e : Int)).toNat * 4 + 3) ∧ p_ = [] | _ => True) [[], [0], [], [], [3], [1, 2], [5]] [none, none, none, none, some 8, none, none] [boxE b3 #[.slice a_ xs.length cap_, .int .i64 (q + 16 + 1)] 129] [0, 1, 2, 3, 4, 5, 6] 8 (List.take_append_drop 7 _).symm (by kernel_rfl) (by kernel_rfl) (by kernel_rfl) rfl rfl ?_ ?_
            ·
              refine ⟨?_, ?_, ?_, ?_, ?_, ?_, ?_, trivial⟩
              ·
                intro vf pf hmu hR
                refine Or.inl ⟨rfl, ?_⟩
                show RunQ _ _ _ (([] : List Nat).flatMap pf ++ _) (envOf _ vf [] ++ _) _ _
                refine rq_less (l' := [rowE 3 1 ((es.getD e Le0).v) ys.length (ys.map (Value.int .i64)), bigE ((es.map lePart).eraseIdx e), rowE 87 4 t.lv (((es.set e { es.getD e Le0 with m := getN xs q 16 }).set e { (es.set e { es.getD e Le0 with m := getN xs q 16 }).getD e Le0 with f := getN xs (q + 16) 1 }).length) (((es.set e { es.getD e Le0 with m := getN xs q 16 }).set e { (es.set e { es.getD e Le0 with m := getN xs q 16 }).getD e Le0 with f := getN xs (q + 16) 1 }).flatMap Le.cells), rowE 3 1 t.mv zs.length (zs.map (Value.int .i64)), boxE b7 #[t.mv, t.lv, .int .i64 t.pad, .int .i64 t.ram] 39, boxE b2 #[.slice none 0 0, .slice none 0 0, .int .i64 0, .int .i64 0] 39, boxE b1 #[.int .i64 d.W, .int .i64 d.H, .int .i64 d.T, .int .i64 d.R] 25]) (sub_cons (d := 6) rfl (sub_nil _)) (List.sublist_append_right _ _) ?_
                exact rq_v (rv_field (k0 := 1) rfl (by kernel_rfl) rfl)
              ·
                intro vf pf hmu hR
                have e0 : (vf 0) = .pointer (some ⟨b7, 0 + 1, none⟩) ∧ (pf 0) = [] := hR 0 (by decide)
                refine Or.inl ⟨rfl, ?_⟩
                show RunQ _ _ _ (([0] : List Nat).flatMap pf ++ _) (envOf _ vf [0] ++ _) _ _
                refine rq_less (l' := [rowE 3 1 ((es.getD e Le0).v) ys.length (ys.map (Value.int .i64)), bigE ((es.map lePart).eraseIdx e), rowE 87 4 t.lv (((es.set e { es.getD e Le0 with m := getN xs q 16 }).set e { (es.set e { es.getD e Le0 with m := getN xs q 16 }).getD e Le0 with f := getN xs (q + 16) 1 }).length) (((es.set e { es.getD e Le0 with m := getN xs q 16 }).set e { (es.set e { es.getD e Le0 with m := getN xs q 16 }).getD e Le0 with f := getN xs (q + 16) 1 }).flatMap Le.cells), rowE 3 1 t.mv zs.length (zs.map (Value.int .i64)), boxE b7 #[t.mv, t.lv, .int .i64 t.pad, .int .i64 t.ram] 39, boxE b2 #[.slice none 0 0, .slice none 0 0, .int .i64 0, .int .i64 0] 39, boxE b1 #[.int .i64 d.W, .int .i64 d.H, .int .i64 d.T, .int .i64 d.R] 25]) (sub_cons (d := 69) (congrArg some e0.1) (sub_nil _)) (List.sublist_append_right _ _) ?_
                exact rq_v (rv_load rfl (by kernel_rfl) rfl (box_cell 4 rfl rfl))
              ·
                intro vf pf hmu hR
                refine Or.inl ⟨rfl, ?_⟩
                show RunQ _ _ _ (([] : List Nat).flatMap pf ++ _) (envOf _ vf [] ++ _) _ _
                refine rq_less (l' := [rowE 3 1 ((es.getD e Le0).v) ys.length (ys.map (Value.int .i64)), bigE ((es.map lePart).eraseIdx e), rowE 87 4 t.lv (((es.set e { es.getD e Le0 with m := getN xs q 16 }).set e { (es.set e { es.getD e Le0 with m := getN xs q 16 }).getD e Le0 with f := getN xs (q + 16) 1 }).length) (((es.set e { es.getD e Le0 with m := getN xs q 16 }).set e { (es.set e { es.getD e Le0 with m := getN xs q 16 }).getD e Le0 with f := getN xs (q + 16) 1 }).flatMap Le.cells), rowE 3 1 t.mv zs.length (zs.map (Value.int .i64)), boxE b7 #[t.mv, t.lv, .int .i64 t.pad, .int .i64 t.ram] 39, boxE b2 #[.slice none 0 0, .slice none 0 0, .int .i64 0, .int .i64 0] 39, boxE b1 #[.int .i64 d.W, .int .i64 d.H, .int .i64 d.T, .int .i64 d.R] 25]) (sub_cons (d := 8) rfl (sub_nil _)) (List.sublist_append_right _ _) ?_
                exact rq_v (rv_ev rfl)
              ·
                intro vf pf hmu hR
                refine Or.inl ⟨rfl, ?_⟩
                show RunQ _ _ _ (([] : List Nat).flatMap pf ++ _) (envOf _ vf [] ++ _) _ _
                refine rq_less (l' := [rowE 3 1 ((es.getD e Le0).v) ys.length (ys.map (Value.int .i64)), bigE ((es.map lePart).eraseIdx e), rowE 87 4 t.lv (((es.set e { es.getD e Le0 with m := getN xs q 16 }).set e { (es.set e { es.getD e Le0 with m := getN xs q 16 }).getD e Le0 with f := getN xs (q + 16) 1 }).length) (((es.set e { es.getD e Le0 with m := getN xs q 16 }).set e { (es.set e { es.getD e Le0 with m := getN xs q 16 }).getD e Le0 with f := getN xs (q + 16) 1 }).flatMap Le.cells), rowE 3 1 t.mv zs.length (zs.map (Value.int .i64)), boxE b7 #[t.mv, t.lv, .int .i64 t.pad, .int .i64 t.ram] 39, boxE b2 #[.slice none 0 0, .slice none 0 0, .int .i64 0, .int .i64 0] 39, boxE b1 #[.int .i64 d.W, .int .i64 d.H, .int .i64 d.T, .int .i64 d.R] 25]) (sub_cons (d := 5) rfl (sub_nil _)) (List.sublist_append_right _ _) ?_
                exact rq_v (rv_ev rfl)
              ·
                intro vf pf hmu hR
                have e3 : (vf 3) = .pointer (some ⟨b3, 0, none⟩) ∧ (pf 3) = [] := hR 3 (by decide)
                refine Or.inl ⟨rfl, ?_⟩
                show RunM _ _ _ (pf 8) (([3] : List Nat).flatMap pf ++ _) (envOf _ vf [3] ++ _) _ _
                rw [hmu]
                refine rm_less (X' := [rowE 3 1 ((es.getD e Le0).v) ys.length (ys.map (Value.int .i64)), bigE ((es.map lePart).eraseIdx e), rowE 87 4 t.lv (((es.set e { es.getD e Le0 with m := getN xs q 16 }).set e { (es.set e { es.getD e Le0 with m := getN xs q 16 }).getD e Le0 with f := getN xs (q + 16) 1 }).length) (((es.set e { es.getD e Le0 with m := getN xs q 16 }).set e { (es.set e { es.getD e Le0 with m := getN xs q 16 }).getD e Le0 with f := getN xs (q + 16) 1 }).flatMap Le.cells), rowE 3 1 t.mv zs.length (zs.map (Value.int .i64)), boxE b7 #[t.mv, t.lv, .int .i64 t.pad, .int .i64 t.ram] 39, boxE b2 #[.slice none 0 0, .slice none 0 0, .int .i64 0, .int .i64 0] 39, boxE b1 #[.int .i64 d.W, .int .i64 d.H, .int .i64 d.T, .int .i64 d.R] 25]) (sub_cons (d := 72) (congrArg some e3.1) (sub_nil _)) (by first | (simp only [e3.2, List.flatMap_cons, List.flatMap_nil, List.append_nil, List.nil_append, List.cons_append]; exact List.Sublist.refl _) | simp [e3.2]) ?_
                exact rq_callM (R := (fun u_ p_ => u_ = .int .i64 (getN xs (q + 16 + 1) 1) ∧ p_ = boxE b3 #[.slice a_ xs.length cap_, .int .i64 (q + 16 + 1 + 1)] 129)) (by kernel_rfl) rfl (fun L w hX hm => bitGet_mut xs (.slice a_ xs.length cap_) b3 (q + 16 + 1) 1 _ _ w hm (rd_old hv) hxs (by omega) (by omega) (by omega))
              ·
                intro vf pf hmu hR
                have e1 : (vf 1) = t.lv ∧ (pf 1) = [] := hR 1 (by decide)
                have e2 : (vf 2) = .int .i64 (e : Int) ∧ (pf 2) = [] := hR 2 (by decide)
                refine Or.inl ⟨rfl, ?_⟩
                show RunQ _ _ _ (([1, 2] : List Nat).flatMap pf ++ _) (envOf _ vf [1, 2] ++ _) _ _
                refine rq_less (l' := [rowE 3 1 ((es.getD e Le0).v) ys.length (ys.map (Value.int .i64)), bigE ((es.map lePart).eraseIdx e), rowE 87 4 t.lv (((es.set e { es.getD e Le0 with m := getN xs q 16 }).set e { (es.set e { es.getD e Le0 with m := getN xs q 16 }).getD e Le0 with f := getN xs (q + 16) 1 }).length) (((es.set e { es.getD e Le0 with m := getN xs q 16 }).set e { (es.set e { es.getD e Le0 with m := getN xs q 16 }).getD e Le0 with f := getN xs (q + 16) 1 }).flatMap Le.cells), rowE 3 1 t.mv zs.length (zs.map (Value.int .i64)), boxE b7 #[t.mv, t.lv, .int .i64 t.pad, .int .i64 t.ram] 39, boxE b2 #[.slice none 0 0, .slice none 0 0, .int .i64 0, .int .i64 0] 39, boxE b1 #[.int .i64 d.W, .int .i64 d.H, .int .i64 d.T, .int .i64 d.R] 25]) (sub_cons (d := 70) (congrArg some e1.1) (sub_cons (d := 71) (congrArg some e2.1) (sub_nil _))) (List.sublist_append_right _ _) ?_
                exact rq_v (rv_index (s := 4) rfl Try.underlying37 (by kernel_rfl) rfl rfl (rd_row 2 rfl) (by omega) (by first | omega | (simp only [List.length_set]; omega)))
              ·
                intro vf pf hmu hR
                have e5 : (vf 5) = elP t.lv (((e : Int)).toNat * 4) ∧ (pf 5) = [] := hR 5 (by decide)
                refine Or.inl ⟨rfl, ?_⟩
                show RunQ _ _ _ (([5] : List Nat).flatMap pf ++ _) (envOf _ vf [5] ++ _) _ _
                refine rq_less (l' := [rowE 3 1 ((es.getD e Le0).v) ys.length (ys.map (Value.int .i64)), bigE ((es.map lePart).eraseIdx e), rowE 87 4 t.lv (((es.set e { es.getD e Le0 with m := getN xs q 16 }).set e { (es.set e { es.getD e Le0 with m := getN xs q 16 }).getD e Le0 with f := getN xs (q + 16) 1 }).length) (((es.set e { es.getD e Le0 with m := getN xs q 16 }).set e { (es.set e { es.getD e Le0 with m := getN xs q 16 }).getD e Le0 with f := getN xs (q + 16) 1 }).flatMap Le.cells), rowE 3 1 t.mv zs.length (zs.map (Value.int .i64)), boxE b7 #[t.mv, t.lv, .int .i64 t.pad, .int .i64 t.ram] 39, boxE b2 #[.slice none 0 0, .slice none 0 0, .int .i64 0, .int .i64 0] 39, boxE b1 #[.int .i64 d.W, .int .i64 d.H, .int .i64 d.T, .int .i64 d.R] 25]) (sub_cons (d := 74) (congrArg some e5.1) (sub_nil _)) (List.sublist_append_right _ _) ?_
                exact rq_v (rv_fieldEl (k0 := 3) rfl (by kernel_rfl) rfl (rd_row 2 rfl) (by first | omega | (simp only [List.length_set]; omega)))
            ·
              intro vf pf hmu hR
              have e4 : (∃ pm_, (pf 4) = [pm_] ∧ (fun u_ p_ => u_ = .int .i64 (getN xs (q + 16 + 1) 1) ∧ p_ = boxE b3 #[.slice a_ xs.length cap_, .int .i64 (q + 16 + 1 + 1)] 129) (vf 4) pm_) := hR 4 (by decide)
              obtain ⟨p27, p4, hR28⟩ := e4
              obtain ⟨v26, v4⟩ : ∃ x, vf 4 = x := ⟨_, rfl⟩
              rw [v4] at hR28
              obtain ⟨rfl, rfl⟩ := hR28
              have e6 : (vf 6) = elP t.lv (((e : Int)).toNat * 4 + 3) ∧ (pf 6) = [] := hR 6 (by decide)
              have q0 : (vf 0) = .pointer (some ⟨b7, 0 + 1, none⟩) ∧ (pf 0) = [] := hR 0 (by decide)
              have q1 : (vf 1) = t.lv ∧ (pf 1) = [] := hR 1 (by decide)
              have q2 : (vf 2) = .int .i64 (e : Int) ∧ (pf 2) = [] := hR 2 (by decide)
              have q3 : (vf 3) = .pointer (some ⟨b3, 0, none⟩) ∧ (pf 3) = [] := hR 3 (by decide)
              have q5 : (vf 5) = elP t.lv (((e : Int)).toNat * 4) ∧ (pf 5) = [] := hR 5 (by decide)
              have q6 : (vf 6) = elP t.lv (((e : Int)).toNat * 4 + 3) ∧ (pf 6) = [] := hR 6 (by decide)
              refine hl_less (l' := [boxE b3 #[.slice a_ xs.length cap_, .int .i64 (q + 16 + 1 + 1)] 129, rowE 3 1 ((es.getD e Le0).v) ys.length (ys.map (Value.int .i64)), bigE ((es.map lePart).eraseIdx e), rowE 87 4 t.lv (((es.set e { es.getD e Le0 with m := getN xs q 16 }).set e { (es.set e { es.getD e Le0 with m := getN xs q 16 }).getD e Le0 with f := getN xs (q + 16) 1 }).length) (((es.set e { es.getD e Le0 with m := getN xs q 16 }).set e { (es.set e { es.getD e Le0 with m := getN xs q 16 }).getD e Le0 with f := getN xs (q + 16) 1 }).flatMap Le.cells), rowE 3 1 t.mv zs.length (zs.map (Value.int .i64)), boxE b7 #[t.mv, t.lv, .int .i64 t.pad, .int .i64 t.ram] 39, boxE b2 #[.slice none 0 0, .slice none 0 0, .int .i64 0, .int .i64 0] 39, boxE b1 #[.int .i64 d.W, .int .i64 d.H, .int .i64 d.T, .int .i64 d.R] 25]) (sub_cons (d := 0) rfl (sub_cons (d := 1) rfl (sub_cons (d := 2) rfl (sub_cons (d := 4) rfl (sub_cons (d := 5) rfl (sub_cons (d := 6) rfl (sub_cons (d := 8) rfl (sub_cons (d := 17) rfl (sub_cons (d := 18) rfl (sub_cons (d := 19) rfl (sub_cons (d := 30) rfl (sub_cons (d := 31) rfl (sub_cons (d := 32) rfl (sub_cons (d := 40) rfl (sub_cons (d := 41) rfl (sub_cons (d := 42) rfl (sub_cons (d := 73) (congrArg some v4) (sub_cons (d := 75) (congrArg some e6.1) (sub_nil _))))))))))))))))))) (by first | (simp only [p4, v4, q0.2, q1.2, q2.2, q3.2, q5.2, q6.2, List.flatMap_cons, List.flatMap_nil, List.append_nil, List.nil_append, List.cons_append]; exact List.Sublist.refl _) | simp [p4, v4, q0.2, q1.2, q2.2, q3.2, q5.2, q6.2]) ?_
              simp only [List.drop_succ_cons, List.drop_zero]
              refine hl_storeEl (i := 3) (n' := (((es.set e { es.getD e Le0 with m := getN xs q 16 }).set e { (es.set e { es.getD e Le0 with m := getN xs q 16 }).getD e Le0 with f := getN xs (q + 16) 1 }).set e { ((es.set e { es.getD e Le0 with m := getN xs q 16 }).set e { (es.set e { es.getD e Le0 with m := getN xs q 16 }).getD e Le0 with f := getN xs (q + 16) 1 }).getD e Le0 with i := getN xs (q + 16 + 1) 1 }).length) (xs' := ((((es.set e { es.getD e Le0 with m := getN xs q 16 }).set e { (es.set e { es.getD e Le0 with m := getN xs q 16 }).getD e Le0 with f := getN xs (q + 16) 1 }).set e { ((es.set e { es.getD e Le0 with m := getN xs q 16 }).set e { (es.set e { es.getD e Le0 with m := getN xs q 16 }).getD e Le0 with f := getN xs (q + 16) 1 }).getD e Le0 with i := getN xs (q + 16 + 1) 1 }).flatMap Le.cells)) (l' := [boxE b3 #[.slice a_ xs.length cap_, .int .i64 (q + 16 + 1 + 1)] 129, rowE 3 1 ((es.getD e Le0).v) ys.length (ys.map (Value.int .i64)), bigE ((es.map lePart).eraseIdx e), rowE 87 4 t.lv ((((es.set e { es.getD e Le0 with m := getN xs q 16 }).set e { (es.set e { es.getD e Le0 with m := getN xs q 16 }).getD e Le0 with f := getN xs (q + 16) 1 }).set e { ((es.set e { es.getD e Le0 with m := getN xs q 16 }).set e { (es.set e { es.getD e Le0 with m := getN xs q 16 }).getD e Le0 with f := getN xs (q + 16) 1 }).getD e Le0 with i := getN xs (q + 16 + 1) 1 }).length) ((((es.set e { es.getD e Le0 with m := getN xs q 16 }).set e { (es.set e { es.getD e Le0 with m := getN xs q 16 }).getD e Le0 with f := getN xs (q + 16) 1 }).set e { ((es.set e { es.getD e Le0 with m := getN xs q 16 }).set e { (es.set e { es.getD e Le0 with m := getN xs q 16 }).getD e Le0 with f := getN xs (q + 16) 1 }).getD e Le0 with i := getN xs (q + 16 + 1) 1 }).flatMap Le.cells), rowE 3 1 t.mv zs.length (zs.map (Value.int .i64)), boxE b7 #[t.mv, t.lv, .int .i64 t.pad, .int .i64 t.ram] 39, boxE b2 #[.slice none 0 0, .slice none 0 0, .int .i64 0, .int .i64 0] 39, boxE b1 #[.int .i64 d.W, .int .i64 d.H, .int .i64 d.T, .int .i64 d.R] 25]) rfl rfl rfl (by kernel_rfl) rfl rfl rfl rfl (by first | omega | (simp only [List.length_set]; omega)) List.length_set.symm (flat_set Le.cells 4 (fun _ => rfl) _ Le0 _ (by first | omega | (simp only [List.length_set]; omega)) (by decide) rfl) rfl ?_
              refine hl_less (sub_cons (d := 0) rfl (sub_cons (d := 1) rfl (sub_cons (d := 2) rfl (sub_cons (d := 4) rfl (sub_cons (d := 5) rfl (sub_cons (d := 6) rfl (sub_cons (d := 8) rfl (sub_cons (d := 17) rfl (sub_cons (d := 18) rfl (sub_cons (d := 19) rfl (sub_cons (d := 30) rfl (sub_cons (d := 31) rfl (sub_cons (d := 32) rfl (sub_cons (d := 40) rfl (sub_cons (d := 41) rfl (sub_cons (d := 42) rfl (sub_nil _))))))))))))))))) (.refl _) ?_
              refine hl_nil ?_
              refine hq_block_normal ?_
              refine hq_then ?_
              refine hc_region ?_
              refine hl_v rfl rfl rfl (rv_add rfl rfl rfl (by constructor <;> omega)) ?_
              refine hl_v rfl rfl rfl (rv_ev rfl) ?_
              refine hl_less (sub_cons (d := 0) rfl (sub_cons (d := 1) rfl (sub_cons (d := 2) rfl (sub_cons (d := 4) rfl (sub_cons (d := 5) rfl (sub_cons (d := 6) rfl (sub_cons (d := 8) rfl (sub_cons (d := 17) rfl (sub_cons (d := 18) rfl (sub_cons (d := 19) rfl (sub_cons (d := 30) rfl (sub_cons (d := 31) rfl (sub_cons (d := 32) rfl (sub_cons (d := 40) rfl (sub_cons (d := 41) rfl (sub_cons (d := 42) rfl (sub_nil _))))))))))))))))) (.refl _) ?_
              refine hl_nil ?_
              refine hq_conv [rowE 3 1 ((es.getD e Le0).v) ys.length (ys.map (Value.int .i64)), bigE ((es.map lePart).eraseIdx e), boxE b3 #[.slice a_ xs.length cap_, .int .i64 (q + 16 + 1 + 1)] 129, rowE 87 4 t.lv ((((es.set e { es.getD e Le0 with m := getN xs q 16 }).set e { (es.set e { es.getD e Le0 with m := getN xs q 16 }).getD e Le0 with f := getN xs (q + 16) 1 }).set e { ((es.set e { es.getD e Le0 with m := getN xs q 16 }).set e { (es.set e { es.getD e Le0 with m := getN xs q 16 }).getD e Le0 with f := getN xs (q + 16) 1 }).getD e Le0 with i := getN xs (q + 16 + 1) 1 }).length) ((((es.set e { es.getD e Le0 with m := getN xs q 16 }).set e { (es.set e { es.getD e Le0 with m := getN xs q 16 }).getD e Le0 with f := getN xs (q + 16) 1 }).set e { ((es.set e { es.getD e Le0 with m := getN xs q 16 }).set e { (es.set e { es.getD e Le0 with m := getN xs q 16 }).getD e Le0 with f := getN xs (q + 16) 1 }).getD e Le0 with i := getN xs (q + 16 + 1) 1 }).flatMap Le.cells), rowE 3 1 t.mv zs.length (zs.map (Value.int .i64)), boxE b7 #[t.mv, t.lv, .int .i64 t.pad, .int .i64 t.ram] 39, boxE b2 #[.slice none 0 0, .slice none 0 0, .int .i64 0, .int .i64 0] 39, boxE b1 #[.int .i64 d.W, .int .i64 d.H, .int .i64 d.T, .int .i64 d.R] 25] (conv_pick (src := [boxE b3 #[.slice a_ xs.length cap_, .int .i64 (q + 16 + 1 + 1)] 129, rowE 3 1 ((es.getD e Le0).v) ys.length (ys.map (Value.int .i64)), bigE ((es.map lePart).eraseIdx e), rowE 87 4 t.lv ((((es.set e { es.getD e Le0 with m := getN xs q 16 }).set e { (es.set e { es.getD e Le0 with m := getN xs q 16 }).getD e Le0 with f := getN xs (q + 16) 1 }).set e { ((es.set e { es.getD e Le0 with m := getN xs q 16 }).set e { (es.set e { es.getD e Le0 with m := getN xs q 16 }).getD e Le0 with f := getN xs (q + 16) 1 }).getD e Le0 with i := getN xs (q + 16 + 1) 1 }).length) ((((es.set e { es.getD e Le0 with m := getN xs q 16 }).set e { (es.set e { es.getD e Le0 with m := getN xs q 16 }).getD e Le0 with f := getN xs (q + 16) 1 }).set e { ((es.set e { es.getD e Le0 with m := getN xs q 16 }).set e { (es.set e { es.getD e Le0 with m := getN xs q 16 }).getD e Le0 with f := getN xs (q + 16) 1 }).getD e Le0 with i := getN xs (q + 16 + 1) 1 }).flatMap Le.cells), rowE 3 1 t.mv zs.length (zs.map (Value.int .i64)), boxE b7 #[t.mv, t.lv, .int .i64 t.pad, .int .i64 t.ram] 39, boxE b2 #[.slice none 0 0, .slice none 0 0, .int .i64 0, .int .i64 0] 39, boxE b1 #[.int .i64 d.W, .int .i64 d.H, .int .i64 d.T, .int .i64 d.R] 25]) (dst := [rowE 3 1 ((es.getD e Le0).v) ys.length (ys.map (Value.int .i64)), bigE ((es.map lePart).eraseIdx e), boxE b3 #[.slice a_ xs.length cap_, .int .i64 (q + 16 + 1 + 1)] 129, rowE 87 4 t.lv ((((es.set e { es.getD e Le0 with m := getN xs q 16 }).set e { (es.set e { es.getD e Le0 with m := getN xs q 16 }).getD e Le0 with f := getN xs (q + 16) 1 }).set e { ((es.set e { es.getD e Le0 with m := getN xs q 16 }).set e { (es.set e { es.getD e Le0 with m := getN xs q 16 }).getD e Le0 with f := getN xs (q + 16) 1 }).getD e Le0 with i := getN xs (q + 16 + 1) 1 }).length) ((((es.set e { es.getD e Le0 with m := getN xs q 16 }).set e { (es.set e { es.getD e Le0 with m := getN xs q 16 }).getD e Le0 with f := getN xs (q + 16) 1 }).set e { ((es.set e { es.getD e Le0 with m := getN xs q 16 }).set e { (es.set e { es.getD e Le0 with m := getN xs q 16 }).getD e Le0 with f := getN xs (q + 16) 1 }).getD e Le0 with i := getN xs (q + 16 + 1) 1 }).flatMap Le.cells), rowE 3 1 t.mv zs.length (zs.map (Value.int .i64)), boxE b7 #[t.mv, t.lv, .int .i64 t.pad, .int .i64 t.ram] 39, boxE b2 #[.slice none 0 0, .slice none 0 0, .int .i64 0, .int .i64 0] 39, boxE b1 #[.int .i64 d.W, .int .i64 d.H, .int .i64 d.T, .int .i64 d.R] 25]) (l := []) [1, 2, 0, 3, 4, 5, 6, 7] (by decide) rfl) ?_
              have hs2 : (((es.set e { es.getD e Le0 with m := getN xs q 16 }).set e { (es.set e { es.getD e Le0 with m := getN xs q 16 }).getD e Le0 with f := getN xs (q + 16) 1 }).set e { ((es.set e { es.getD e Le0 with m := getN xs q 16 }).set e { (es.set e { es.getD e Le0 with m := getN xs q 16 }).getD e Le0 with f := getN xs (q + 16) 1 }).getD e Le0 with i := getN xs (q + 16 + 1) 1 }).flatMap Le.cells = (es.set e (Le.mk (es.getD e Le0).v ys (getN xs q 16) (getN xs (q + 16) 1) (getN xs (q + 16 + 1) 1))).flatMap Le.cells := by (try simp only [List.set_set]); exact set_flat _ _ _ _ _ (by simp [getD_set_self', show e < es.length by omega, Le.cells])
              have hs3 : (((es.set e { es.getD e Le0 with m := getN xs q 16 }).set e { (es.set e { es.getD e Le0 with m := getN xs q 16 }).getD e Le0 with f := getN xs (q + 16) 1 }).set e { ((es.set e { es.getD e Le0 with m := getN xs q 16 }).set e { (es.set e { es.getD e Le0 with m := getN xs q 16 }).getD e Le0 with f := getN xs (q + 16) 1 }).getD e Le0 with i := getN xs (q + 16 + 1) 1 }).length = (es.set e (Le.mk (es.getD e Le0).v ys (getN xs q 16) (getN xs (q + 16) 1) (getN xs (q + 16 + 1) 1))).length := by simp only [List.length_set]
              refine hq_conv [bigE ((es.set e (Le.mk (es.getD e Le0).v ys (getN xs q 16) (getN xs (q + 16) 1) (getN xs (q + 16 + 1) 1))).map lePart), boxE b3 #[.slice a_ xs.length cap_, .int .i64 (q + 16 + 1 + 1)] 129, rowE 87 4 t.lv ((es.set e (Le.mk (es.getD e Le0).v ys (getN xs q 16) (getN xs (q + 16) 1) (getN xs (q + 16 + 1) 1))).length) ((es.set e (Le.mk (es.getD e Le0).v ys (getN xs q 16) (getN xs (q + 16) 1) (getN xs (q + 16 + 1) 1))).flatMap Le.cells), rowE 3 1 t.mv zs.length (zs.map (Value.int .i64)), boxE b7 #[t.mv, t.lv, .int .i64 t.pad, .int .i64 t.ram] 39, boxE b2 #[.slice none 0 0, .slice none 0 0, .int .i64 0, .int .i64 0] 39, boxE b1 #[.int .i64 d.W, .int .i64 d.H, .int .i64 d.T, .int .i64 d.R] 25] (fun w hm => by have hm2 := conv_unfocus (p' := lePart (Le.mk (es.getD e Le0).v ys (getN xs q 16) (getN xs (q + 16) 1) (getN xs (q + 16 + 1) 1))) (ps := es.map lePart) (j := e) (by rw [List.length_map]; omega) w hm; rw [← List.map_set, hs2, hs3] at hm2; exact hm2) ?_
              refine hq_conv [bigE ((es.set e (Le.mk (es.getD e Le0).v ys (getN xs q 16) (getN xs (q + 16) 1) (getN xs (q + 16 + 1) 1))).map lePart), rowE 87 4 t.lv ((es.set e (Le.mk (es.getD e Le0).v ys (getN xs q 16) (getN xs (q + 16) 1) (getN xs (q + 16 + 1) 1))).length) ((es.set e (Le.mk (es.getD e Le0).v ys (getN xs q 16) (getN xs (q + 16) 1) (getN xs (q + 16 + 1) 1))).flatMap Le.cells), rowE 3 1 t.mv zs.length (zs.map (Value.int .i64)), boxE b7 #[t.mv, t.lv, .int .i64 t.pad, .int .i64 t.ram] 39, boxE b3 #[.slice a_ xs.length cap_, .int .i64 (q + 16 + 1 + 1)] 129, boxE b2 #[.slice none 0 0, .slice none 0 0, .int .i64 0, .int .i64 0] 39, boxE b1 #[.int .i64 d.W, .int .i64 d.H, .int .i64 d.T, .int .i64 d.R] 25] (conv_pick (src := [bigE ((es.set e (Le.mk (es.getD e Le0).v ys (getN xs q 16) (getN xs (q + 16) 1) (getN xs (q + 16 + 1) 1))).map lePart), boxE b3 #[.slice a_ xs.length cap_, .int .i64 (q + 16 + 1 + 1)] 129, rowE 87 4 t.lv ((es.set e (Le.mk (es.getD e Le0).v ys (getN xs q 16) (getN xs (q + 16) 1) (getN xs (q + 16 + 1) 1))).length) ((es.set e (Le.mk (es.getD e Le0).v ys (getN xs q 16) (getN xs (q + 16) 1) (getN xs (q + 16 + 1) 1))).flatMap Le.cells), rowE 3 1 t.mv zs.length (zs.map (Value.int .i64)), boxE b7 #[t.mv, t.lv, .int .i64 t.pad, .int .i64 t.ram] 39, boxE b2 #[.slice none 0 0, .slice none 0 0, .int .i64 0, .int .i64 0] 39, boxE b1 #[.int .i64 d.W, .int .i64 d.H, .int .i64 d.T, .int .i64 d.R] 25]) (dst := [bigE ((es.set e (Le.mk (es.getD e Le0).v ys (getN xs q 16) (getN xs (q + 16) 1) (getN xs (q + 16 + 1) 1))).map lePart), rowE 87 4 t.lv ((es.set e (Le.mk (es.getD e Le0).v ys (getN xs q 16) (getN xs (q + 16) 1) (getN xs (q + 16 + 1) 1))).length) ((es.set e (Le.mk (es.getD e Le0).v ys (getN xs q 16) (getN xs (q + 16) 1) (getN xs (q + 16 + 1) 1))).flatMap Le.cells), rowE 3 1 t.mv zs.length (zs.map (Value.int .i64)), boxE b7 #[t.mv, t.lv, .int .i64 t.pad, .int .i64 t.ram] 39, boxE b3 #[.slice a_ xs.length cap_, .int .i64 (q + 16 + 1 + 1)] 129, boxE b2 #[.slice none 0 0, .slice none 0 0, .int .i64 0, .int .i64 0] 39, boxE b1 #[.int .i64 d.W, .int .i64 d.H, .int .i64 d.T, .int .i64 d.R] 25]) (l := []) [0, 2, 3, 4, 1, 5, 6] (by decide) rfl) ?_
              exact hq_round3 (e + 1) (q + 16 + 1 + 1) (es.set e (Le.mk (es.getD e Le0).v ys (getN xs q 16) (getN xs (q + 16) 1) (getN xs (q + 16 + 1) 1))) ⟨by omega, by omega, by rw [List.length_set]; exact hel, fun i hi => by by_cases hie : i = e; (rw [hie]; exact (by rw [getD_set_self' (by omega)]; show (ys, getN xs q 16, getN xs (q + 16) 1, getN xs (q + 16 + 1) 1) = _; rw [list4 (a := getN xs (5 * (muxs d) + 30 * (e : Int)) 3) (b := getN xs ((5 * (muxs d) + 30 * (e : Int)) + 3) 3) (c := getN xs ((5 * (muxs d) + 30 * (e : Int)) + 6) 3) (e := getN xs ((5 * (muxs d) + 30 * (e : Int)) + 9) 3) hjl (by rw [hjz 0 (by omega)]; congr 1 <;> omega) (by rw [hjz 1 (by omega)]; congr 1 <;> omega) (by rw [hjz 2 (by omega)]; congr 1 <;> omega) (by rw [hjz 3 (by omega)]; congr 1 <;> omega), show q = (5 * (muxs d) + 30 * (e : Int)) + 12 by omega, show (5 * (muxs d) + 30 * (e : Int)) + 12 + 16 = (5 * (muxs d) + 30 * (e : Int)) + 28 by omega, show (5 * (muxs d) + 30 * (e : Int)) + 28 + 1 = (5 * (muxs d) + 30 * (e : Int)) + 29 by omega]; rfl)); rw [getD_set_ne' (fun h => hie h.symm)]; exact hez i (by omega), fun i h1 h2 => by rw [getD_set_ne' (by omega)]; exact he4 i (by omega) h2⟩ (by omega) (sub_cons (d := 0) rfl (sub_cons (d := 1) rfl (sub_cons (d := 2) rfl (sub_cons (d := 4) rfl (sub_cons (d := 5) rfl (sub_cons (d := 6) rfl (sub_cons (d := 17) rfl (sub_cons (d := 18) rfl (sub_cons (d := 19) rfl (sub_cons (d := 30) rfl (sub_cons (d := 31) rfl (sub_nil _)))))))))))) ((.cons_cons _ (.cons_cons _ (.cons_cons _ (.cons_cons _ (.cons_cons _ (.cons_cons _ (.cons_cons _ .slnil))))))))
    ·
      refine hl_less (sub_cons (d := 0) rfl (sub_cons (d := 1) rfl (sub_cons (d := 2) rfl (sub_cons (d := 4) rfl (sub_cons (d := 5) rfl (sub_cons (d := 6) rfl (sub_cons (d := 17) rfl (sub_cons (d := 18) rfl (sub_cons (d := 19) rfl (sub_cons (d := 30) rfl (sub_cons (d := 31) rfl (sub_cons (d := 32) rfl (sub_nil _))))))))))))) (.refl _) ?_
      refine hl_nil ?_
      refine hq_then ?_
      refine hc_seq ?_
      refine hc_false rfl ?_
      refine hc_exit ?_
      refine hq_then_exit ?_
      refine hq_then_exit ?_
      refine hq_block_exit ?_
      refine hq_then ?_
      refine hc_seq ?_
      refine hc_region ?_
      refine hl_v rfl rfl rfl (rv_ev rfl) ?_
      refine hl_callM2 (R := (fun u_ p_ => u_ = .int .i64 (getN xs q 2) ∧ p_ = boxE b3 #[.slice a_ xs.length cap_, .int .i64 (q + 2)] 129)) 4 rfl rfl (by kernel_rfl) rfl rfl (fun L w hX hm => bitGet_mut xs (.slice a_ xs.length cap_) b3 q 2 _ _ w hm (rd_old hv) hxs (by omega) (by omega) (by omega)) ?_
      intro v29 p30 hR31
      obtain ⟨rfl, rfl⟩ := hR31
      refine hl_eqL (l' := [bigE (es.map lePart), rowE 87 4 t.lv es.length (es.flatMap Le.cells), rowE 3 1 t.mv zs.length (zs.map (Value.int .i64)), boxE b7 #[t.mv, t.lv, .int .i64 t.pad, .int .i64 t.ram] 39, boxE b3 #[.slice a_ xs.length cap_, .int .i64 (q + 2)] 129, boxE b2 #[.slice none 0 0, .slice none 0 0, .int .i64 0, .int .i64 0] 39, boxE b1 #[.int .i64 d.W, .int .i64 d.H, .int .i64 d.T, .int .i64 d.R] 25]) rfl ?_
      refine hl_v rfl rfl rfl (rv_field (k0 := 2) rfl (by kernel_rfl) rfl) ?_
      refine hl_storeBox (i := 3) (l' := [bigE (es.map lePart), rowE 87 4 t.lv es.length (es.flatMap Le.cells), rowE 3 1 t.mv zs.length (zs.map (Value.int .i64)), boxE b7 #[t.mv, t.lv, .int .i64 (getN xs q 2), .int .i64 t.ram] 39, boxE b3 #[.slice a_ xs.length cap_, .int .i64 (q + 2)] 129, boxE b2 #[.slice none 0 0, .slice none 0 0, .int .i64 0, .int .i64 0] 39, boxE b1 #[.int .i64 d.W, .int .i64 d.H, .int .i64 d.T, .int .i64 d.R] 25]) rfl rfl rfl (by kernel_rfl) rfl rfl rfl rfl rfl rfl ?_
      refine hl_less (sub_cons (d := 0) rfl (sub_cons (d := 1) rfl (sub_cons (d := 2) rfl (sub_cons (d := 4) rfl (sub_cons (d := 5) rfl (sub_cons (d := 6) rfl (sub_cons (d := 17) rfl (sub_cons (d := 18) rfl (sub_cons (d := 19) rfl (sub_cons (d := 30) rfl (sub_cons (d := 31) rfl (sub_cons (d := 32) rfl (sub_nil _))))))))))))) (.refl _) ?_
      refine hl_nil ?_
      refine hq_then ?_
      refine hc_seq ?_
      refine hc_region ?_
      refine hl_v rfl rfl rfl (rv_ev rfl) ?_
      refine hl_callM2 (R := (fun u_ p_ => u_ = .int .i64 (getN xs (q + 2) 5) ∧ p_ = boxE b3 #[.slice a_ xs.length cap_, .int .i64 (q + 2 + 5)] 129)) 4 rfl rfl (by kernel_rfl) rfl rfl (fun L w hX hm => bitGet_mut xs (.slice a_ xs.length cap_) b3 (q + 2) 5 _ _ w hm (rd_old hv) hxs (by omega) (by omega) (by omega)) ?_
      intro v32 p33 hR34
      obtain ⟨rfl, rfl⟩ := hR34
      refine hl_eqL (l' := [bigE (es.map lePart), rowE 87 4 t.lv es.length (es.flatMap Le.cells), rowE 3 1 t.mv zs.length (zs.map (Value.int .i64)), boxE b7 #[t.mv, t.lv, .int .i64 (getN xs q 2), .int .i64 t.ram] 39, boxE b3 #[.slice a_ xs.length cap_, .int .i64 (q + 2 + 5)] 129, boxE b2 #[.slice none 0 0, .slice none 0 0, .int .i64 0, .int .i64 0] 39, boxE b1 #[.int .i64 d.W, .int .i64 d.H, .int .i64 d.T, .int .i64 d.R] 25]) rfl ?_
      refine hl_v rfl rfl rfl (rv_field (k0 := 3) rfl (by kernel_rfl) rfl) ?_
      refine hl_storeBox (i := 3) (l' := [bigE (es.map lePart), rowE 87 4 t.lv es.length (es.flatMap Le.cells), rowE 3 1 t.mv zs.length (zs.map (Value.int .i64)), boxE b7 #[t.mv, t.lv, .int .i64 (getN xs q 2), .int .i64 (getN xs (q + 2) 5)] 39, boxE b3 #[.slice a_ xs.length cap_, .int .i64 (q + 2 + 5)] 129, boxE b2 #[.slice none 0 0, .slice none 0 0, .int .i64 0, .int .i64 0] 39, boxE b1 #[.int .i64 d.W, .int .i64 d.H, .int .i64 d.T, .int .i64 d.R] 25]) rfl rfl rfl (by kernel_rfl) rfl rfl rfl rfl rfl rfl ?_
      refine hl_less (sub_cons (d := 0) rfl (sub_cons (d := 1) rfl (sub_cons (d := 2) rfl (sub_cons (d := 4) rfl (sub_cons (d := 5) rfl (sub_cons (d := 6) rfl (sub_cons (d := 17) rfl (sub_cons (d := 18) rfl (sub_cons (d := 19) rfl (sub_cons (d := 30) rfl (sub_cons (d := 31) rfl (sub_cons (d := 32) rfl (sub_nil _))))))))))))) (.refl _) ?_
      refine hl_nil ?_
      refine hq_then ?_
      refine hc_seq ?_
      refine hc_region ?_
      refine hl_v rfl rfl rfl (rv_loadN (cs := [t.mv, t.lv, .int .i64 (getN xs q 2), .int .i64 (getN xs (q + 2) 5)]) rfl (by kernel_rfl) (by kernel_rfl) rfl rfl (box_part 3 rfl 0 rfl)) ?_
      refine hl_storeBoxN (i := 5) (off := 0) (us := [t.mv, t.lv, .int .i64 (getN xs q 2), .int .i64 (getN xs (q + 2) 5)]) (l' := [bigE (es.map lePart), rowE 87 4 t.lv es.length (es.flatMap Le.cells), rowE 3 1 t.mv zs.length (zs.map (Value.int .i64)), boxE b7 #[t.mv, t.lv, .int .i64 (getN xs q 2), .int .i64 (getN xs (q + 2) 5)] 39, boxE b3 #[.slice a_ xs.length cap_, .int .i64 (q + 2 + 5)] 129, boxE b2 #[t.mv, t.lv, .int .i64 (getN xs q 2), .int .i64 (getN xs (q + 2) 5)] 39, boxE b1 #[.int .i64 d.W, .int .i64 d.H, .int .i64 d.T, .int .i64 d.R] 25]) rfl rfl rfl (by kernel_rfl) rfl rfl rfl (all_cons c1t (all_cons c2t (all_cons rfl (all_cons rfl all_nil)))) rfl rfl rfl ?_
      refine hl_less (sub_cons (d := 0) rfl (sub_cons (d := 1) rfl (sub_cons (d := 2) rfl (sub_cons (d := 4) rfl (sub_cons (d := 5) rfl (sub_cons (d := 6) rfl (sub_cons (d := 17) rfl (sub_cons (d := 18) rfl (sub_cons (d := 19) rfl (sub_cons (d := 30) rfl (sub_cons (d := 31) rfl (sub_cons (d := 32) rfl (sub_nil _))))))))))))) (.refl _) ?_
      refine hl_nil ?_
      refine hq_then ?_
      refine hc_ret ?_
      refine hq_conv [bigE (es.map lePart), rowE 87 4 t.lv es.length (es.flatMap Le.cells), rowE 3 1 t.mv zs.length (zs.map (Value.int .i64)), boxE b2 #[t.mv, t.lv, .int .i64 (getN xs q 2), .int .i64 (getN xs (q + 2) 5)] 39] (conv_pick (src := [bigE (es.map lePart), rowE 87 4 t.lv es.length (es.flatMap Le.cells), rowE 3 1 t.mv zs.length (zs.map (Value.int .i64)), boxE b7 #[t.mv, t.lv, .int .i64 (getN xs q 2), .int .i64 (getN xs (q + 2) 5)] 39, boxE b3 #[.slice a_ xs.length cap_, .int .i64 (q + 2 + 5)] 129, boxE b2 #[t.mv, t.lv, .int .i64 (getN xs q 2), .int .i64 (getN xs (q + 2) 5)] 39, boxE b1 #[.int .i64 d.W, .int .i64 d.H, .int .i64 d.T, .int .i64 d.R] 25]) (dst := [bigE (es.map lePart), rowE 87 4 t.lv es.length (es.flatMap Le.cells), rowE 3 1 t.mv zs.length (zs.map (Value.int .i64)), boxE b2 #[t.mv, t.lv, .int .i64 (getN xs q 2), .int .i64 (getN xs (q + 2) 5)] 39]) (l := []) [0, 1, 2, 5] (by decide) rfl) ?_
      refine hq_conv [tcE (Tc.mk t.mv zs t.lv es (getN xs q 2) (getN xs (q + 2) 5)), boxE b2 #[t.mv, t.lv, .int .i64 (getN xs q 2), .int .i64 (getN xs (q + 2) 5)] 39] (fun w hm => by
      have h1 : Mem _ (([bigE (es.map lePart), rowE 87 4 t.lv es.length (es.flatMap Le.cells)]) ++ [rowE 3 1 t.mv zs.length (zs.map (Value.int .i64)), boxE b2 #[t.mv, t.lv, .int .i64 (getN xs q 2), .int .i64 (getN xs (q + 2) 5)] 39]) w := hm
      exact Mem.big (ps := [rowE 3 1 t.mv zs.length (zs.map (Value.int .i64)), lesE t.lv es]) (h1.big.perm (.swap _ _ _))) ?_
      exact hq_retC (b := b2) (i := 1) (us := [t.mv, t.lv, .int .i64 (getN xs q 2), .int .i64 (getN xs (q + 2) 5)]) (post := [tcE (Tc.mk t.mv zs t.lv es (getN xs q 2) (getN xs (q + 2) 5))]) rfl rfl (by kernel_rfl) (by kernel_rfl) rfl (.cons_cons _ (List.nil_sublist _)) ⟨_, rfl, rfl, ⟨c1t, c2t⟩, by
      show (zs, es.map Le.val, _, _) = decV d xs
      have e2 : e = 2 := by omega
      subst e2
      rw [list2 hel (hez 0 (by omega)) (hez 1 (by omega)), heq]
      unfold decV
      refine Prod.ext ?_ (by simp [Int.add_assoc])
      show zs = (List.range (muxs d).toNat).map (fun m : Nat => getN xs (5 * m) 5)
      apply List.ext_getElem?
      intro i
      by_cases hi : i < zs.length
      · rw [getD_at (d := 0) hi, hmz i (by omega), List.getElem?_map, List.getElem?_range (by omega)]; rfl
      · rw [List.getElem?_eq_none (by omega), List.getElem?_eq_none (by rw [List.length_map, List.length_range]; omega)], by show zs.length ≤ _; unfold muxs at *; omega, by show es.length ≤ _; omega, fun x hx => by
      have hx : x ∈ es := hx
      obtain ⟨i, hi, rfl⟩ := List.mem_iff_getElem.1 hx
      have h5 := hez i (by omega)
      rw [List.getD_eq_getElem?_getD, List.getElem?_eq_getElem hi] at h5
      have h6 : es[i].xs = (decLe xs (5 * muxs d + 30 * (i : Int))).1 := congrArg Prod.fst h5
      rw [h6]; simp [decLe]⟩
theorem decodeTile_ret (d : Dev) (xs : List Int) (v : Value) (w : World) (hd : devB d = true) (hv : RdsW w v 1 xs.length (xs.map (Value.int .i64))) (hxs : Words xs) (hfl : 92 + 20 * d.T ≤ 16 * (xs.length : Int)) (hlen : xs.length ≤ 1000000) :
    Calls Try.prog 106 #[.agg #[.int .i64 d.W, .int .i64 d.H, .int .i64 d.T, .int .i64 d.R], v] w (Ret w (IsTc (decV d xs))) := by
  obtain ⟨a, cap, e, -⟩ := id hv
  subst e
  exact decodeTile_sl d xs a cap w hd hv hxs hfl hlen
end Go.Proofs.Ytnnkbpcfjjijbaa
