/- CriticalPath and PathDelay: the walks. -/
import Derived.Test.YteccnnpcigkmhaaTim7
set_option linter.unusedVariables false
set_option linter.unusedSimpArgs false
namespace Go.Proofs.Yteccnnpcigkmhaa
open Go.RowKit

/-- an arc that attains the delay -/
def Tight (gs : List Arc) (s y x : Int) : Prop := ∃ a ∈ gs, a.f = y ∧ a.t = x ∧ 0 ≤ Dl true gs s y.toNat ∧ Dl true gs s y.toNat + a.d = Dl true gs s x.toNat
def Att (gs : List Arc) (s : Int) (x : Nat) (b : Int) : Prop := ∃ a ∈ intoL gs x, a.f = b ∧ 0 ≤ Dl true gs s a.f.toNat ∧ Dl true gs s a.f.toNat + a.d = Dl true gs s x
def Chain (gs : List Arc) (s : Int) (ys : List Int) : Prop := ∀ q, q + 1 < ys.length → Tight gs s (ys.getD q 0) (ys.getD (q + 1) 0)
structure PathOk (n : Int) (gs : List Arc) (s e : Int) (ys : List Int) : Prop where
  l0 : 1 ≤ ys.length
  l1 : (ys.length : Int) ≤ n
  first : ys.getD 0 0 = s
  last : ys.getD (ys.length - 1) 0 = e
  chain : Chain gs s ys
theorem chain_cons {gs : List Arc} {s b : Int} {ys : List Int} (h : Chain gs s ys) (h0 : 1 ≤ ys.length) (ht : Tight gs s b (ys.getD 0 0)) : Chain gs s ([b] ++ ys) := fun q hq => by
  cases q with
  | zero => simpa using ht
  | succ q =>
    have := h q (by simp at hq; omega)
    simpa using this
theorem tight_rng {n : Int} {gs : List Arc} (hg : GOk n gs) {s y x : Int} (h : Tight gs s y x) : (0 ≤ y ∧ y < x ∧ x < n) ∧ s ≤ y ∧ 0 ≤ Dl true gs s y.toNat ∧ Dl true gs s y.toNat ≤ Dl true gs s x.toNat := by
  obtain ⟨a, ha, rfl, rfl, h1, h2⟩ := h
  obtain ⟨⟨x1, x2⟩, x3, x4, x5⟩ := hg.ok a ha
  refine ⟨⟨x1, x2, x3⟩, ?_, h1, by omega⟩
  apply Decidable.byContradiction
  intro hc
  have := Dl_lt hg true s a.f.toNat (by omega)
  omega
theorem tight_max {n : Int} {gs : List Arc} (hg : GOk n gs) {s y x : Int} (h : Tight gs s y x) {a : Arc} (ha : a ∈ gs) (hf : a.f = y) (ht : a.t = x) : a.d ≤ Dl true gs s x.toNat - Dl true gs s y.toNat := by
  obtain ⟨⟨r1, r2, r3⟩, r4, r5, -⟩ := tight_rng hg h
  have hm := (Dl_max hg (s := s) (k := x.toNat) (by omega)).1 a (into_mem.2 ⟨ha, by omega⟩) (by rw [hf]; exact r5)
  rw [hf] at hm; omega
set_option maxHeartbeats 4000000 in
set_option maxRecDepth 100000 in
theorem CriticalPath_ret (n : Int) (gs : List Arc) (v : Value) (s e : Int) (w : World) (hg : GOk n gs) (hv : RdsW w v 3 gs.length (gs.flatMap arcC)) (hs : 0 ≤ s ∧ s < n) (he : 0 ≤ e ∧ e < n) :
    Calls Try.prog 17 #[.agg #[.int .i64 n, v], .int .i64 s, .int .i64 e] w (Ret w (fun v' post => ∃ ys : List Int, post = [rowE 3 1 v' ys.length (ys.map (Value.int .i64))] ∧ ys.length ≤ 500 ∧ (Dl true gs s e.toNat < 0 → ys = []) ∧ (0 ≤ Dl true gs s e.toNat → PathOk n gs s e ys))) := by
  obtain ⟨hn0, hn1, hgl, -⟩ := id hg
  refine calls_hc (N := 98) (args := [.agg #[.int .i64 n, v], .int .i64 s, .int .i64 e]) Try.func17 rfl rfl ?_
  refine hc_less _ (sub_cons (d := 0) rfl (sub_cons (d := 1) rfl (sub_cons (d := 2) rfl (sub_nil _)))) (.refl _) ?_
  refine hc_seq ?_
  refine hc_region ?_
  refine hl_box rfl rfl rfl (rq_box rfl rfl) ?_
  intro b1
  refine hl_v rfl rfl rfl (rv_ev rfl) ?_
  refine hl_less (sub_cons (d := 0) rfl (sub_cons (d := 1) rfl (sub_cons (d := 2) rfl (sub_cons (d := 3) rfl (sub_cons (d := 6) rfl (sub_nil _)))))) (.refl _) ?_
  refine hl_nil ?_
  refine hq_then ?_
  refine hc_seq ?_
  refine hc_seq ?_
  refine hc_region ?_
  refine hl_v rfl rfl rfl (rv_loadN (cs := [.int .i64 n, v]) rfl (by kernel_rfl) (by kernel_rfl) rfl rfl (box_part 0 rfl 0 rfl)) ?_
  refine hl_callV rfl rfl rfl (rq_call (by kernel_rfl) rfl (fun w hm => ret_ans (implTimingOk_yes n gs v w hg (hv.below hm.bel)))) ?_
  refine hl_v rfl rfl rfl (rv_ev rfl) ?_
  refine hl_v rfl rfl rfl (rv_ev rfl) ?_
  refine hl_v rfl rfl rfl (rv_ev rfl) ?_
  refine hl_v rfl rfl rfl (rv_field (k0 := 0) rfl (by kernel_rfl) rfl) ?_
  refine hl_v rfl rfl rfl (rv_load rfl (by kernel_rfl) rfl (box_cell 0 rfl rfl)) ?_
  refine hl_v rfl rfl rfl (rv_sub rfl rfl rfl (by constructor <;> omega)) ?_
  refine hl_callV rfl rfl rfl (rq_call (by kernel_rfl) rfl (fun w hm => ret_ans (inr_yes2 (by omega) (by omega) w))) ?_
  refine hl_v rfl rfl rfl (rv_ev rfl) ?_
  refine hl_v rfl rfl rfl (rv_ev rfl) ?_
  refine hl_v rfl rfl rfl (rv_ev rfl) ?_
  refine hl_v rfl rfl rfl (rv_ev rfl) ?_
  refine hl_v rfl rfl rfl (rv_field (k0 := 0) rfl (by kernel_rfl) rfl) ?_
  refine hl_v rfl rfl rfl (rv_load rfl (by kernel_rfl) rfl (box_cell 0 rfl rfl)) ?_
  refine hl_v rfl rfl rfl (rv_sub rfl rfl rfl (by constructor <;> omega)) ?_
  refine hl_callV rfl rfl rfl (rq_call (by kernel_rfl) rfl (fun w hm => ret_ans (inr_yes2 (by omega) (by omega) w))) ?_
  refine hl_v rfl rfl rfl (rv_ev rfl) ?_
  refine hl_v rfl rfl rfl (rv_ev rfl) ?_
  refine hl_less (sub_cons (d := 0) rfl (sub_cons (d := 1) rfl (sub_cons (d := 2) rfl (sub_cons (d := 3) rfl (sub_cons (d := 6) rfl (sub_cons (d := 32) rfl (sub_nil _))))))) (.refl _) ?_
  refine hl_nil ?_
  refine hq_then ?_
  refine hc_false rfl ?_
  refine hc_skip ?_
  refine hq_then ?_
  refine hc_seq ?_
  refine hc_region ?_
  refine hl_v rfl rfl rfl (rv_loadN (cs := [.int .i64 n, v]) rfl (by kernel_rfl) (by kernel_rfl) rfl rfl (box_part 0 rfl 0 rfl)) ?_
  refine hl_q rfl rfl rfl (rq_call (by kernel_rfl) rfl (fun w hm => arcsInto_ret n gs v w hg (hv.below hm.bel))) ?_
  intro v2 p3 hR4
  obtain ⟨rs, rfl, hri⟩ := hR4
  have hrl := hri.1
  refine hl_v rfl rfl rfl (rv_ev rfl) ?_
  refine hl_less (sub_cons (d := 0) rfl (sub_cons (d := 1) rfl (sub_cons (d := 2) rfl (sub_cons (d := 3) rfl (sub_cons (d := 6) rfl (sub_cons (d := 7) rfl (sub_cons (d := 32) rfl (sub_nil _)))))))) (.refl _) ?_
  refine hl_nil ?_
  refine hq_then ?_
  refine hc_seq ?_
  refine hc_region ?_
  refine hl_v rfl rfl rfl (rv_ev rfl) ?_
  refine hl_v rfl rfl rfl (rv_ev rfl) ?_
  refine hl_q rfl rfl rfl (rq_call (by kernel_rfl) rfl (fun w hm => delaysFrom_ret n gs rs v2 s true w hg (into_rds (v := v2) (rs := rs) 0 rfl w hm) hri)) ?_
  intro v5 p6 hR7
  subst hR7
  refine hl_v rfl rfl rfl (rv_ev rfl) ?_
  refine hl_less (sub_cons (d := 0) rfl (sub_cons (d := 1) rfl (sub_cons (d := 2) rfl (sub_cons (d := 3) rfl (sub_cons (d := 6) rfl (sub_cons (d := 7) rfl (sub_cons (d := 8) rfl (sub_cons (d := 32) rfl (sub_nil _))))))))) (.refl _) ?_
  refine hl_nil ?_
  refine hq_then ?_
  refine hc_seq ?_
  refine hc_seq ?_
  refine hc_region ?_
  have hdl : (delL true gs s rs.length).length = rs.length := del_len _ _ _ _
  have hnr : (rs.length : Int) = n := by omega
  have hDe := Dl_bnd hg true s e.toNat
  have hde : (delL true gs s rs.length).getD (e).toNat 0 = Dl true gs s (e).toNat := del_at _ _ _ _ _ (by omega)
  refine hl_v rfl rfl rfl (rv_ev rfl) ?_
  refine hl_v rfl rfl rfl (rv_ev rfl) ?_
  refine hl_v rfl rfl rfl (rv_index (s := 1) rfl Try.underlying43 (by kernel_rfl) rfl rfl (rd_row 0 rfl) (by omega) (by first | omega | (simp only [List.length_set]; omega))) ?_
  refine hl_v rfl rfl rfl (rv_loadEl (u := .int .i64 ((delL true gs s rs.length).getD ((e).toNat) 0)) rfl (by kernel_rfl) rfl (rd_row 0 rfl) (ints_at1 (show _ < (delL true gs s rs.length).length by first | omega | (simp only [List.length_set]; omega)))) ?_
  refine hl_lss rfl rfl rfl rfl rfl rfl (fun h8 => ?_) (fun h8 => ?_)
  ·
    refine hl_less (sub_cons (d := 0) rfl (sub_cons (d := 1) rfl (sub_cons (d := 2) rfl (sub_cons (d := 3) rfl (sub_cons (d := 6) rfl (sub_cons (d := 7) rfl (sub_cons (d := 8) rfl (sub_cons (d := 32) rfl (sub_cons (d := 42) rfl (sub_nil _)))))))))) (.refl _) ?_
    refine hl_nil ?_
    refine hq_then ?_
    refine hc_true rfl ?_
    refine hc_seq ?_
    refine hc_region ?_
    refine hl_v rfl rfl rfl (rv_ev rfl) ?_
    refine hl_less (sub_cons (d := 0) rfl (sub_cons (d := 1) rfl (sub_cons (d := 2) rfl (sub_cons (d := 3) rfl (sub_cons (d := 6) rfl (sub_cons (d := 7) rfl (sub_cons (d := 8) rfl (sub_cons (d := 32) rfl (sub_cons (d := 42) rfl (sub_nil _)))))))))) (.refl _) ?_
    refine hl_nil ?_
    refine hq_then ?_
    refine hc_ret ?_
    refine hq_then_ret ?_
    refine hq_conv (rowE 3 1 (.slice none 0 0) 0 [] :: [rowE 3 1 v5 ((delL true gs s rs.length).length) ((delL true gs s rs.length).map (Value.int .i64)), intoE v2 rs, boxE b1 #[.int .i64 n, v] 38]) (fun w hm => hm.nilRow 3 1) ?_
    exact hq_retR (post := [rowE 3 1 (.slice none 0 0) 0 []]) rfl rfl (.cons_cons _ (List.nil_sublist _)) ⟨[], rfl, by simp, fun _ => rfl, fun h => absurd h (by omega)⟩
  ·
    refine hl_less (sub_cons (d := 0) rfl (sub_cons (d := 1) rfl (sub_cons (d := 2) rfl (sub_cons (d := 3) rfl (sub_cons (d := 6) rfl (sub_cons (d := 7) rfl (sub_cons (d := 8) rfl (sub_cons (d := 32) rfl (sub_cons (d := 42) rfl (sub_nil _)))))))))) (.refl _) ?_
    refine hl_nil ?_
    refine hq_then ?_
    refine hc_false rfl ?_
    refine hc_skip ?_
    refine hq_then ?_
    refine hc_seq ?_
    refine hc_region ?_
    refine hl_v rfl rfl rfl (rv_ev rfl) ?_
    refine hl_row rfl rfl rfl (rq_buildSlice (z := .int .i64 0) (s := 1) (cs := ([e].map (Value.int .i64))) rfl Try.underlying43 (by kernel_rfl) (by decide) rfl (by kernel_rfl) rfl) ?_
    intro g9
    refine hl_v rfl rfl rfl (rv_ev rfl) ?_
    refine hl_less (sub_cons (d := 0) rfl (sub_cons (d := 1) rfl (sub_cons (d := 2) rfl (sub_cons (d := 3) rfl (sub_cons (d := 6) rfl (sub_cons (d := 7) rfl (sub_cons (d := 8) rfl (sub_cons (d := 9) rfl (sub_cons (d := 32) rfl (sub_cons (d := 42) rfl (sub_nil _))))))))))) (.refl _) ?_
    refine hl_nil ?_
    refine hq_then ?_
    refine hc_seq ?_
    refine hc_seq ?_
    refine hc_region ?_
    refine hl_v rfl rfl rfl (rv_ev rfl) ?_
    refine hl_v rfl rfl rfl (rv_ev rfl) ?_
    refine hl_less (sub_cons (d := 0) rfl (sub_cons (d := 1) rfl (sub_cons (d := 2) rfl (sub_cons (d := 3) rfl (sub_cons (d := 6) rfl (sub_cons (d := 7) rfl (sub_cons (d := 8) rfl (sub_cons (d := 9) rfl (sub_cons (d := 10) rfl (sub_cons (d := 32) rfl (sub_cons (d := 42) rfl (sub_nil _)))))))))))) (.refl _) ?_
    refine hl_nil ?_
    refine hq_then ?_
    refine hc_block ?_
    refine hc_loop3 (α := Int) (β := Value) (γ := List Int) (fun x u ys => [rowE 3 1 u ys.length (ys.map (Value.int .i64)), rowE 3 1 v5 ((delL true gs s rs.length).length) ((delL true gs s rs.length).map (Value.int .i64)), intoE v2 rs, boxE b1 #[.int .i64 n, v] 38]) (fun x u ys => [(0, .agg #[.int .i64 n, v]), (1, .int .i64 s), (2, .int .i64 e), (3, .pointer (some ⟨b1, 0, none⟩)), (6, .slice none 0 0), (7, v2), (8, v5), (9, u), (10, .int .i64 x), (32, .bool false), (42, .bool false)]) (fun x u ys => (0 ≤ x ∧ x < n) ∧ 0 ≤ Dl true gs s x.toNat ∧ (1 ≤ ys.length ∧ (ys.length : Int) + x ≤ e + 1) ∧ ys.getD 0 0 = x ∧ ys.getD (ys.length - 1) 0 = e ∧ Chain gs s ys) (fun x u ys => x.toNat) e _ [e] ⟨by omega, by omega, ⟨by simp, by simp; omega⟩, rfl, rfl, fun q hq => absurd hq (by simp)⟩ (sub_cons (d := 0) rfl (sub_cons (d := 1) rfl (sub_cons (d := 2) rfl (sub_cons (d := 3) rfl (sub_cons (d := 6) rfl (sub_cons (d := 7) rfl (sub_cons (d := 8) rfl (sub_cons (d := 9) rfl (sub_cons (d := 10) rfl (sub_cons (d := 32) rfl (sub_cons (d := 42) rfl (sub_nil _)))))))))))) ((.cons_cons _ (.cons_cons _ (.cons_cons _ (.cons_cons _ .slnil))))) ?_
    intro x u ys hi10
    obtain ⟨⟨hx0, hx1⟩, hDx, ⟨hyl, hye⟩, hyf, hyz, hch⟩ := hi10
    have hinx : (rs.getD ((x).toNat) row0).ar = intoL gs (x).toNat := hri.2 _ (by omega)
    have hilx := into_len gs (x).toNat
    have harl : (rs.getD ((x).toNat) row0).ar.length ≤ 2000 := by rw [hinx]; omega
    have hdx : (delL true gs s rs.length).getD (x).toNat 0 = Dl true gs s (x).toNat := del_at _ _ _ _ _ (by omega)
    have hDxb := Dl_bnd hg true s (x).toNat
    refine hc_seq ?_
    refine hc_seq ?_
    refine hc_region ?_
    refine hl_v rfl rfl rfl (rv_ev rfl) ?_
    refine hl_v rfl rfl rfl (rv_ev rfl) ?_
    refine hl_neq rfl rfl rfl rfl rfl rfl (fun h11 => ?_) (fun h11 => ?_)
    ·
      refine hl_less (sub_cons (d := 0) rfl (sub_cons (d := 1) rfl (sub_cons (d := 2) rfl (sub_cons (d := 3) rfl (sub_cons (d := 6) rfl (sub_cons (d := 7) rfl (sub_cons (d := 8) rfl (sub_cons (d := 9) rfl (sub_cons (d := 10) rfl (sub_cons (d := 32) rfl (sub_cons (d := 42) rfl (sub_cons (d := 48) rfl (sub_nil _))))))))))))) (.refl _) ?_
      refine hl_nil ?_
      refine hq_then ?_
      refine hc_true rfl ?_
      refine hc_skip ?_
      refine hq_then ?_
      refine hc_block ?_
      refine hc_seq ?_
      refine hc_region ?_
      refine hl_v rfl rfl rfl (rv_ev rfl) ?_
      refine hl_less (sub_cons (d := 0) rfl (sub_cons (d := 1) rfl (sub_cons (d := 2) rfl (sub_cons (d := 3) rfl (sub_cons (d := 6) rfl (sub_cons (d := 7) rfl (sub_cons (d := 8) rfl (sub_cons (d := 9) rfl (sub_cons (d := 10) rfl (sub_cons (d := 11) rfl (sub_cons (d := 32) rfl (sub_cons (d := 42) rfl (sub_cons (d := 48) rfl (sub_nil _)))))))))))))) (.refl _) ?_
      refine hl_nil ?_
      refine hq_then ?_
      refine hc_seq ?_
      refine hc_seq ?_
      refine hc_region ?_
      refine hl_v rfl rfl rfl (rv_ev rfl) ?_
      refine hl_v rfl rfl rfl (rv_ev rfl) ?_
      refine hl_v rfl rfl rfl (rv_index (s := 1) rfl Try.underlying78 (by kernel_rfl) rfl rfl (fun w hm => (into_rds (v := v2) (rs := rs) 2 rfl w hm).row) (by omega) (by first | omega | (simp only [List.length_set]; omega))) ?_
      refine hl_v rfl rfl rfl (rv_loadEl (u := (rs.getD ((x).toNat) row0).v) rfl (by kernel_rfl) rfl (fun w hm => (into_rds (v := v2) (rs := rs) 2 rfl w hm).row) (flat_one rowC (fun r => r.v) (fun _ => rfl) rs row0 (show (x).toNat < _ by first | omega | (simp only [List.length_set]; omega)))) ?_
      refine hl_v rfl rfl rfl (rv_len rfl Try.underlying36 rfl (fun w hm => (into_rds (v := v2) (rs := rs) 2 rfl w hm).at (k := (x).toNat) (by omega))) ?_
      refine hl_v rfl rfl rfl (rv_ev rfl) ?_
      refine hl_less (sub_cons (d := 0) rfl (sub_cons (d := 1) rfl (sub_cons (d := 2) rfl (sub_cons (d := 3) rfl (sub_cons (d := 6) rfl (sub_cons (d := 7) rfl (sub_cons (d := 8) rfl (sub_cons (d := 9) rfl (sub_cons (d := 10) rfl (sub_cons (d := 11) rfl (sub_cons (d := 32) rfl (sub_cons (d := 42) rfl (sub_cons (d := 48) rfl (sub_cons (d := 52) rfl (sub_cons (d := 53) rfl (sub_cons (d := 54) rfl (sub_nil _))))))))))))))))) (.refl _) ?_
      refine hl_nil ?_
      refine hq_then ?_
      refine hc_block ?_
      refine hc_loop2 (α := Nat) (β := Int) (fun m b => [rowE 3 1 u ys.length (ys.map (Value.int .i64)), rowE 3 1 v5 ((delL true gs s rs.length).length) ((delL true gs s rs.length).map (Value.int .i64)), intoE v2 rs, boxE b1 #[.int .i64 n, v] 38]) (fun m b => [(0, .agg #[.int .i64 n, v]), (1, .int .i64 s), (2, .int .i64 e), (3, .pointer (some ⟨b1, 0, none⟩)), (6, .slice none 0 0), (7, v2), (8, v5), (9, u), (10, .int .i64 x), (11, .int .i64 b), (32, .bool false), (42, .bool false), (48, .bool true), (52, (rs.getD ((x).toNat) row0).v), (53, .int .i64 (((rs.getD ((x).toNat) row0).ar).length : Int)), (54, .int .i64 (m : Int))]) (fun m b => m ≤ (rs.getD ((x).toNat) row0).ar.length ∧ (-1 ≤ b ∧ b < x) ∧ ((b = -1 ∧ ∀ q, q < m → ¬ (0 ≤ Dl true gs s ((((rs.getD ((x).toNat) row0).ar.getD q arc0).f).toNat) ∧ Dl true gs s ((((rs.getD ((x).toNat) row0).ar.getD q arc0).f).toNat) + ((rs.getD ((x).toNat) row0).ar.getD q arc0).d = Dl true gs s (x).toNat)) ∨ (0 ≤ b ∧ Att gs s (x).toNat b))) (fun m b => (rs.getD ((x).toNat) row0).ar.length - m) 0 (-1) ⟨by omega, by omega, .inl ⟨rfl, fun q hq => absurd hq (by omega)⟩⟩ (sub_cons (d := 0) rfl (sub_cons (d := 1) rfl (sub_cons (d := 2) rfl (sub_cons (d := 3) rfl (sub_cons (d := 6) rfl (sub_cons (d := 7) rfl (sub_cons (d := 8) rfl (sub_cons (d := 9) rfl (sub_cons (d := 10) rfl (sub_cons (d := 11) rfl (sub_cons (d := 32) rfl (sub_cons (d := 42) rfl (sub_cons (d := 48) rfl (sub_cons (d := 52) rfl (sub_cons (d := 53) rfl (sub_cons (d := 54) rfl (sub_nil _))))))))))))))))) ((.cons_cons _ (.cons_cons _ (.cons_cons _ (.cons_cons _ .slnil))))) ?_
      intro m b hi12
      obtain ⟨hm, hbx, hbo⟩ := hi12
      refine hc_seq ?_
      refine hc_region ?_
      refine hl_lss rfl rfl rfl rfl rfl rfl (fun h13 => ?_) (fun h13 => ?_)
      ·
        refine hl_less (sub_cons (d := 0) rfl (sub_cons (d := 1) rfl (sub_cons (d := 2) rfl (sub_cons (d := 3) rfl (sub_cons (d := 6) rfl (sub_cons (d := 7) rfl (sub_cons (d := 8) rfl (sub_cons (d := 9) rfl (sub_cons (d := 10) rfl (sub_cons (d := 11) rfl (sub_cons (d := 32) rfl (sub_cons (d := 42) rfl (sub_cons (d := 48) rfl (sub_cons (d := 52) rfl (sub_cons (d := 53) rfl (sub_cons (d := 54) rfl (sub_cons (d := 55) rfl (sub_nil _)))))))))))))))))) (.refl _) ?_
        refine hl_nil ?_
        refine hq_then ?_
        refine hc_seq ?_
        refine hc_true rfl ?_
        refine hc_skip ?_
        refine hq_then ?_
        refine hc_seq ?_
        refine hc_block ?_
        refine hc_seq ?_
        refine hc_region ?_
        refine hl_v rfl rfl rfl (rv_index (s := 3) rfl Try.underlying36 (by kernel_rfl) rfl rfl (fun w hm => (into_rds (v := v2) (rs := rs) 2 rfl w hm).at (k := (x).toNat) (by omega)) (by omega) (by first | omega | (simp only [List.length_set]; omega))) ?_
        refine hl_v rfl rfl rfl (rv_loadElN (us := [.int .i64 ((((rs.getD ((x).toNat) row0).ar).getD m arc0).f), .int .i64 ((((rs.getD ((x).toNat) row0).ar).getD m arc0).t), .int .i64 ((((rs.getD ((x).toNat) row0).ar).getD m arc0).d)]) rfl (by kernel_rfl) (by kernel_rfl) rfl (fun w hm => (into_rds (v := v2) (rs := rs) 2 rfl w hm).at (k := (x).toNat) (by omega)) (by omega) rfl (flat_atN arcC 3 (fun _ => rfl) ((rs.getD ((x).toNat) row0).ar) arc0 (show m < _ by first | omega | (simp only [List.length_set]; omega)) rfl)) ?_
        refine hl_box rfl rfl rfl (rq_alloc (z := .agg #[.int .i64 0, .int .i64 0, .int .i64 0]) rfl (by kernel_rfl)) ?_
        intro b14
        refine hl_storeBoxN (i := 0) (off := 0) (us := [.int .i64 ((((rs.getD ((x).toNat) row0).ar).getD m arc0).f), .int .i64 ((((rs.getD ((x).toNat) row0).ar).getD m arc0).t), .int .i64 ((((rs.getD ((x).toNat) row0).ar).getD m arc0).d)]) (l' := [boxE b14 #[.int .i64 ((((rs.getD ((x).toNat) row0).ar).getD m arc0).f), .int .i64 ((((rs.getD ((x).toNat) row0).ar).getD m arc0).t), .int .i64 ((((rs.getD ((x).toNat) row0).ar).getD m arc0).d)] 82, rowE 3 1 u ys.length (ys.map (Value.int .i64)), rowE 3 1 v5 ((delL true gs s rs.length).length) ((delL true gs s rs.length).map (Value.int .i64)), intoE v2 rs, boxE b1 #[.int .i64 n, v] 38]) rfl rfl rfl (by kernel_rfl) rfl rfl rfl (all_cons rfl (all_cons rfl (all_cons rfl all_nil))) rfl rfl rfl ?_
        refine hl_less (sub_cons (d := 0) rfl (sub_cons (d := 1) rfl (sub_cons (d := 2) rfl (sub_cons (d := 3) rfl (sub_cons (d := 6) rfl (sub_cons (d := 7) rfl (sub_cons (d := 8) rfl (sub_cons (d := 9) rfl (sub_cons (d := 10) rfl (sub_cons (d := 11) rfl (sub_cons (d := 13) rfl (sub_cons (d := 32) rfl (sub_cons (d := 42) rfl (sub_cons (d := 48) rfl (sub_cons (d := 52) rfl (sub_cons (d := 53) rfl (sub_cons (d := 54) rfl (sub_cons (d := 55) rfl (sub_nil _))))))))))))))))))) (.refl _) ?_
        refine hl_nil ?_
        refine hq_then ?_
        refine hc_seq ?_
        have hea : 0 ≤ ((rs.getD ((x).toNat) row0).ar.getD m arc0).f ∧ ((rs.getD ((x).toNat) row0).ar.getD m arc0).f < (x).toNat ∧ 0 ≤ ((rs.getD ((x).toNat) row0).ar.getD m arc0).d ∧ ((rs.getD ((x).toNat) row0).ar.getD m arc0).d ≤ 100 := by rw [hinx]; exact into_at hg (by rw [← hinx]; omega)
        have hdE : (delL true gs s rs.length).getD (((rs.getD ((x).toNat) row0).ar.getD m arc0).f).toNat 0 = Dl true gs s (((rs.getD ((x).toNat) row0).ar.getD m arc0).f).toNat := del_at _ _ _ _ _ (by omega)
        have hdb := Dl_bnd hg true s (((rs.getD ((x).toNat) row0).ar.getD m arc0).f).toNat
        rcases Bool.eq_false_or_eq_true (decide (0 ≤ (delL true gs s rs.length).getD (((((rs.getD ((x).toNat) row0).ar).getD m arc0).f).toNat) 0)) with hb15 | hb15
        ·
          have hb15p : 0 ≤ (delL true gs s rs.length).getD (((((rs.getD ((x).toNat) row0).ar).getD m arc0).f).toNat) 0 := of_decide_eq_true hb15
          have hea : 0 ≤ ((rs.getD ((x).toNat) row0).ar.getD m arc0).f ∧ ((rs.getD ((x).toNat) row0).ar.getD m arc0).f < (x).toNat ∧ 0 ≤ ((rs.getD ((x).toNat) row0).ar.getD m arc0).d ∧ ((rs.getD ((x).toNat) row0).ar.getD m arc0).d ≤ 100 := by rw [hinx]; exact into_at hg (by rw [← hinx]; omega)
          have hdE : (delL true gs s rs.length).getD (((rs.getD ((x).toNat) row0).ar.getD m arc0).f).toNat 0 = Dl true gs s (((rs.getD ((x).toNat) row0).ar.getD m arc0).f).toNat := del_at _ _ _ _ _ (by omega)
          have hdb := Dl_bnd hg true s (((rs.getD ((x).toNat) row0).ar.getD m arc0).f).toNat
          rcases Bool.eq_false_or_eq_true ((((delL true gs s rs.length).getD (((((rs.getD ((x).toNat) row0).ar).getD m arc0).f).toNat) 0) + ((((rs.getD ((x).toNat) row0).ar).getD m arc0).d)) == ((delL true gs s rs.length).getD ((x).toNat) 0)) with hb16 | hb16
          ·
            have hb16p : ((delL true gs s rs.length).getD (((((rs.getD ((x).toNat) row0).ar).getD m arc0).f).toNat) 0) + ((((rs.getD ((x).toNat) row0).ar).getD m arc0).d) = (delL true gs s rs.length).getD ((x).toNat) 0 := beq_iff_eq.1 hb16
            have hea : 0 ≤ ((rs.getD ((x).toNat) row0).ar.getD m arc0).f ∧ ((rs.getD ((x).toNat) row0).ar.getD m arc0).f < (x).toNat ∧ 0 ≤ ((rs.getD ((x).toNat) row0).ar.getD m arc0).d ∧ ((rs.getD ((x).toNat) row0).ar.getD m arc0).d ≤ 100 := by rw [hinx]; exact into_at hg (by rw [← hinx]; omega)
            have hdE : (delL true gs s rs.length).getD (((rs.getD ((x).toNat) row0).ar.getD m arc0).f).toNat 0 = Dl true gs s (((rs.getD ((x).toNat) row0).ar.getD m arc0).f).toNat := del_at _ _ _ _ _ (by omega)
            have hdb := Dl_bnd hg true s (((rs.getD ((x).toNat) row0).ar.getD m arc0).f).toNat
            rcases Bool.eq_false_or_eq_true (decide (b < 0)) with hb17 | hb17
            ·
              have hb17p : b < 0 := of_decide_eq_true hb17
              have hea : 0 ≤ ((rs.getD ((x).toNat) row0).ar.getD m arc0).f ∧ ((rs.getD ((x).toNat) row0).ar.getD m arc0).f < (x).toNat ∧ 0 ≤ ((rs.getD ((x).toNat) row0).ar.getD m arc0).d ∧ ((rs.getD ((x).toNat) row0).ar.getD m arc0).d ≤ 100 := by rw [hinx]; exact into_at hg (by rw [← hinx]; omega)
              have hdE : (delL true gs s rs.length).getD (((rs.getD ((x).toNat) row0).ar.getD m arc0).f).toNat 0 = Dl true gs s (((rs.getD ((x).toNat) row0).ar.getD m arc0).f).toNat := del_at _ _ _ _ _ (by omega)
              have hdb := Dl_bnd hg true s (((rs.getD ((x).toNat) row0).ar.getD m arc0).f).toNat
              refine hc_draw (by kernel_rfl) 31 [0, 1, 2, 3, 4, 5, 6, 7, 8, 9, 10, 11, 12, 13, 14, 15, 16, 17, 18, 19, 20, 21, 22, 23, 24, 25, 26, 27, 28, 29, 30] (List.take 31 _) (List.drop 31 _) [[], [], [1], [0, 2], [3], [4], [5], [6], [6], [6, 8], [6, 7, 9], [6, 10], [6], [6, 12], [6, 11, 13], [6], [6], [6, 15, 16], [6, 17], [6, 14, 18], [6, 19], [20], [21], [21, 22], [21, 23], [24], [24], [24], [24], [21, 24, 28], [21, 29]] [58, 59, 60, 61, 62, 63, 64, 65, 66, 67, 68, 69, 70, 71, 72, 73, 74, 75, 76, 77, 78, 79, 80, 81, 82, 83, 84, 85, 86, 87, 88] (fun i_ vs_ v_ p_ => match i_ with | 0 => v_ = v5 ∧ p_ = [] | 1 => v_ = .pointer (some ⟨b14, 0 + 0, none⟩) ∧ p_ = [] | 2 => v_ = .int .i64 ((((rs.getD ((x).toNat) row0).ar).getD m arc0).f) ∧ p_ = [] | 3 => v_ = elP v5 (((((rs.getD ((x).toNat) row0).ar).getD m arc0).f).toNat * 1) ∧ p_ = [] | 4 => v_ = .int .i64 ((delL true gs s rs.length).getD (((((rs.getD ((x).toNat) row0).ar).getD m arc0).f).toNat) 0) ∧ p_ = [] | 5 => v_ = .bool true ∧ p_ = [] | 6 => v_ = .bool true ∧ p_ = [] | 7 => v_ = v5 ∧ p_ = [] | 8 => v_ = .pointer (some ⟨b14, 0 + 0, none⟩) ∧ p_ = [] | 9 => v_ = .int .i64 ((((rs.getD ((x).toNat) row0).ar).getD m arc0).f) ∧ p_ = [] | 10 => v_ = elP v5 (((((rs.getD ((x).toNat) row0).ar).getD m arc0).f).toNat * 1) ∧ p_ = [] | 11 => v_ = .int .i64 ((delL true gs s rs.length).getD (((((rs.getD ((x).toNat) row0).ar).getD m arc0).f).toNat) 0) ∧ p_ = [] | 12 => v_ = .pointer (some ⟨b14, 0 + 2, none⟩) ∧ p_ = [] | 13 => v_ = .int .i64 ((((rs.getD ((x).toNat) row0).ar).getD m arc0).d) ∧ p_ = [] | 14 => v_ = .int .i64 (((delL true gs s rs.length).getD (((((rs.getD ((x).toNat) row0).ar).getD m arc0).f).toNat) 0) + ((((rs.getD ((x).toNat) row0).ar).getD m arc0).d)) ∧ p_ = [] | 15 => v_ = v5 ∧ p_ = [] | 16 => v_ = .int .i64 x ∧ p_ = [] | 17 => v_ = elP v5 ((x).toNat * 1) ∧ p_ = [] | 18 => v_ = .int .i64 ((delL true gs s rs.length).getD ((x).toNat) 0) ∧ p_ = [] | 19 => v_ = .bool true ∧ p_ = [] | 20 => v_ = .bool true ∧ p_ = [] | 21 => v_ = .bool true ∧ p_ = [] | 22 => v_ = .int .i64 b ∧ p_ = [] | 23 => v_ = .bool true ∧ p_ = [] | 24 => v_ = .bool true ∧ p_ = [] | 25 => v_ = undef ∧ p_ = [] | 26 => v_ = undef ∧ p_ = [] | 27 => v_ = undef ∧ p_ = [] | 28 => v_ = undef ∧ p_ = [] | 29 => v_ = .bool true ∧ p_ = [] | 30 => v_ = .bool true ∧ p_ = [] | _ => True) (List.take_append_drop 31 _).symm (by kernel_rfl) (by kernel_rfl) rfl rfl ?_ ?_
              ·
                refine ⟨?_, ?_, ?_, ?_, ?_, ?_, ?_, ?_, ?_, ?_, ?_, ?_, ?_, ?_, ?_, ?_, ?_, ?_, ?_, ?_, ?_, ?_, ?_, ?_, ?_, ?_, ?_, ?_, ?_, ?_, ?_, trivial⟩
                ·
                  intro vf pf hR
                  refine Or.inl ⟨rfl, ?_⟩
                  refine rq_less (l' := [boxE b14 #[.int .i64 ((((rs.getD ((x).toNat) row0).ar).getD m arc0).f), .int .i64 ((((rs.getD ((x).toNat) row0).ar).getD m arc0).t), .int .i64 ((((rs.getD ((x).toNat) row0).ar).getD m arc0).d)] 82, rowE 3 1 u ys.length (ys.map (Value.int .i64)), rowE 3 1 v5 ((delL true gs s rs.length).length) ((delL true gs s rs.length).map (Value.int .i64)), intoE v2 rs, boxE b1 #[.int .i64 n, v] 38]) (sub_cons (d := 8) rfl (sub_nil _)) (List.sublist_append_right _ _) ?_
                  exact rq_v (rv_ev rfl)
                ·
                  intro vf pf hR
                  refine Or.inl ⟨rfl, ?_⟩
                  refine rq_less (l' := [boxE b14 #[.int .i64 ((((rs.getD ((x).toNat) row0).ar).getD m arc0).f), .int .i64 ((((rs.getD ((x).toNat) row0).ar).getD m arc0).t), .int .i64 ((((rs.getD ((x).toNat) row0).ar).getD m arc0).d)] 82, rowE 3 1 u ys.length (ys.map (Value.int .i64)), rowE 3 1 v5 ((delL true gs s rs.length).length) ((delL true gs s rs.length).map (Value.int .i64)), intoE v2 rs, boxE b1 #[.int .i64 n, v] 38]) (sub_cons (d := 13) rfl (sub_nil _)) (List.sublist_append_right _ _) ?_
                  exact rq_v (rv_field (k0 := 0) rfl (by kernel_rfl) rfl)
                ·
                  intro vf pf hR
                  have e1 : (vf 1) = .pointer (some ⟨b14, 0 + 0, none⟩) ∧ (pf 1) = [] := hR 1 (by decide)
                  refine Or.inl ⟨rfl, ?_⟩
                  refine rq_less (l' := [boxE b14 #[.int .i64 ((((rs.getD ((x).toNat) row0).ar).getD m arc0).f), .int .i64 ((((rs.getD ((x).toNat) row0).ar).getD m arc0).t), .int .i64 ((((rs.getD ((x).toNat) row0).ar).getD m arc0).d)] 82, rowE 3 1 u ys.length (ys.map (Value.int .i64)), rowE 3 1 v5 ((delL true gs s rs.length).length) ((delL true gs s rs.length).map (Value.int .i64)), intoE v2 rs, boxE b1 #[.int .i64 n, v] 38]) (sub_cons (d := 59) (congrArg some e1.1) (sub_nil _)) (List.sublist_append_right _ _) ?_
                  exact rq_v (rv_load rfl (by kernel_rfl) rfl (box_cell 0 rfl rfl))
                ·
                  intro vf pf hR
                  have e0 : (vf 0) = v5 ∧ (pf 0) = [] := hR 0 (by decide)
                  have e2 : (vf 2) = .int .i64 ((((rs.getD ((x).toNat) row0).ar).getD m arc0).f) ∧ (pf 2) = [] := hR 2 (by decide)
                  refine Or.inl ⟨rfl, ?_⟩
                  refine rq_less (l' := [boxE b14 #[.int .i64 ((((rs.getD ((x).toNat) row0).ar).getD m arc0).f), .int .i64 ((((rs.getD ((x).toNat) row0).ar).getD m arc0).t), .int .i64 ((((rs.getD ((x).toNat) row0).ar).getD m arc0).d)] 82, rowE 3 1 u ys.length (ys.map (Value.int .i64)), rowE 3 1 v5 ((delL true gs s rs.length).length) ((delL true gs s rs.length).map (Value.int .i64)), intoE v2 rs, boxE b1 #[.int .i64 n, v] 38]) (sub_cons (d := 58) (congrArg some e0.1) (sub_cons (d := 60) (congrArg some e2.1) (sub_nil _))) (List.sublist_append_right _ _) ?_
                  exact rq_v (rv_index (s := 1) rfl Try.underlying43 (by kernel_rfl) rfl rfl (rd_row 2 rfl) (by omega) (by first | omega | (simp only [List.length_set]; omega)))
                ·
                  intro vf pf hR
                  have e3 : (vf 3) = elP v5 (((((rs.getD ((x).toNat) row0).ar).getD m arc0).f).toNat * 1) ∧ (pf 3) = [] := hR 3 (by decide)
                  refine Or.inl ⟨rfl, ?_⟩
                  refine rq_less (l' := [boxE b14 #[.int .i64 ((((rs.getD ((x).toNat) row0).ar).getD m arc0).f), .int .i64 ((((rs.getD ((x).toNat) row0).ar).getD m arc0).t), .int .i64 ((((rs.getD ((x).toNat) row0).ar).getD m arc0).d)] 82, rowE 3 1 u ys.length (ys.map (Value.int .i64)), rowE 3 1 v5 ((delL true gs s rs.length).length) ((delL true gs s rs.length).map (Value.int .i64)), intoE v2 rs, boxE b1 #[.int .i64 n, v] 38]) (sub_cons (d := 61) (congrArg some e3.1) (sub_nil _)) (List.sublist_append_right _ _) ?_
                  exact rq_v (rv_loadEl (u := .int .i64 ((delL true gs s rs.length).getD (((((rs.getD ((x).toNat) row0).ar).getD m arc0).f).toNat) 0)) rfl (by kernel_rfl) rfl (rd_row 2 rfl) (ints_at1 (show _ < (delL true gs s rs.length).length by first | omega | (simp only [List.length_set]; omega))))
                ·
                  intro vf pf hR
                  have e4 : (vf 4) = .int .i64 ((delL true gs s rs.length).getD (((((rs.getD ((x).toNat) row0).ar).getD m arc0).f).toNat) 0) ∧ (pf 4) = [] := hR 4 (by decide)
                  refine Or.inl ⟨rfl, ?_⟩
                  refine rq_less (l' := [boxE b14 #[.int .i64 ((((rs.getD ((x).toNat) row0).ar).getD m arc0).f), .int .i64 ((((rs.getD ((x).toNat) row0).ar).getD m arc0).t), .int .i64 ((((rs.getD ((x).toNat) row0).ar).getD m arc0).d)] 82, rowE 3 1 u ys.length (ys.map (Value.int .i64)), rowE 3 1 v5 ((delL true gs s rs.length).length) ((delL true gs s rs.length).map (Value.int .i64)), intoE v2 rs, boxE b1 #[.int .i64 n, v] 38]) (sub_cons (d := 62) (congrArg some e4.1) (sub_nil _)) (List.sublist_append_right _ _) ?_
                  exact rq_mono (rq_v (rv_cmp rfl rfl rfl rfl)) (fun _ _ h => ⟨h.1.trans (congrArg Value.bool hb15), h.2⟩)
                ·
                  intro vf pf hR
                  have e5 : (vf 5) = .bool true ∧ (pf 5) = [] := hR 5 (by decide)
                  refine Or.inl ⟨rfl, ?_⟩
                  refine rq_less (l' := [boxE b14 #[.int .i64 ((((rs.getD ((x).toNat) row0).ar).getD m arc0).f), .int .i64 ((((rs.getD ((x).toNat) row0).ar).getD m arc0).t), .int .i64 ((((rs.getD ((x).toNat) row0).ar).getD m arc0).d)] 82, rowE 3 1 u ys.length (ys.map (Value.int .i64)), rowE 3 1 v5 ((delL true gs s rs.length).length) ((delL true gs s rs.length).map (Value.int .i64)), intoE v2 rs, boxE b1 #[.int .i64 n, v] 38]) (sub_cons (d := 63) (congrArg some e5.1) (sub_nil _)) (List.sublist_append_right _ _) ?_
                  exact rq_v (rv_ev rfl)
                ·
                  intro vf pf hR
                  have e6 : (vf 6) = .bool true ∧ (pf 6) = [] := hR 6 (by decide)
                  refine Or.inl ⟨want_of (congrArg some e6.1) rfl, ?_⟩
                  refine rq_less (l' := [boxE b14 #[.int .i64 ((((rs.getD ((x).toNat) row0).ar).getD m arc0).f), .int .i64 ((((rs.getD ((x).toNat) row0).ar).getD m arc0).t), .int .i64 ((((rs.getD ((x).toNat) row0).ar).getD m arc0).d)] 82, rowE 3 1 u ys.length (ys.map (Value.int .i64)), rowE 3 1 v5 ((delL true gs s rs.length).length) ((delL true gs s rs.length).map (Value.int .i64)), intoE v2 rs, boxE b1 #[.int .i64 n, v] 38]) (sub_cons (d := 8) rfl (sub_nil _)) (List.sublist_append_right _ _) ?_
                  exact rq_v (rv_ev rfl)
                ·
                  intro vf pf hR
                  have e6 : (vf 6) = .bool true ∧ (pf 6) = [] := hR 6 (by decide)
                  refine Or.inl ⟨want_of (congrArg some e6.1) rfl, ?_⟩
                  refine rq_less (l' := [boxE b14 #[.int .i64 ((((rs.getD ((x).toNat) row0).ar).getD m arc0).f), .int .i64 ((((rs.getD ((x).toNat) row0).ar).getD m arc0).t), .int .i64 ((((rs.getD ((x).toNat) row0).ar).getD m arc0).d)] 82, rowE 3 1 u ys.length (ys.map (Value.int .i64)), rowE 3 1 v5 ((delL true gs s rs.length).length) ((delL true gs s rs.length).map (Value.int .i64)), intoE v2 rs, boxE b1 #[.int .i64 n, v] 38]) (sub_cons (d := 13) rfl (sub_nil _)) (List.sublist_append_right _ _) ?_
                  exact rq_v (rv_field (k0 := 0) rfl (by kernel_rfl) rfl)
                ·
                  intro vf pf hR
                  have e6 : (vf 6) = .bool true ∧ (pf 6) = [] := hR 6 (by decide)
                  have e8 : (vf 8) = .pointer (some ⟨b14, 0 + 0, none⟩) ∧ (pf 8) = [] := hR 8 (by decide)
                  refine Or.inl ⟨want_of (congrArg some e6.1) rfl, ?_⟩
                  refine rq_less (l' := [boxE b14 #[.int .i64 ((((rs.getD ((x).toNat) row0).ar).getD m arc0).f), .int .i64 ((((rs.getD ((x).toNat) row0).ar).getD m arc0).t), .int .i64 ((((rs.getD ((x).toNat) row0).ar).getD m arc0).d)] 82, rowE 3 1 u ys.length (ys.map (Value.int .i64)), rowE 3 1 v5 ((delL true gs s rs.length).length) ((delL true gs s rs.length).map (Value.int .i64)), intoE v2 rs, boxE b1 #[.int .i64 n, v] 38]) (sub_cons (d := 66) (congrArg some e8.1) (sub_nil _)) (List.sublist_append_right _ _) ?_
                  exact rq_v (rv_load rfl (by kernel_rfl) rfl (box_cell 0 rfl rfl))
                ·
                  intro vf pf hR
                  have e6 : (vf 6) = .bool true ∧ (pf 6) = [] := hR 6 (by decide)
                  have e7 : (vf 7) = v5 ∧ (pf 7) = [] := hR 7 (by decide)
                  have e9 : (vf 9) = .int .i64 ((((rs.getD ((x).toNat) row0).ar).getD m arc0).f) ∧ (pf 9) = [] := hR 9 (by decide)
                  refine Or.inl ⟨want_of (congrArg some e6.1) rfl, ?_⟩
                  refine rq_less (l' := [boxE b14 #[.int .i64 ((((rs.getD ((x).toNat) row0).ar).getD m arc0).f), .int .i64 ((((rs.getD ((x).toNat) row0).ar).getD m arc0).t), .int .i64 ((((rs.getD ((x).toNat) row0).ar).getD m arc0).d)] 82, rowE 3 1 u ys.length (ys.map (Value.int .i64)), rowE 3 1 v5 ((delL true gs s rs.length).length) ((delL true gs s rs.length).map (Value.int .i64)), intoE v2 rs, boxE b1 #[.int .i64 n, v] 38]) (sub_cons (d := 65) (congrArg some e7.1) (sub_cons (d := 67) (congrArg some e9.1) (sub_nil _))) (List.sublist_append_right _ _) ?_
                  exact rq_v (rv_index (s := 1) rfl Try.underlying43 (by kernel_rfl) rfl rfl (rd_row 2 rfl) (by omega) (by first | omega | (simp only [List.length_set]; omega)))
                ·
                  intro vf pf hR
                  have e6 : (vf 6) = .bool true ∧ (pf 6) = [] := hR 6 (by decide)
                  have e10 : (vf 10) = elP v5 (((((rs.getD ((x).toNat) row0).ar).getD m arc0).f).toNat * 1) ∧ (pf 10) = [] := hR 10 (by decide)
                  refine Or.inl ⟨want_of (congrArg some e6.1) rfl, ?_⟩
                  refine rq_less (l' := [boxE b14 #[.int .i64 ((((rs.getD ((x).toNat) row0).ar).getD m arc0).f), .int .i64 ((((rs.getD ((x).toNat) row0).ar).getD m arc0).t), .int .i64 ((((rs.getD ((x).toNat) row0).ar).getD m arc0).d)] 82, rowE 3 1 u ys.length (ys.map (Value.int .i64)), rowE 3 1 v5 ((delL true gs s rs.length).length) ((delL true gs s rs.length).map (Value.int .i64)), intoE v2 rs, boxE b1 #[.int .i64 n, v] 38]) (sub_cons (d := 68) (congrArg some e10.1) (sub_nil _)) (List.sublist_append_right _ _) ?_
                  exact rq_v (rv_loadEl (u := .int .i64 ((delL true gs s rs.length).getD (((((rs.getD ((x).toNat) row0).ar).getD m arc0).f).toNat) 0)) rfl (by kernel_rfl) rfl (rd_row 2 rfl) (ints_at1 (show _ < (delL true gs s rs.length).length by first | omega | (simp only [List.length_set]; omega))))
                ·
                  intro vf pf hR
                  have e6 : (vf 6) = .bool true ∧ (pf 6) = [] := hR 6 (by decide)
                  refine Or.inl ⟨want_of (congrArg some e6.1) rfl, ?_⟩
                  refine rq_less (l' := [boxE b14 #[.int .i64 ((((rs.getD ((x).toNat) row0).ar).getD m arc0).f), .int .i64 ((((rs.getD ((x).toNat) row0).ar).getD m arc0).t), .int .i64 ((((rs.getD ((x).toNat) row0).ar).getD m arc0).d)] 82, rowE 3 1 u ys.length (ys.map (Value.int .i64)), rowE 3 1 v5 ((delL true gs s rs.length).length) ((delL true gs s rs.length).map (Value.int .i64)), intoE v2 rs, boxE b1 #[.int .i64 n, v] 38]) (sub_cons (d := 13) rfl (sub_nil _)) (List.sublist_append_right _ _) ?_
                  exact rq_v (rv_field (k0 := 2) rfl (by kernel_rfl) rfl)
                ·
                  intro vf pf hR
                  have e6 : (vf 6) = .bool true ∧ (pf 6) = [] := hR 6 (by decide)
                  have e12 : (vf 12) = .pointer (some ⟨b14, 0 + 2, none⟩) ∧ (pf 12) = [] := hR 12 (by decide)
                  refine Or.inl ⟨want_of (congrArg some e6.1) rfl, ?_⟩
                  refine rq_less (l' := [boxE b14 #[.int .i64 ((((rs.getD ((x).toNat) row0).ar).getD m arc0).f), .int .i64 ((((rs.getD ((x).toNat) row0).ar).getD m arc0).t), .int .i64 ((((rs.getD ((x).toNat) row0).ar).getD m arc0).d)] 82, rowE 3 1 u ys.length (ys.map (Value.int .i64)), rowE 3 1 v5 ((delL true gs s rs.length).length) ((delL true gs s rs.length).map (Value.int .i64)), intoE v2 rs, boxE b1 #[.int .i64 n, v] 38]) (sub_cons (d := 70) (congrArg some e12.1) (sub_nil _)) (List.sublist_append_right _ _) ?_
                  exact rq_v (rv_load rfl (by kernel_rfl) rfl (box_cell 0 rfl rfl))
                ·
                  intro vf pf hR
                  have e6 : (vf 6) = .bool true ∧ (pf 6) = [] := hR 6 (by decide)
                  have e11 : (vf 11) = .int .i64 ((delL true gs s rs.length).getD (((((rs.getD ((x).toNat) row0).ar).getD m arc0).f).toNat) 0) ∧ (pf 11) = [] := hR 11 (by decide)
                  have e13 : (vf 13) = .int .i64 ((((rs.getD ((x).toNat) row0).ar).getD m arc0).d) ∧ (pf 13) = [] := hR 13 (by decide)
                  refine Or.inl ⟨want_of (congrArg some e6.1) rfl, ?_⟩
                  refine rq_less (l' := [boxE b14 #[.int .i64 ((((rs.getD ((x).toNat) row0).ar).getD m arc0).f), .int .i64 ((((rs.getD ((x).toNat) row0).ar).getD m arc0).t), .int .i64 ((((rs.getD ((x).toNat) row0).ar).getD m arc0).d)] 82, rowE 3 1 u ys.length (ys.map (Value.int .i64)), rowE 3 1 v5 ((delL true gs s rs.length).length) ((delL true gs s rs.length).map (Value.int .i64)), intoE v2 rs, boxE b1 #[.int .i64 n, v] 38]) (sub_cons (d := 69) (congrArg some e11.1) (sub_cons (d := 71) (congrArg some e13.1) (sub_nil _))) (List.sublist_append_right _ _) ?_
                  exact rq_v (rv_add rfl rfl rfl (by constructor <;> omega))
                ·
                  intro vf pf hR
                  have e6 : (vf 6) = .bool true ∧ (pf 6) = [] := hR 6 (by decide)
                  refine Or.inl ⟨want_of (congrArg some e6.1) rfl, ?_⟩
                  refine rq_less (l' := [boxE b14 #[.int .i64 ((((rs.getD ((x).toNat) row0).ar).getD m arc0).f), .int .i64 ((((rs.getD ((x).toNat) row0).ar).getD m arc0).t), .int .i64 ((((rs.getD ((x).toNat) row0).ar).getD m arc0).d)] 82, rowE 3 1 u ys.length (ys.map (Value.int .i64)), rowE 3 1 v5 ((delL true gs s rs.length).length) ((delL true gs s rs.length).map (Value.int .i64)), intoE v2 rs, boxE b1 #[.int .i64 n, v] 38]) (sub_cons (d := 8) rfl (sub_nil _)) (List.sublist_append_right _ _) ?_
                  exact rq_v (rv_ev rfl)
                ·
                  intro vf pf hR
                  have e6 : (vf 6) = .bool true ∧ (pf 6) = [] := hR 6 (by decide)
                  refine Or.inl ⟨want_of (congrArg some e6.1) rfl, ?_⟩
                  refine rq_less (l' := [boxE b14 #[.int .i64 ((((rs.getD ((x).toNat) row0).ar).getD m arc0).f), .int .i64 ((((rs.getD ((x).toNat) row0).ar).getD m arc0).t), .int .i64 ((((rs.getD ((x).toNat) row0).ar).getD m arc0).d)] 82, rowE 3 1 u ys.length (ys.map (Value.int .i64)), rowE 3 1 v5 ((delL true gs s rs.length).length) ((delL true gs s rs.length).map (Value.int .i64)), intoE v2 rs, boxE b1 #[.int .i64 n, v] 38]) (sub_cons (d := 10) rfl (sub_nil _)) (List.sublist_append_right _ _) ?_
                  exact rq_v (rv_ev rfl)
                ·
                  intro vf pf hR
                  have e6 : (vf 6) = .bool true ∧ (pf 6) = [] := hR 6 (by decide)
                  have e15 : (vf 15) = v5 ∧ (pf 15) = [] := hR 15 (by decide)
                  have e16 : (vf 16) = .int .i64 x ∧ (pf 16) = [] := hR 16 (by decide)
                  refine Or.inl ⟨want_of (congrArg some e6.1) rfl, ?_⟩
                  refine rq_less (l' := [boxE b14 #[.int .i64 ((((rs.getD ((x).toNat) row0).ar).getD m arc0).f), .int .i64 ((((rs.getD ((x).toNat) row0).ar).getD m arc0).t), .int .i64 ((((rs.getD ((x).toNat) row0).ar).getD m arc0).d)] 82, rowE 3 1 u ys.length (ys.map (Value.int .i64)), rowE 3 1 v5 ((delL true gs s rs.length).length) ((delL true gs s rs.length).map (Value.int .i64)), intoE v2 rs, boxE b1 #[.int .i64 n, v] 38]) (sub_cons (d := 73) (congrArg some e15.1) (sub_cons (d := 74) (congrArg some e16.1) (sub_nil _))) (List.sublist_append_right _ _) ?_
                  exact rq_v (rv_index (s := 1) rfl Try.underlying43 (by kernel_rfl) rfl rfl (rd_row 2 rfl) (by omega) (by first | omega | (simp only [List.length_set]; omega)))
                ·
                  intro vf pf hR
                  have e6 : (vf 6) = .bool true ∧ (pf 6) = [] := hR 6 (by decide)
                  have e17 : (vf 17) = elP v5 ((x).toNat * 1) ∧ (pf 17) = [] := hR 17 (by decide)
                  refine Or.inl ⟨want_of (congrArg some e6.1) rfl, ?_⟩
                  refine rq_less (l' := [boxE b14 #[.int .i64 ((((rs.getD ((x).toNat) row0).ar).getD m arc0).f), .int .i64 ((((rs.getD ((x).toNat) row0).ar).getD m arc0).t), .int .i64 ((((rs.getD ((x).toNat) row0).ar).getD m arc0).d)] 82, rowE 3 1 u ys.length (ys.map (Value.int .i64)), rowE 3 1 v5 ((delL true gs s rs.length).length) ((delL true gs s rs.length).map (Value.int .i64)), intoE v2 rs, boxE b1 #[.int .i64 n, v] 38]) (sub_cons (d := 75) (congrArg some e17.1) (sub_nil _)) (List.sublist_append_right _ _) ?_
                  exact rq_v (rv_loadEl (u := .int .i64 ((delL true gs s rs.length).getD ((x).toNat) 0)) rfl (by kernel_rfl) rfl (rd_row 2 rfl) (ints_at1 (show _ < (delL true gs s rs.length).length by first | omega | (simp only [List.length_set]; omega))))
                ·
                  intro vf pf hR
                  have e6 : (vf 6) = .bool true ∧ (pf 6) = [] := hR 6 (by decide)
                  have e14 : (vf 14) = .int .i64 (((delL true gs s rs.length).getD (((((rs.getD ((x).toNat) row0).ar).getD m arc0).f).toNat) 0) + ((((rs.getD ((x).toNat) row0).ar).getD m arc0).d)) ∧ (pf 14) = [] := hR 14 (by decide)
                  have e18 : (vf 18) = .int .i64 ((delL true gs s rs.length).getD ((x).toNat) 0) ∧ (pf 18) = [] := hR 18 (by decide)
                  refine Or.inl ⟨want_of (congrArg some e6.1) rfl, ?_⟩
                  refine rq_less (l' := [boxE b14 #[.int .i64 ((((rs.getD ((x).toNat) row0).ar).getD m arc0).f), .int .i64 ((((rs.getD ((x).toNat) row0).ar).getD m arc0).t), .int .i64 ((((rs.getD ((x).toNat) row0).ar).getD m arc0).d)] 82, rowE 3 1 u ys.length (ys.map (Value.int .i64)), rowE 3 1 v5 ((delL true gs s rs.length).length) ((delL true gs s rs.length).map (Value.int .i64)), intoE v2 rs, boxE b1 #[.int .i64 n, v] 38]) (sub_cons (d := 72) (congrArg some e14.1) (sub_cons (d := 76) (congrArg some e18.1) (sub_nil _))) (List.sublist_append_right _ _) ?_
                  exact rq_mono (rq_v (rv_cmp rfl rfl rfl rfl)) (fun _ _ h => ⟨h.1.trans (congrArg Value.bool hb16), h.2⟩)
                ·
                  intro vf pf hR
                  have e6 : (vf 6) = .bool true ∧ (pf 6) = [] := hR 6 (by decide)
                  have e19 : (vf 19) = .bool true ∧ (pf 19) = [] := hR 19 (by decide)
                  refine Or.inl ⟨rfl, ?_⟩
                  refine rq_less (l' := [boxE b14 #[.int .i64 ((((rs.getD ((x).toNat) row0).ar).getD m arc0).f), .int .i64 ((((rs.getD ((x).toNat) row0).ar).getD m arc0).t), .int .i64 ((((rs.getD ((x).toNat) row0).ar).getD m arc0).d)] 82, rowE 3 1 u ys.length (ys.map (Value.int .i64)), rowE 3 1 v5 ((delL true gs s rs.length).length) ((delL true gs s rs.length).map (Value.int .i64)), intoE v2 rs, boxE b1 #[.int .i64 n, v] 38]) (sub_cons (d := 64) (congrArg some e6.1) (sub_cons (d := 77) (congrArg some e19.1) (sub_nil _))) (List.sublist_append_right _ _) ?_
                  exact rq_v (rv_ev rfl)
                ·
                  intro vf pf hR
                  have e20 : (vf 20) = .bool true ∧ (pf 20) = [] := hR 20 (by decide)
                  refine Or.inl ⟨rfl, ?_⟩
                  refine rq_less (l' := [boxE b14 #[.int .i64 ((((rs.getD ((x).toNat) row0).ar).getD m arc0).f), .int .i64 ((((rs.getD ((x).toNat) row0).ar).getD m arc0).t), .int .i64 ((((rs.getD ((x).toNat) row0).ar).getD m arc0).d)] 82, rowE 3 1 u ys.length (ys.map (Value.int .i64)), rowE 3 1 v5 ((delL true gs s rs.length).length) ((delL true gs s rs.length).map (Value.int .i64)), intoE v2 rs, boxE b1 #[.int .i64 n, v] 38]) (sub_cons (d := 78) (congrArg some e20.1) (sub_nil _)) (List.sublist_append_right _ _) ?_
                  exact rq_v (rv_ev rfl)
                ·
                  intro vf pf hR
                  have e21 : (vf 21) = .bool true ∧ (pf 21) = [] := hR 21 (by decide)
                  refine Or.inl ⟨want_of (congrArg some e21.1) rfl, ?_⟩
                  refine rq_less (l' := [boxE b14 #[.int .i64 ((((rs.getD ((x).toNat) row0).ar).getD m arc0).f), .int .i64 ((((rs.getD ((x).toNat) row0).ar).getD m arc0).t), .int .i64 ((((rs.getD ((x).toNat) row0).ar).getD m arc0).d)] 82, rowE 3 1 u ys.length (ys.map (Value.int .i64)), rowE 3 1 v5 ((delL true gs s rs.length).length) ((delL true gs s rs.length).map (Value.int .i64)), intoE v2 rs, boxE b1 #[.int .i64 n, v] 38]) (sub_cons (d := 11) rfl (sub_nil _)) (List.sublist_append_right _ _) ?_
                  exact rq_v (rv_ev rfl)
                ·
                  intro vf pf hR
                  have e21 : (vf 21) = .bool true ∧ (pf 21) = [] := hR 21 (by decide)
                  have e22 : (vf 22) = .int .i64 b ∧ (pf 22) = [] := hR 22 (by decide)
                  refine Or.inl ⟨want_of (congrArg some e21.1) rfl, ?_⟩
                  refine rq_less (l' := [boxE b14 #[.int .i64 ((((rs.getD ((x).toNat) row0).ar).getD m arc0).f), .int .i64 ((((rs.getD ((x).toNat) row0).ar).getD m arc0).t), .int .i64 ((((rs.getD ((x).toNat) row0).ar).getD m arc0).d)] 82, rowE 3 1 u ys.length (ys.map (Value.int .i64)), rowE 3 1 v5 ((delL true gs s rs.length).length) ((delL true gs s rs.length).map (Value.int .i64)), intoE v2 rs, boxE b1 #[.int .i64 n, v] 38]) (sub_cons (d := 80) (congrArg some e22.1) (sub_nil _)) (List.sublist_append_right _ _) ?_
                  exact rq_mono (rq_v (rv_cmp rfl rfl rfl rfl)) (fun _ _ h => ⟨h.1.trans (congrArg Value.bool hb17), h.2⟩)
                ·
                  intro vf pf hR
                  have e21 : (vf 21) = .bool true ∧ (pf 21) = [] := hR 21 (by decide)
                  have e23 : (vf 23) = .bool true ∧ (pf 23) = [] := hR 23 (by decide)
                  refine Or.inl ⟨want_of (congrArg some e21.1) rfl, ?_⟩
                  refine rq_less (l' := [boxE b14 #[.int .i64 ((((rs.getD ((x).toNat) row0).ar).getD m arc0).f), .int .i64 ((((rs.getD ((x).toNat) row0).ar).getD m arc0).t), .int .i64 ((((rs.getD ((x).toNat) row0).ar).getD m arc0).d)] 82, rowE 3 1 u ys.length (ys.map (Value.int .i64)), rowE 3 1 v5 ((delL true gs s rs.length).length) ((delL true gs s rs.length).map (Value.int .i64)), intoE v2 rs, boxE b1 #[.int .i64 n, v] 38]) (sub_cons (d := 81) (congrArg some e23.1) (sub_nil _)) (List.sublist_append_right _ _) ?_
                  exact rq_v (rv_ev rfl)
                ·
                  intro vf pf hR
                  have e24 : (vf 24) = .bool true ∧ (pf 24) = [] := hR 24 (by decide)
                  exact Or.inr ⟨want_of (congrArg some e24.1) rfl, rfl, rfl⟩
                ·
                  intro vf pf hR
                  have e24 : (vf 24) = .bool true ∧ (pf 24) = [] := hR 24 (by decide)
                  exact Or.inr ⟨want_of (congrArg some e24.1) rfl, rfl, rfl⟩
                ·
                  intro vf pf hR
                  have e24 : (vf 24) = .bool true ∧ (pf 24) = [] := hR 24 (by decide)
                  exact Or.inr ⟨want_of (congrArg some e24.1) rfl, rfl, rfl⟩
                ·
                  intro vf pf hR
                  have e24 : (vf 24) = .bool true ∧ (pf 24) = [] := hR 24 (by decide)
                  exact Or.inr ⟨want_of (congrArg some e24.1) rfl, rfl, rfl⟩
                ·
                  intro vf pf hR
                  have e21 : (vf 21) = .bool true ∧ (pf 21) = [] := hR 21 (by decide)
                  have e24 : (vf 24) = .bool true ∧ (pf 24) = [] := hR 24 (by decide)
                  have e28 : (vf 28) = undef ∧ (pf 28) = [] := hR 28 (by decide)
                  refine Or.inl ⟨want_of (congrArg some e21.1) rfl, ?_⟩
                  refine rq_less (l' := [boxE b14 #[.int .i64 ((((rs.getD ((x).toNat) row0).ar).getD m arc0).f), .int .i64 ((((rs.getD ((x).toNat) row0).ar).getD m arc0).t), .int .i64 ((((rs.getD ((x).toNat) row0).ar).getD m arc0).d)] 82, rowE 3 1 u ys.length (ys.map (Value.int .i64)), rowE 3 1 v5 ((delL true gs s rs.length).length) ((delL true gs s rs.length).map (Value.int .i64)), intoE v2 rs, boxE b1 #[.int .i64 n, v] 38]) (sub_cons (d := 82) (congrArg some e24.1) (sub_cons (d := 86) (congrArg some e28.1) (sub_nil _))) (List.sublist_append_right _ _) ?_
                  exact rq_v (rv_ev rfl)
                ·
                  intro vf pf hR
                  have e21 : (vf 21) = .bool true ∧ (pf 21) = [] := hR 21 (by decide)
                  have e29 : (vf 29) = .bool true ∧ (pf 29) = [] := hR 29 (by decide)
                  refine Or.inl ⟨rfl, ?_⟩
                  refine rq_less (l' := [boxE b14 #[.int .i64 ((((rs.getD ((x).toNat) row0).ar).getD m arc0).f), .int .i64 ((((rs.getD ((x).toNat) row0).ar).getD m arc0).t), .int .i64 ((((rs.getD ((x).toNat) row0).ar).getD m arc0).d)] 82, rowE 3 1 u ys.length (ys.map (Value.int .i64)), rowE 3 1 v5 ((delL true gs s rs.length).length) ((delL true gs s rs.length).map (Value.int .i64)), intoE v2 rs, boxE b1 #[.int .i64 n, v] 38]) (sub_cons (d := 79) (congrArg some e21.1) (sub_cons (d := 87) (congrArg some e29.1) (sub_nil _))) (List.sublist_append_right _ _) ?_
                  exact rq_v (rv_ev rfl)
              ·
                intro vf pf hR
                have e30 : (vf 30) = .bool true ∧ (pf 30) = [] := hR 30 (by decide)
                refine hl_less (l' := [boxE b14 #[.int .i64 ((((rs.getD ((x).toNat) row0).ar).getD m arc0).f), .int .i64 ((((rs.getD ((x).toNat) row0).ar).getD m arc0).t), .int .i64 ((((rs.getD ((x).toNat) row0).ar).getD m arc0).d)] 82, rowE 3 1 u ys.length (ys.map (Value.int .i64)), rowE 3 1 v5 ((delL true gs s rs.length).length) ((delL true gs s rs.length).map (Value.int .i64)), intoE v2 rs, boxE b1 #[.int .i64 n, v] 38]) (sub_cons (d := 0) rfl (sub_cons (d := 1) rfl (sub_cons (d := 2) rfl (sub_cons (d := 3) rfl (sub_cons (d := 6) rfl (sub_cons (d := 7) rfl (sub_cons (d := 8) rfl (sub_cons (d := 9) rfl (sub_cons (d := 10) rfl (sub_cons (d := 11) rfl (sub_cons (d := 13) rfl (sub_cons (d := 32) rfl (sub_cons (d := 42) rfl (sub_cons (d := 48) rfl (sub_cons (d := 52) rfl (sub_cons (d := 53) rfl (sub_cons (d := 54) rfl (sub_cons (d := 55) rfl (sub_cons (d := 88) (congrArg some e30.1) (sub_nil _)))))))))))))))))))) (List.sublist_append_right _ _) ?_
                simp only [List.drop_succ_cons, List.drop_zero]
                refine hl_less (sub_cons (d := 0) rfl (sub_cons (d := 1) rfl (sub_cons (d := 2) rfl (sub_cons (d := 3) rfl (sub_cons (d := 6) rfl (sub_cons (d := 7) rfl (sub_cons (d := 8) rfl (sub_cons (d := 9) rfl (sub_cons (d := 10) rfl (sub_cons (d := 11) rfl (sub_cons (d := 13) rfl (sub_cons (d := 32) rfl (sub_cons (d := 42) rfl (sub_cons (d := 48) rfl (sub_cons (d := 52) rfl (sub_cons (d := 53) rfl (sub_cons (d := 54) rfl (sub_cons (d := 55) rfl (sub_cons (d := 88) rfl (sub_nil _)))))))))))))))))))) (.refl _) ?_
                refine hl_nil ?_
                refine hq_then ?_
                refine hc_true rfl ?_
                refine hc_region ?_
                refine hl_v rfl rfl rfl (rv_field (k0 := 0) rfl (by kernel_rfl) rfl) ?_
                refine hl_v rfl rfl rfl (rv_load rfl (by kernel_rfl) rfl (box_cell 0 rfl rfl)) ?_
                refine hl_v rfl rfl rfl (rv_ev rfl) ?_
                refine hl_less (sub_cons (d := 0) rfl (sub_cons (d := 1) rfl (sub_cons (d := 2) rfl (sub_cons (d := 3) rfl (sub_cons (d := 6) rfl (sub_cons (d := 7) rfl (sub_cons (d := 8) rfl (sub_cons (d := 9) rfl (sub_cons (d := 10) rfl (sub_cons (d := 11) rfl (sub_cons (d := 13) rfl (sub_cons (d := 32) rfl (sub_cons (d := 42) rfl (sub_cons (d := 48) rfl (sub_cons (d := 52) rfl (sub_cons (d := 53) rfl (sub_cons (d := 54) rfl (sub_cons (d := 55) rfl (sub_cons (d := 88) rfl (sub_nil _)))))))))))))))))))) (.refl _) ?_
                refine hl_nil ?_
                refine hq_block_normal ?_
                refine hq_then ?_
                refine hc_region ?_
                refine hl_v rfl rfl rfl (rv_add rfl rfl rfl (by constructor <;> omega)) ?_
                refine hl_v rfl rfl rfl (rv_ev rfl) ?_
                refine hl_less (sub_cons (d := 0) rfl (sub_cons (d := 1) rfl (sub_cons (d := 2) rfl (sub_cons (d := 3) rfl (sub_cons (d := 6) rfl (sub_cons (d := 7) rfl (sub_cons (d := 8) rfl (sub_cons (d := 9) rfl (sub_cons (d := 10) rfl (sub_cons (d := 11) rfl (sub_cons (d := 13) rfl (sub_cons (d := 32) rfl (sub_cons (d := 42) rfl (sub_cons (d := 48) rfl (sub_cons (d := 52) rfl (sub_cons (d := 53) rfl (sub_cons (d := 54) rfl (sub_cons (d := 55) rfl (sub_cons (d := 88) rfl (sub_nil _)))))))))))))))))))) (.refl _) ?_
                refine hl_nil ?_
                exact hq_round2 (m + 1) ((((rs.getD ((x).toNat) row0).ar).getD m arc0).f) ⟨by omega, by omega, .inr ⟨by omega, ((rs.getD ((x).toNat) row0).ar.getD m arc0), by rw [← hinx]; exact getD_mem' (by omega), rfl, by omega, by omega⟩⟩ (by omega) (sub_cons (d := 0) rfl (sub_cons (d := 1) rfl (sub_cons (d := 2) rfl (sub_cons (d := 3) rfl (sub_cons (d := 6) rfl (sub_cons (d := 7) rfl (sub_cons (d := 8) rfl (sub_cons (d := 9) rfl (sub_cons (d := 10) rfl (sub_cons (d := 11) rfl (sub_cons (d := 32) rfl (sub_cons (d := 42) rfl (sub_cons (d := 48) rfl (sub_cons (d := 52) rfl (sub_cons (d := 53) rfl (sub_cons (d := 54) rfl (sub_nil _))))))))))))))))) ((.cons _ (.cons_cons _ (.cons_cons _ (.cons_cons _ (.cons_cons _ .slnil))))))
            ·
              have hb17p : ¬ (b < 0) := of_decide_eq_false hb17
              have hea : 0 ≤ ((rs.getD ((x).toNat) row0).ar.getD m arc0).f ∧ ((rs.getD ((x).toNat) row0).ar.getD m arc0).f < (x).toNat ∧ 0 ≤ ((rs.getD ((x).toNat) row0).ar.getD m arc0).d ∧ ((rs.getD ((x).toNat) row0).ar.getD m arc0).d ≤ 100 := by rw [hinx]; exact into_at hg (by rw [← hinx]; omega)
              have hdE : (delL true gs s rs.length).getD (((rs.getD ((x).toNat) row0).ar.getD m arc0).f).toNat 0 = Dl true gs s (((rs.getD ((x).toNat) row0).ar.getD m arc0).f).toNat := del_at _ _ _ _ _ (by omega)
              have hdb := Dl_bnd hg true s (((rs.getD ((x).toNat) row0).ar.getD m arc0).f).toNat
              rcases Bool.eq_false_or_eq_true (decide ((((rs.getD ((x).toNat) row0).ar).getD m arc0).f < b)) with hb18 | hb18
              ·
                have hb18p : (((rs.getD ((x).toNat) row0).ar).getD m arc0).f < b := of_decide_eq_true hb18
                have hea : 0 ≤ ((rs.getD ((x).toNat) row0).ar.getD m arc0).f ∧ ((rs.getD ((x).toNat) row0).ar.getD m arc0).f < (x).toNat ∧ 0 ≤ ((rs.getD ((x).toNat) row0).ar.getD m arc0).d ∧ ((rs.getD ((x).toNat) row0).ar.getD m arc0).d ≤ 100 := by rw [hinx]; exact into_at hg (by rw [← hinx]; omega)
                have hdE : (delL true gs s rs.length).getD (((rs.getD ((x).toNat) row0).ar.getD m arc0).f).toNat 0 = Dl true gs s (((rs.getD ((x).toNat) row0).ar.getD m arc0).f).toNat := del_at _ _ _ _ _ (by omega)
                have hdb := Dl_bnd hg true s (((rs.getD ((x).toNat) row0).ar.getD m arc0).f).toNat
                refine hc_draw (by kernel_rfl) 31 [0, 1, 2, 3, 4, 5, 6, 7, 8, 9, 10, 11, 12, 13, 14, 15, 16, 17, 18, 19, 20, 21, 22, 23, 24, 25, 26, 27, 28, 29, 30] (List.take 31 _) (List.drop 31 _) [[], [], [1], [0, 2], [3], [4], [5], [6], [6], [6, 8], [6, 7, 9], [6, 10], [6], [6, 12], [6, 11, 13], [6], [6], [6, 15, 16], [6, 17], [6, 14, 18], [6, 19], [20], [21], [21, 22], [21, 23], [24], [24, 25], [24], [24, 26, 27], [21, 24, 28], [21, 29]] [58, 59, 60, 61, 62, 63, 64, 65, 66, 67, 68, 69, 70, 71, 72, 73, 74, 75, 76, 77, 78, 79, 80, 81, 82, 83, 84, 85, 86, 87, 88] (fun i_ vs_ v_ p_ => match i_ with | 0 => v_ = v5 ∧ p_ = [] | 1 => v_ = .pointer (some ⟨b14, 0 + 0, none⟩) ∧ p_ = [] | 2 => v_ = .int .i64 ((((rs.getD ((x).toNat) row0).ar).getD m arc0).f) ∧ p_ = [] | 3 => v_ = elP v5 (((((rs.getD ((x).toNat) row0).ar).getD m arc0).f).toNat * 1) ∧ p_ = [] | 4 => v_ = .int .i64 ((delL true gs s rs.length).getD (((((rs.getD ((x).toNat) row0).ar).getD m arc0).f).toNat) 0) ∧ p_ = [] | 5 => v_ = .bool true ∧ p_ = [] | 6 => v_ = .bool true ∧ p_ = [] | 7 => v_ = v5 ∧ p_ = [] | 8 => v_ = .pointer (some ⟨b14, 0 + 0, none⟩) ∧ p_ = [] | 9 => v_ = .int .i64 ((((rs.getD ((x).toNat) row0).ar).getD m arc0).f) ∧ p_ = [] | 10 => v_ = elP v5 (((((rs.getD ((x).toNat) row0).ar).getD m arc0).f).toNat * 1) ∧ p_ = [] | 11 => v_ = .int .i64 ((delL true gs s rs.length).getD (((((rs.getD ((x).toNat) row0).ar).getD m arc0).f).toNat) 0) ∧ p_ = [] | 12 => v_ = .pointer (some ⟨b14, 0 + 2, none⟩) ∧ p_ = [] | 13 => v_ = .int .i64 ((((rs.getD ((x).toNat) row0).ar).getD m arc0).d) ∧ p_ = [] | 14 => v_ = .int .i64 (((delL true gs s rs.length).getD (((((rs.getD ((x).toNat) row0).ar).getD m arc0).f).toNat) 0) + ((((rs.getD ((x).toNat) row0).ar).getD m arc0).d)) ∧ p_ = [] | 15 => v_ = v5 ∧ p_ = [] | 16 => v_ = .int .i64 x ∧ p_ = [] | 17 => v_ = elP v5 ((x).toNat * 1) ∧ p_ = [] | 18 => v_ = .int .i64 ((delL true gs s rs.length).getD ((x).toNat) 0) ∧ p_ = [] | 19 => v_ = .bool true ∧ p_ = [] | 20 => v_ = .bool true ∧ p_ = [] | 21 => v_ = .bool true ∧ p_ = [] | 22 => v_ = .int .i64 b ∧ p_ = [] | 23 => v_ = .bool false ∧ p_ = [] | 24 => v_ = .bool false ∧ p_ = [] | 25 => v_ = .pointer (some ⟨b14, 0 + 0, none⟩) ∧ p_ = [] | 26 => v_ = .int .i64 ((((rs.getD ((x).toNat) row0).ar).getD m arc0).f) ∧ p_ = [] | 27 => v_ = .int .i64 b ∧ p_ = [] | 28 => v_ = .bool true ∧ p_ = [] | 29 => v_ = .bool true ∧ p_ = [] | 30 => v_ = .bool true ∧ p_ = [] | _ => True) (List.take_append_drop 31 _).symm (by kernel_rfl) (by kernel_rfl) rfl rfl ?_ ?_
                ·
                  refine ⟨?_, ?_, ?_, ?_, ?_, ?_, ?_, ?_, ?_, ?_, ?_, ?_, ?_, ?_, ?_, ?_, ?_, ?_, ?_, ?_, ?_, ?_, ?_, ?_, ?_, ?_, ?_, ?_, ?_, ?_, ?_, trivial⟩
                  ·
                    intro vf pf hR
                    refine Or.inl ⟨rfl, ?_⟩
                    refine rq_less (l' := [boxE b14 #[.int .i64 ((((rs.getD ((x).toNat) row0).ar).getD m arc0).f), .int .i64 ((((rs.getD ((x).toNat) row0).ar).getD m arc0).t), .int .i64 ((((rs.getD ((x).toNat) row0).ar).getD m arc0).d)] 82, rowE 3 1 u ys.length (ys.map (Value.int .i64)), rowE 3 1 v5 ((delL true gs s rs.length).length) ((delL true gs s rs.length).map (Value.int .i64)), intoE v2 rs, boxE b1 #[.int .i64 n, v] 38]) (sub_cons (d := 8) rfl (sub_nil _)) (List.sublist_append_right _ _) ?_
                    exact rq_v (rv_ev rfl)
                  ·
                    intro vf pf hR
                    refine Or.inl ⟨rfl, ?_⟩
                    refine rq_less (l' := [boxE b14 #[.int .i64 ((((rs.getD ((x).toNat) row0).ar).getD m arc0).f), .int .i64 ((((rs.getD ((x).toNat) row0).ar).getD m arc0).t), .int .i64 ((((rs.getD ((x).toNat) row0).ar).getD m arc0).d)] 82, rowE 3 1 u ys.length (ys.map (Value.int .i64)), rowE 3 1 v5 ((delL true gs s rs.length).length) ((delL true gs s rs.length).map (Value.int .i64)), intoE v2 rs, boxE b1 #[.int .i64 n, v] 38]) (sub_cons (d := 13) rfl (sub_nil _)) (List.sublist_append_right _ _) ?_
                    exact rq_v (rv_field (k0 := 0) rfl (by kernel_rfl) rfl)
                  ·
                    intro vf pf hR
                    have e1 : (vf 1) = .pointer (some ⟨b14, 0 + 0, none⟩) ∧ (pf 1) = [] := hR 1 (by decide)
                    refine Or.inl ⟨rfl, ?_⟩
                    refine rq_less (l' := [boxE b14 #[.int .i64 ((((rs.getD ((x).toNat) row0).ar).getD m arc0).f), .int .i64 ((((rs.getD ((x).toNat) row0).ar).getD m arc0).t), .int .i64 ((((rs.getD ((x).toNat) row0).ar).getD m arc0).d)] 82, rowE 3 1 u ys.length (ys.map (Value.int .i64)), rowE 3 1 v5 ((delL true gs s rs.length).length) ((delL true gs s rs.length).map (Value.int .i64)), intoE v2 rs, boxE b1 #[.int .i64 n, v] 38]) (sub_cons (d := 59) (congrArg some e1.1) (sub_nil _)) (List.sublist_append_right _ _) ?_
                    exact rq_v (rv_load rfl (by kernel_rfl) rfl (box_cell 0 rfl rfl))
                  ·
                    intro vf pf hR
                    have e0 : (vf 0) = v5 ∧ (pf 0) = [] := hR 0 (by decide)
                    have e2 : (vf 2) = .int .i64 ((((rs.getD ((x).toNat) row0).ar).getD m arc0).f) ∧ (pf 2) = [] := hR 2 (by decide)
                    refine Or.inl ⟨rfl, ?_⟩
                    refine rq_less (l' := [boxE b14 #[.int .i64 ((((rs.getD ((x).toNat) row0).ar).getD m arc0).f), .int .i64 ((((rs.getD ((x).toNat) row0).ar).getD m arc0).t), .int .i64 ((((rs.getD ((x).toNat) row0).ar).getD m arc0).d)] 82, rowE 3 1 u ys.length (ys.map (Value.int .i64)), rowE 3 1 v5 ((delL true gs s rs.length).length) ((delL true gs s rs.length).map (Value.int .i64)), intoE v2 rs, boxE b1 #[.int .i64 n, v] 38]) (sub_cons (d := 58) (congrArg some e0.1) (sub_cons (d := 60) (congrArg some e2.1) (sub_nil _))) (List.sublist_append_right _ _) ?_
                    exact rq_v (rv_index (s := 1) rfl Try.underlying43 (by kernel_rfl) rfl rfl (rd_row 2 rfl) (by omega) (by first | omega | (simp only [List.length_set]; omega)))
                  ·
                    intro vf pf hR
                    have e3 : (vf 3) = elP v5 (((((rs.getD ((x).toNat) row0).ar).getD m arc0).f).toNat * 1) ∧ (pf 3) = [] := hR 3 (by decide)
                    refine Or.inl ⟨rfl, ?_⟩
                    refine rq_less (l' := [boxE b14 #[.int .i64 ((((rs.getD ((x).toNat) row0).ar).getD m arc0).f), .int .i64 ((((rs.getD ((x).toNat) row0).ar).getD m arc0).t), .int .i64 ((((rs.getD ((x).toNat) row0).ar).getD m arc0).d)] 82, rowE 3 1 u ys.length (ys.map (Value.int .i64)), rowE 3 1 v5 ((delL true gs s rs.length).length) ((delL true gs s rs.length).map (Value.int .i64)), intoE v2 rs, boxE b1 #[.int .i64 n, v] 38]) (sub_cons (d := 61) (congrArg some e3.1) (sub_nil _)) (List.sublist_append_right _ _) ?_
                    exact rq_v (rv_loadEl (u := .int .i64 ((delL true gs s rs.length).getD (((((rs.getD ((x).toNat) row0).ar).getD m arc0).f).toNat) 0)) rfl (by kernel_rfl) rfl (rd_row 2 rfl) (ints_at1 (show _ < (delL true gs s rs.length).length by first | omega | (simp only [List.length_set]; omega))))
                  ·
                    intro vf pf hR
                    have e4 : (vf 4) = .int .i64 ((delL true gs s rs.length).getD (((((rs.getD ((x).toNat) row0).ar).getD m arc0).f).toNat) 0) ∧ (pf 4) = [] := hR 4 (by decide)
                    refine Or.inl ⟨rfl, ?_⟩
                    refine rq_less (l' := [boxE b14 #[.int .i64 ((((rs.getD ((x).toNat) row0).ar).getD m arc0).f), .int .i64 ((((rs.getD ((x).toNat) row0).ar).getD m arc0).t), .int .i64 ((((rs.getD ((x).toNat) row0).ar).getD m arc0).d)] 82, rowE 3 1 u ys.length (ys.map (Value.int .i64)), rowE 3 1 v5 ((delL true gs s rs.length).length) ((delL true gs s rs.length).map (Value.int .i64)), intoE v2 rs, boxE b1 #[.int .i64 n, v] 38]) (sub_cons (d := 62) (congrArg some e4.1) (sub_nil _)) (List.sublist_append_right _ _) ?_
                    exact rq_mono (rq_v (rv_cmp rfl rfl rfl rfl)) (fun _ _ h => ⟨h.1.trans (congrArg Value.bool hb15), h.2⟩)
                  ·
                    intro vf pf hR
                    have e5 : (vf 5) = .bool true ∧ (pf 5) = [] := hR 5 (by decide)
                    refine Or.inl ⟨rfl, ?_⟩
                    refine rq_less (l' := [boxE b14 #[.int .i64 ((((rs.getD ((x).toNat) row0).ar).getD m arc0).f), .int .i64 ((((rs.getD ((x).toNat) row0).ar).getD m arc0).t), .int .i64 ((((rs.getD ((x).toNat) row0).ar).getD m arc0).d)] 82, rowE 3 1 u ys.length (ys.map (Value.int .i64)), rowE 3 1 v5 ((delL true gs s rs.length).length) ((delL true gs s rs.length).map (Value.int .i64)), intoE v2 rs, boxE b1 #[.int .i64 n, v] 38]) (sub_cons (d := 63) (congrArg some e5.1) (sub_nil _)) (List.sublist_append_right _ _) ?_
                    exact rq_v (rv_ev rfl)
                  ·
                    intro vf pf hR
                    have e6 : (vf 6) = .bool true ∧ (pf 6) = [] := hR 6 (by decide)
                    refine Or.inl ⟨want_of (congrArg some e6.1) rfl, ?_⟩
                    refine rq_less (l' := [boxE b14 #[.int .i64 ((((rs.getD ((x).toNat) row0).ar).getD m arc0).f), .int .i64 ((((rs.getD ((x).toNat) row0).ar).getD m arc0).t), .int .i64 ((((rs.getD ((x).toNat) row0).ar).getD m arc0).d)] 82, rowE 3 1 u ys.length (ys.map (Value.int .i64)), rowE 3 1 v5 ((delL true gs s rs.length).length) ((delL true gs s rs.length).map (Value.int .i64)), intoE v2 rs, boxE b1 #[.int .i64 n, v] 38]) (sub_cons (d := 8) rfl (sub_nil _)) (List.sublist_append_right _ _) ?_
                    exact rq_v (rv_ev rfl)
                  ·
                    intro vf pf hR
                    have e6 : (vf 6) = .bool true ∧ (pf 6) = [] := hR 6 (by decide)
                    refine Or.inl ⟨want_of (congrArg some e6.1) rfl, ?_⟩
                    refine rq_less (l' := [boxE b14 #[.int .i64 ((((rs.getD ((x).toNat) row0).ar).getD m arc0).f), .int .i64 ((((rs.getD ((x).toNat) row0).ar).getD m arc0).t), .int .i64 ((((rs.getD ((x).toNat) row0).ar).getD m arc0).d)] 82, rowE 3 1 u ys.length (ys.map (Value.int .i64)), rowE 3 1 v5 ((delL true gs s rs.length).length) ((delL true gs s rs.length).map (Value.int .i64)), intoE v2 rs, boxE b1 #[.int .i64 n, v] 38]) (sub_cons (d := 13) rfl (sub_nil _)) (List.sublist_append_right _ _) ?_
                    exact rq_v (rv_field (k0 := 0) rfl (by kernel_rfl) rfl)
                  ·
                    intro vf pf hR
                    have e6 : (vf 6) = .bool true ∧ (pf 6) = [] := hR 6 (by decide)
                    have e8 : (vf 8) = .pointer (some ⟨b14, 0 + 0, none⟩) ∧ (pf 8) = [] := hR 8 (by decide)
                    refine Or.inl ⟨want_of (congrArg some e6.1) rfl, ?_⟩
                    refine rq_less (l' := [boxE b14 #[.int .i64 ((((rs.getD ((x).toNat) row0).ar).getD m arc0).f), .int .i64 ((((rs.getD ((x).toNat) row0).ar).getD m arc0).t), .int .i64 ((((rs.getD ((x).toNat) row0).ar).getD m arc0).d)] 82, rowE 3 1 u ys.length (ys.map (Value.int .i64)), rowE 3 1 v5 ((delL true gs s rs.length).length) ((delL true gs s rs.length).map (Value.int .i64)), intoE v2 rs, boxE b1 #[.int .i64 n, v] 38]) (sub_cons (d := 66) (congrArg some e8.1) (sub_nil _)) (List.sublist_append_right _ _) ?_
                    exact rq_v (rv_load rfl (by kernel_rfl) rfl (box_cell 0 rfl rfl))
                  ·
                    intro vf pf hR
                    have e6 : (vf 6) = .bool true ∧ (pf 6) = [] := hR 6 (by decide)
                    have e7 : (vf 7) = v5 ∧ (pf 7) = [] := hR 7 (by decide)
                    have e9 : (vf 9) = .int .i64 ((((rs.getD ((x).toNat) row0).ar).getD m arc0).f) ∧ (pf 9) = [] := hR 9 (by decide)
                    refine Or.inl ⟨want_of (congrArg some e6.1) rfl, ?_⟩
                    refine rq_less (l' := [boxE b14 #[.int .i64 ((((rs.getD ((x).toNat) row0).ar).getD m arc0).f), .int .i64 ((((rs.getD ((x).toNat) row0).ar).getD m arc0).t), .int .i64 ((((rs.getD ((x).toNat) row0).ar).getD m arc0).d)] 82, rowE 3 1 u ys.length (ys.map (Value.int .i64)), rowE 3 1 v5 ((delL true gs s rs.length).length) ((delL true gs s rs.length).map (Value.int .i64)), intoE v2 rs, boxE b1 #[.int .i64 n, v] 38]) (sub_cons (d := 65) (congrArg some e7.1) (sub_cons (d := 67) (congrArg some e9.1) (sub_nil _))) (List.sublist_append_right _ _) ?_
                    exact rq_v (rv_index (s := 1) rfl Try.underlying43 (by kernel_rfl) rfl rfl (rd_row 2 rfl) (by omega) (by first | omega | (simp only [List.length_set]; omega)))
                  ·
                    intro vf pf hR
                    have e6 : (vf 6) = .bool true ∧ (pf 6) = [] := hR 6 (by decide)
                    have e10 : (vf 10) = elP v5 (((((rs.getD ((x).toNat) row0).ar).getD m arc0).f).toNat * 1) ∧ (pf 10) = [] := hR 10 (by decide)
                    refine Or.inl ⟨want_of (congrArg some e6.1) rfl, ?_⟩
                    refine rq_less (l' := [boxE b14 #[.int .i64 ((((rs.getD ((x).toNat) row0).ar).getD m arc0).f), .int .i64 ((((rs.getD ((x).toNat) row0).ar).getD m arc0).t), .int .i64 ((((rs.getD ((x).toNat) row0).ar).getD m arc0).d)] 82, rowE 3 1 u ys.length (ys.map (Value.int .i64)), rowE 3 1 v5 ((delL true gs s rs.length).length) ((delL true gs s rs.length).map (Value.int .i64)), intoE v2 rs, boxE b1 #[.int .i64 n, v] 38]) (sub_cons (d := 68) (congrArg some e10.1) (sub_nil _)) (List.sublist_append_right _ _) ?_
                    exact rq_v (rv_loadEl (u := .int .i64 ((delL true gs s rs.length).getD (((((rs.getD ((x).toNat) row0).ar).getD m arc0).f).toNat) 0)) rfl (by kernel_rfl) rfl (rd_row 2 rfl) (ints_at1 (show _ < (delL true gs s rs.length).length by first | omega | (simp only [List.length_set]; omega))))
                  ·
                    intro vf pf hR
                    have e6 : (vf 6) = .bool true ∧ (pf 6) = [] := hR 6 (by decide)
                    refine Or.inl ⟨want_of (congrArg some e6.1) rfl, ?_⟩
                    refine rq_less (l' := [boxE b14 #[.int .i64 ((((rs.getD ((x).toNat) row0).ar).getD m arc0).f), .int .i64 ((((rs.getD ((x).toNat) row0).ar).getD m arc0).t), .int .i64 ((((rs.getD ((x).toNat) row0).ar).getD m arc0).d)] 82, rowE 3 1 u ys.length (ys.map (Value.int .i64)), rowE 3 1 v5 ((delL true gs s rs.length).length) ((delL true gs s rs.length).map (Value.int .i64)), intoE v2 rs, boxE b1 #[.int .i64 n, v] 38]) (sub_cons (d := 13) rfl (sub_nil _)) (List.sublist_append_right _ _) ?_
                    exact rq_v (rv_field (k0 := 2) rfl (by kernel_rfl) rfl)
                  ·
                    intro vf pf hR
                    have e6 : (vf 6) = .bool true ∧ (pf 6) = [] := hR 6 (by decide)
                    have e12 : (vf 12) = .pointer (some ⟨b14, 0 + 2, none⟩) ∧ (pf 12) = [] := hR 12 (by decide)
                    refine Or.inl ⟨want_of (congrArg some e6.1) rfl, ?_⟩
                    refine rq_less (l' := [boxE b14 #[.int .i64 ((((rs.getD ((x).toNat) row0).ar).getD m arc0).f), .int .i64 ((((rs.getD ((x).toNat) row0).ar).getD m arc0).t), .int .i64 ((((rs.getD ((x).toNat) row0).ar).getD m arc0).d)] 82, rowE 3 1 u ys.length (ys.map (Value.int .i64)), rowE 3 1 v5 ((delL true gs s rs.length).length) ((delL true gs s rs.length).map (Value.int .i64)), intoE v2 rs, boxE b1 #[.int .i64 n, v] 38]) (sub_cons (d := 70) (congrArg some e12.1) (sub_nil _)) (List.sublist_append_right _ _) ?_
                    exact rq_v (rv_load rfl (by kernel_rfl) rfl (box_cell 0 rfl rfl))
                  ·
                    intro vf pf hR
                    have e6 : (vf 6) = .bool true ∧ (pf 6) = [] := hR 6 (by decide)
                    have e11 : (vf 11) = .int .i64 ((delL true gs s rs.length).getD (((((rs.getD ((x).toNat) row0).ar).getD m arc0).f).toNat) 0) ∧ (pf 11) = [] := hR 11 (by decide)
                    have e13 : (vf 13) = .int .i64 ((((rs.getD ((x).toNat) row0).ar).getD m arc0).d) ∧ (pf 13) = [] := hR 13 (by decide)
                    refine Or.inl ⟨want_of (congrArg some e6.1) rfl, ?_⟩
                    refine rq_less (l' := [boxE b14 #[.int .i64 ((((rs.getD ((x).toNat) row0).ar).getD m arc0).f), .int .i64 ((((rs.getD ((x).toNat) row0).ar).getD m arc0).t), .int .i64 ((((rs.getD ((x).toNat) row0).ar).getD m arc0).d)] 82, rowE 3 1 u ys.length (ys.map (Value.int .i64)), rowE 3 1 v5 ((delL true gs s rs.length).length) ((delL true gs s rs.length).map (Value.int .i64)), intoE v2 rs, boxE b1 #[.int .i64 n, v] 38]) (sub_cons (d := 69) (congrArg some e11.1) (sub_cons (d := 71) (congrArg some e13.1) (sub_nil _))) (List.sublist_append_right _ _) ?_
                    exact rq_v (rv_add rfl rfl rfl (by constructor <;> omega))
                  ·
                    intro vf pf hR
                    have e6 : (vf 6) = .bool true ∧ (pf 6) = [] := hR 6 (by decide)
                    refine Or.inl ⟨want_of (congrArg some e6.1) rfl, ?_⟩
                    refine rq_less (l' := [boxE b14 #[.int .i64 ((((rs.getD ((x).toNat) row0).ar).getD m arc0).f), .int .i64 ((((rs.getD ((x).toNat) row0).ar).getD m arc0).t), .int .i64 ((((rs.getD ((x).toNat) row0).ar).getD m arc0).d)] 82, rowE 3 1 u ys.length (ys.map (Value.int .i64)), rowE 3 1 v5 ((delL true gs s rs.length).length) ((delL true gs s rs.length).map (Value.int .i64)), intoE v2 rs, boxE b1 #[.int .i64 n, v] 38]) (sub_cons (d := 8) rfl (sub_nil _)) (List.sublist_append_right _ _) ?_
                    exact rq_v (rv_ev rfl)
                  ·
                    intro vf pf hR
                    have e6 : (vf 6) = .bool true ∧ (pf 6) = [] := hR 6 (by decide)
                    refine Or.inl ⟨want_of (congrArg some e6.1) rfl, ?_⟩
                    refine rq_less (l' := [boxE b14 #[.int .i64 ((((rs.getD ((x).toNat) row0).ar).getD m arc0).f), .int .i64 ((((rs.getD ((x).toNat) row0).ar).getD m arc0).t), .int .i64 ((((rs.getD ((x).toNat) row0).ar).getD m arc0).d)] 82, rowE 3 1 u ys.length (ys.map (Value.int .i64)), rowE 3 1 v5 ((delL true gs s rs.length).length) ((delL true gs s rs.length).map (Value.int .i64)), intoE v2 rs, boxE b1 #[.int .i64 n, v] 38]) (sub_cons (d := 10) rfl (sub_nil _)) (List.sublist_append_right _ _) ?_
                    exact rq_v (rv_ev rfl)
                  ·
                    intro vf pf hR
                    have e6 : (vf 6) = .bool true ∧ (pf 6) = [] := hR 6 (by decide)
                    have e15 : (vf 15) = v5 ∧ (pf 15) = [] := hR 15 (by decide)
                    have e16 : (vf 16) = .int .i64 x ∧ (pf 16) = [] := hR 16 (by decide)
                    refine Or.inl ⟨want_of (congrArg some e6.1) rfl, ?_⟩
                    refine rq_less (l' := [boxE b14 #[.int .i64 ((((rs.getD ((x).toNat) row0).ar).getD m arc0).f), .int .i64 ((((rs.getD ((x).toNat) row0).ar).getD m arc0).t), .int .i64 ((((rs.getD ((x).toNat) row0).ar).getD m arc0).d)] 82, rowE 3 1 u ys.length (ys.map (Value.int .i64)), rowE 3 1 v5 ((delL true gs s rs.length).length) ((delL true gs s rs.length).map (Value.int .i64)), intoE v2 rs, boxE b1 #[.int .i64 n, v] 38]) (sub_cons (d := 73) (congrArg some e15.1) (sub_cons (d := 74) (congrArg some e16.1) (sub_nil _))) (List.sublist_append_right _ _) ?_
                    exact rq_v (rv_index (s := 1) rfl Try.underlying43 (by kernel_rfl) rfl rfl (rd_row 2 rfl) (by omega) (by first | omega | (simp only [List.length_set]; omega)))
                  ·
                    intro vf pf hR
                    have e6 : (vf 6) = .bool true ∧ (pf 6) = [] := hR 6 (by decide)
                    have e17 : (vf 17) = elP v5 ((x).toNat * 1) ∧ (pf 17) = [] := hR 17 (by decide)
                    refine Or.inl ⟨want_of (congrArg some e6.1) rfl, ?_⟩
                    refine rq_less (l' := [boxE b14 #[.int .i64 ((((rs.getD ((x).toNat) row0).ar).getD m arc0).f), .int .i64 ((((rs.getD ((x).toNat) row0).ar).getD m arc0).t), .int .i64 ((((rs.getD ((x).toNat) row0).ar).getD m arc0).d)] 82, rowE 3 1 u ys.length (ys.map (Value.int .i64)), rowE 3 1 v5 ((delL true gs s rs.length).length) ((delL true gs s rs.length).map (Value.int .i64)), intoE v2 rs, boxE b1 #[.int .i64 n, v] 38]) (sub_cons (d := 75) (congrArg some e17.1) (sub_nil _)) (List.sublist_append_right _ _) ?_
                    exact rq_v (rv_loadEl (u := .int .i64 ((delL true gs s rs.length).getD ((x).toNat) 0)) rfl (by kernel_rfl) rfl (rd_row 2 rfl) (ints_at1 (show _ < (delL true gs s rs.length).length by first | omega | (simp only [List.length_set]; omega))))
                  ·
                    intro vf pf hR
                    have e6 : (vf 6) = .bool true ∧ (pf 6) = [] := hR 6 (by decide)
                    have e14 : (vf 14) = .int .i64 (((delL true gs s rs.length).getD (((((rs.getD ((x).toNat) row0).ar).getD m arc0).f).toNat) 0) + ((((rs.getD ((x).toNat) row0).ar).getD m arc0).d)) ∧ (pf 14) = [] := hR 14 (by decide)
                    have e18 : (vf 18) = .int .i64 ((delL true gs s rs.length).getD ((x).toNat) 0) ∧ (pf 18) = [] := hR 18 (by decide)
                    refine Or.inl ⟨want_of (congrArg some e6.1) rfl, ?_⟩
                    refine rq_less (l' := [boxE b14 #[.int .i64 ((((rs.getD ((x).toNat) row0).ar).getD m arc0).f), .int .i64 ((((rs.getD ((x).toNat) row0).ar).getD m arc0).t), .int .i64 ((((rs.getD ((x).toNat) row0).ar).getD m arc0).d)] 82, rowE 3 1 u ys.length (ys.map (Value.int .i64)), rowE 3 1 v5 ((delL true gs s rs.length).length) ((delL true gs s rs.length).map (Value.int .i64)), intoE v2 rs, boxE b1 #[.int .i64 n, v] 38]) (sub_cons (d := 72) (congrArg some e14.1) (sub_cons (d := 76) (congrArg some e18.1) (sub_nil _))) (List.sublist_append_right _ _) ?_
                    exact rq_mono (rq_v (rv_cmp rfl rfl rfl rfl)) (fun _ _ h => ⟨h.1.trans (congrArg Value.bool hb16), h.2⟩)
                  ·
                    intro vf pf hR
                    have e6 : (vf 6) = .bool true ∧ (pf 6) = [] := hR 6 (by decide)
                    have e19 : (vf 19) = .bool true ∧ (pf 19) = [] := hR 19 (by decide)
                    refine Or.inl ⟨rfl, ?_⟩
                    refine rq_less (l' := [boxE b14 #[.int .i64 ((((rs.getD ((x).toNat) row0).ar).getD m arc0).f), .int .i64 ((((rs.getD ((x).toNat) row0).ar).getD m arc0).t), .int .i64 ((((rs.getD ((x).toNat) row0).ar).getD m arc0).d)] 82, rowE 3 1 u ys.length (ys.map (Value.int .i64)), rowE 3 1 v5 ((delL true gs s rs.length).length) ((delL true gs s rs.length).map (Value.int .i64)), intoE v2 rs, boxE b1 #[.int .i64 n, v] 38]) (sub_cons (d := 64) (congrArg some e6.1) (sub_cons (d := 77) (congrArg some e19.1) (sub_nil _))) (List.sublist_append_right _ _) ?_
                    exact rq_v (rv_ev rfl)
                  ·
                    intro vf pf hR
                    have e20 : (vf 20) = .bool true ∧ (pf 20) = [] := hR 20 (by decide)
                    refine Or.inl ⟨rfl, ?_⟩
                    refine rq_less (l' := [boxE b14 #[.int .i64 ((((rs.getD ((x).toNat) row0).ar).getD m arc0).f), .int .i64 ((((rs.getD ((x).toNat) row0).ar).getD m arc0).t), .int .i64 ((((rs.getD ((x).toNat) row0).ar).getD m arc0).d)] 82, rowE 3 1 u ys.length (ys.map (Value.int .i64)), rowE 3 1 v5 ((delL true gs s rs.length).length) ((delL true gs s rs.length).map (Value.int .i64)), intoE v2 rs, boxE b1 #[.int .i64 n, v] 38]) (sub_cons (d := 78) (congrArg some e20.1) (sub_nil _)) (List.sublist_append_right _ _) ?_
                    exact rq_v (rv_ev rfl)
                  ·
                    intro vf pf hR
                    have e21 : (vf 21) = .bool true ∧ (pf 21) = [] := hR 21 (by decide)
                    refine Or.inl ⟨want_of (congrArg some e21.1) rfl, ?_⟩
                    refine rq_less (l' := [boxE b14 #[.int .i64 ((((rs.getD ((x).toNat) row0).ar).getD m arc0).f), .int .i64 ((((rs.getD ((x).toNat) row0).ar).getD m arc0).t), .int .i64 ((((rs.getD ((x).toNat) row0).ar).getD m arc0).d)] 82, rowE 3 1 u ys.length (ys.map (Value.int .i64)), rowE 3 1 v5 ((delL true gs s rs.length).length) ((delL true gs s rs.length).map (Value.int .i64)), intoE v2 rs, boxE b1 #[.int .i64 n, v] 38]) (sub_cons (d := 11) rfl (sub_nil _)) (List.sublist_append_right _ _) ?_
                    exact rq_v (rv_ev rfl)
                  ·
                    intro vf pf hR
                    have e21 : (vf 21) = .bool true ∧ (pf 21) = [] := hR 21 (by decide)
                    have e22 : (vf 22) = .int .i64 b ∧ (pf 22) = [] := hR 22 (by decide)
                    refine Or.inl ⟨want_of (congrArg some e21.1) rfl, ?_⟩
                    refine rq_less (l' := [boxE b14 #[.int .i64 ((((rs.getD ((x).toNat) row0).ar).getD m arc0).f), .int .i64 ((((rs.getD ((x).toNat) row0).ar).getD m arc0).t), .int .i64 ((((rs.getD ((x).toNat) row0).ar).getD m arc0).d)] 82, rowE 3 1 u ys.length (ys.map (Value.int .i64)), rowE 3 1 v5 ((delL true gs s rs.length).length) ((delL true gs s rs.length).map (Value.int .i64)), intoE v2 rs, boxE b1 #[.int .i64 n, v] 38]) (sub_cons (d := 80) (congrArg some e22.1) (sub_nil _)) (List.sublist_append_right _ _) ?_
                    exact rq_mono (rq_v (rv_cmp rfl rfl rfl rfl)) (fun _ _ h => ⟨h.1.trans (congrArg Value.bool hb17), h.2⟩)
                  ·
                    intro vf pf hR
                    have e21 : (vf 21) = .bool true ∧ (pf 21) = [] := hR 21 (by decide)
                    have e23 : (vf 23) = .bool false ∧ (pf 23) = [] := hR 23 (by decide)
                    refine Or.inl ⟨want_of (congrArg some e21.1) rfl, ?_⟩
                    refine rq_less (l' := [boxE b14 #[.int .i64 ((((rs.getD ((x).toNat) row0).ar).getD m arc0).f), .int .i64 ((((rs.getD ((x).toNat) row0).ar).getD m arc0).t), .int .i64 ((((rs.getD ((x).toNat) row0).ar).getD m arc0).d)] 82, rowE 3 1 u ys.length (ys.map (Value.int .i64)), rowE 3 1 v5 ((delL true gs s rs.length).length) ((delL true gs s rs.length).map (Value.int .i64)), intoE v2 rs, boxE b1 #[.int .i64 n, v] 38]) (sub_cons (d := 81) (congrArg some e23.1) (sub_nil _)) (List.sublist_append_right _ _) ?_
                    exact rq_v (rv_ev rfl)
                  ·
                    intro vf pf hR
                    have e24 : (vf 24) = .bool false ∧ (pf 24) = [] := hR 24 (by decide)
                    refine Or.inl ⟨want_of (congrArg some e24.1) rfl, ?_⟩
                    refine rq_less (l' := [boxE b14 #[.int .i64 ((((rs.getD ((x).toNat) row0).ar).getD m arc0).f), .int .i64 ((((rs.getD ((x).toNat) row0).ar).getD m arc0).t), .int .i64 ((((rs.getD ((x).toNat) row0).ar).getD m arc0).d)] 82, rowE 3 1 u ys.length (ys.map (Value.int .i64)), rowE 3 1 v5 ((delL true gs s rs.length).length) ((delL true gs s rs.length).map (Value.int .i64)), intoE v2 rs, boxE b1 #[.int .i64 n, v] 38]) (sub_cons (d := 13) rfl (sub_nil _)) (List.sublist_append_right _ _) ?_
                    exact rq_v (rv_field (k0 := 0) rfl (by kernel_rfl) rfl)
                  ·
                    intro vf pf hR
                    have e24 : (vf 24) = .bool false ∧ (pf 24) = [] := hR 24 (by decide)
                    have e25 : (vf 25) = .pointer (some ⟨b14, 0 + 0, none⟩) ∧ (pf 25) = [] := hR 25 (by decide)
                    refine Or.inl ⟨want_of (congrArg some e24.1) rfl, ?_⟩
                    refine rq_less (l' := [boxE b14 #[.int .i64 ((((rs.getD ((x).toNat) row0).ar).getD m arc0).f), .int .i64 ((((rs.getD ((x).toNat) row0).ar).getD m arc0).t), .int .i64 ((((rs.getD ((x).toNat) row0).ar).getD m arc0).d)] 82, rowE 3 1 u ys.length (ys.map (Value.int .i64)), rowE 3 1 v5 ((delL true gs s rs.length).length) ((delL true gs s rs.length).map (Value.int .i64)), intoE v2 rs, boxE b1 #[.int .i64 n, v] 38]) (sub_cons (d := 83) (congrArg some e25.1) (sub_nil _)) (List.sublist_append_right _ _) ?_
                    exact rq_v (rv_load rfl (by kernel_rfl) rfl (box_cell 0 rfl rfl))
                  ·
                    intro vf pf hR
                    have e24 : (vf 24) = .bool false ∧ (pf 24) = [] := hR 24 (by decide)
                    refine Or.inl ⟨want_of (congrArg some e24.1) rfl, ?_⟩
                    refine rq_less (l' := [boxE b14 #[.int .i64 ((((rs.getD ((x).toNat) row0).ar).getD m arc0).f), .int .i64 ((((rs.getD ((x).toNat) row0).ar).getD m arc0).t), .int .i64 ((((rs.getD ((x).toNat) row0).ar).getD m arc0).d)] 82, rowE 3 1 u ys.length (ys.map (Value.int .i64)), rowE 3 1 v5 ((delL true gs s rs.length).length) ((delL true gs s rs.length).map (Value.int .i64)), intoE v2 rs, boxE b1 #[.int .i64 n, v] 38]) (sub_cons (d := 11) rfl (sub_nil _)) (List.sublist_append_right _ _) ?_
                    exact rq_v (rv_ev rfl)
                  ·
                    intro vf pf hR
                    have e24 : (vf 24) = .bool false ∧ (pf 24) = [] := hR 24 (by decide)
                    have e26 : (vf 26) = .int .i64 ((((rs.getD ((x).toNat) row0).ar).getD m arc0).f) ∧ (pf 26) = [] := hR 26 (by decide)
                    have e27 : (vf 27) = .int .i64 b ∧ (pf 27) = [] := hR 27 (by decide)
                    refine Or.inl ⟨want_of (congrArg some e24.1) rfl, ?_⟩
                    refine rq_less (l' := [boxE b14 #[.int .i64 ((((rs.getD ((x).toNat) row0).ar).getD m arc0).f), .int .i64 ((((rs.getD ((x).toNat) row0).ar).getD m arc0).t), .int .i64 ((((rs.getD ((x).toNat) row0).ar).getD m arc0).d)] 82, rowE 3 1 u ys.length (ys.map (Value.int .i64)), rowE 3 1 v5 ((delL true gs s rs.length).length) ((delL true gs s rs.length).map (Value.int .i64)), intoE v2 rs, boxE b1 #[.int .i64 n, v] 38]) (sub_cons (d := 84) (congrArg some e26.1) (sub_cons (d := 85) (congrArg some e27.1) (sub_nil _))) (List.sublist_append_right _ _) ?_
                    exact rq_mono (rq_v (rv_cmp rfl rfl rfl rfl)) (fun _ _ h => ⟨h.1.trans (congrArg Value.bool hb18), h.2⟩)
                  ·
                    intro vf pf hR
                    have e21 : (vf 21) = .bool true ∧ (pf 21) = [] := hR 21 (by decide)
                    have e24 : (vf 24) = .bool false ∧ (pf 24) = [] := hR 24 (by decide)
                    have e28 : (vf 28) = .bool true ∧ (pf 28) = [] := hR 28 (by decide)
                    refine Or.inl ⟨want_of (congrArg some e21.1) rfl, ?_⟩
                    refine rq_less (l' := [boxE b14 #[.int .i64 ((((rs.getD ((x).toNat) row0).ar).getD m arc0).f), .int .i64 ((((rs.getD ((x).toNat) row0).ar).getD m arc0).t), .int .i64 ((((rs.getD ((x).toNat) row0).ar).getD m arc0).d)] 82, rowE 3 1 u ys.length (ys.map (Value.int .i64)), rowE 3 1 v5 ((delL true gs s rs.length).length) ((delL true gs s rs.length).map (Value.int .i64)), intoE v2 rs, boxE b1 #[.int .i64 n, v] 38]) (sub_cons (d := 82) (congrArg some e24.1) (sub_cons (d := 86) (congrArg some e28.1) (sub_nil _))) (List.sublist_append_right _ _) ?_
                    exact rq_v (rv_ev rfl)
                  ·
                    intro vf pf hR
                    have e21 : (vf 21) = .bool true ∧ (pf 21) = [] := hR 21 (by decide)
                    have e29 : (vf 29) = .bool true ∧ (pf 29) = [] := hR 29 (by decide)
                    refine Or.inl ⟨rfl, ?_⟩
                    refine rq_less (l' := [boxE b14 #[.int .i64 ((((rs.getD ((x).toNat) row0).ar).getD m arc0).f), .int .i64 ((((rs.getD ((x).toNat) row0).ar).getD m arc0).t), .int .i64 ((((rs.getD ((x).toNat) row0).ar).getD m arc0).d)] 82, rowE 3 1 u ys.length (ys.map (Value.int .i64)), rowE 3 1 v5 ((delL true gs s rs.length).length) ((delL true gs s rs.length).map (Value.int .i64)), intoE v2 rs, boxE b1 #[.int .i64 n, v] 38]) (sub_cons (d := 79) (congrArg some e21.1) (sub_cons (d := 87) (congrArg some e29.1) (sub_nil _))) (List.sublist_append_right _ _) ?_
                    exact rq_v (rv_ev rfl)
                ·
                  intro vf pf hR
                  have e30 : (vf 30) = .bool true ∧ (pf 30) = [] := hR 30 (by decide)
                  refine hl_less (l' := [boxE b14 #[.int .i64 ((((rs.getD ((x).toNat) row0).ar).getD m arc0).f), .int .i64 ((((rs.getD ((x).toNat) row0).ar).getD m arc0).t), .int .i64 ((((rs.getD ((x).toNat) row0).ar).getD m arc0).d)] 82, rowE 3 1 u ys.length (ys.map (Value.int .i64)), rowE 3 1 v5 ((delL true gs s rs.length).length) ((delL true gs s rs.length).map (Value.int .i64)), intoE v2 rs, boxE b1 #[.int .i64 n, v] 38]) (sub_cons (d := 0) rfl (sub_cons (d := 1) rfl (sub_cons (d := 2) rfl (sub_cons (d := 3) rfl (sub_cons (d := 6) rfl (sub_cons (d := 7) rfl (sub_cons (d := 8) rfl (sub_cons (d := 9) rfl (sub_cons (d := 10) rfl (sub_cons (d := 11) rfl (sub_cons (d := 13) rfl (sub_cons (d := 32) rfl (sub_cons (d := 42) rfl (sub_cons (d := 48) rfl (sub_cons (d := 52) rfl (sub_cons (d := 53) rfl (sub_cons (d := 54) rfl (sub_cons (d := 55) rfl (sub_cons (d := 88) (congrArg some e30.1) (sub_nil _)))))))))))))))))))) (List.sublist_append_right _ _) ?_
                  simp only [List.drop_succ_cons, List.drop_zero]
                  refine hl_less (sub_cons (d := 0) rfl (sub_cons (d := 1) rfl (sub_cons (d := 2) rfl (sub_cons (d := 3) rfl (sub_cons (d := 6) rfl (sub_cons (d := 7) rfl (sub_cons (d := 8) rfl (sub_cons (d := 9) rfl (sub_cons (d := 10) rfl (sub_cons (d := 11) rfl (sub_cons (d := 13) rfl (sub_cons (d := 32) rfl (sub_cons (d := 42) rfl (sub_cons (d := 48) rfl (sub_cons (d := 52) rfl (sub_cons (d := 53) rfl (sub_cons (d := 54) rfl (sub_cons (d := 55) rfl (sub_cons (d := 88) rfl (sub_nil _)))))))))))))))))))) (.refl _) ?_
                  refine hl_nil ?_
                  refine hq_then ?_
                  refine hc_true rfl ?_
                  refine hc_region ?_
                  refine hl_v rfl rfl rfl (rv_field (k0 := 0) rfl (by kernel_rfl) rfl) ?_
                  refine hl_v rfl rfl rfl (rv_load rfl (by kernel_rfl) rfl (box_cell 0 rfl rfl)) ?_
                  refine hl_v rfl rfl rfl (rv_ev rfl) ?_
                  refine hl_less (sub_cons (d := 0) rfl (sub_cons (d := 1) rfl (sub_cons (d := 2) rfl (sub_cons (d := 3) rfl (sub_cons (d := 6) rfl (sub_cons (d := 7) rfl (sub_cons (d := 8) rfl (sub_cons (d := 9) rfl (sub_cons (d := 10) rfl (sub_cons (d := 11) rfl (sub_cons (d := 13) rfl (sub_cons (d := 32) rfl (sub_cons (d := 42) rfl (sub_cons (d := 48) rfl (sub_cons (d := 52) rfl (sub_cons (d := 53) rfl (sub_cons (d := 54) rfl (sub_cons (d := 55) rfl (sub_cons (d := 88) rfl (sub_nil _)))))))))))))))))))) (.refl _) ?_
                  refine hl_nil ?_
                  refine hq_block_normal ?_
                  refine hq_then ?_
                  refine hc_region ?_
                  refine hl_v rfl rfl rfl (rv_add rfl rfl rfl (by constructor <;> omega)) ?_
                  refine hl_v rfl rfl rfl (rv_ev rfl) ?_
                  refine hl_less (sub_cons (d := 0) rfl (sub_cons (d := 1) rfl (sub_cons (d := 2) rfl (sub_cons (d := 3) rfl (sub_cons (d := 6) rfl (sub_cons (d := 7) rfl (sub_cons (d := 8) rfl (sub_cons (d := 9) rfl (sub_cons (d := 10) rfl (sub_cons (d := 11) rfl (sub_cons (d := 13) rfl (sub_cons (d := 32) rfl (sub_cons (d := 42) rfl (sub_cons (d := 48) rfl (sub_cons (d := 52) rfl (sub_cons (d := 53) rfl (sub_cons (d := 54) rfl (sub_cons (d := 55) rfl (sub_cons (d := 88) rfl (sub_nil _)))))))))))))))))))) (.refl _) ?_
                  refine hl_nil ?_
                  exact hq_round2 (m + 1) ((((rs.getD ((x).toNat) row0).ar).getD m arc0).f) ⟨by omega, by omega, .inr ⟨by omega, ((rs.getD ((x).toNat) row0).ar.getD m arc0), by rw [← hinx]; exact getD_mem' (by omega), rfl, by omega, by omega⟩⟩ (by omega) (sub_cons (d := 0) rfl (sub_cons (d := 1) rfl (sub_cons (d := 2) rfl (sub_cons (d := 3) rfl (sub_cons (d := 6) rfl (sub_cons (d := 7) rfl (sub_cons (d := 8) rfl (sub_cons (d := 9) rfl (sub_cons (d := 10) rfl (sub_cons (d := 11) rfl (sub_cons (d := 32) rfl (sub_cons (d := 42) rfl (sub_cons (d := 48) rfl (sub_cons (d := 52) rfl (sub_cons (d := 53) rfl (sub_cons (d := 54) rfl (sub_nil _))))))))))))))))) ((.cons _ (.cons_cons _ (.cons_cons _ (.cons_cons _ (.cons_cons _ .slnil))))))
              ·
                have hb18p : ¬ ((((rs.getD ((x).toNat) row0).ar).getD m arc0).f < b) := of_decide_eq_false hb18
                have hea : 0 ≤ ((rs.getD ((x).toNat) row0).ar.getD m arc0).f ∧ ((rs.getD ((x).toNat) row0).ar.getD m arc0).f < (x).toNat ∧ 0 ≤ ((rs.getD ((x).toNat) row0).ar.getD m arc0).d ∧ ((rs.getD ((x).toNat) row0).ar.getD m arc0).d ≤ 100 := by rw [hinx]; exact into_at hg (by rw [← hinx]; omega)
                have hdE : (delL true gs s rs.length).getD (((rs.getD ((x).toNat) row0).ar.getD m arc0).f).toNat 0 = Dl true gs s (((rs.getD ((x).toNat) row0).ar.getD m arc0).f).toNat := del_at _ _ _ _ _ (by omega)
                have hdb := Dl_bnd hg true s (((rs.getD ((x).toNat) row0).ar.getD m arc0).f).toNat
                refine hc_draw (by kernel_rfl) 31 [0, 1, 2, 3, 4, 5, 6, 7, 8, 9, 10, 11, 12, 13, 14, 15, 16, 17, 18, 19, 20, 21, 22, 23, 24, 25, 26, 27, 28, 29, 30] (List.take 31 _) (List.drop 31 _) [[], [], [1], [0, 2], [3], [4], [5], [6], [6], [6, 8], [6, 7, 9], [6, 10], [6], [6, 12], [6, 11, 13], [6], [6], [6, 15, 16], [6, 17], [6, 14, 18], [6, 19], [20], [21], [21, 22], [21, 23], [24], [24, 25], [24], [24, 26, 27], [21, 24, 28], [21, 29]] [58, 59, 60, 61, 62, 63, 64, 65, 66, 67, 68, 69, 70, 71, 72, 73, 74, 75, 76, 77, 78, 79, 80, 81, 82, 83, 84, 85, 86, 87, 88] (fun i_ vs_ v_ p_ => match i_ with | 0 => v_ = v5 ∧ p_ = [] | 1 => v_ = .pointer (some ⟨b14, 0 + 0, none⟩) ∧ p_ = [] | 2 => v_ = .int .i64 ((((rs.getD ((x).toNat) row0).ar).getD m arc0).f) ∧ p_ = [] | 3 => v_ = elP v5 (((((rs.getD ((x).toNat) row0).ar).getD m arc0).f).toNat * 1) ∧ p_ = [] | 4 => v_ = .int .i64 ((delL true gs s rs.length).getD (((((rs.getD ((x).toNat) row0).ar).getD m arc0).f).toNat) 0) ∧ p_ = [] | 5 => v_ = .bool true ∧ p_ = [] | 6 => v_ = .bool true ∧ p_ = [] | 7 => v_ = v5 ∧ p_ = [] | 8 => v_ = .pointer (some ⟨b14, 0 + 0, none⟩) ∧ p_ = [] | 9 => v_ = .int .i64 ((((rs.getD ((x).toNat) row0).ar).getD m arc0).f) ∧ p_ = [] | 10 => v_ = elP v5 (((((rs.getD ((x).toNat) row0).ar).getD m arc0).f).toNat * 1) ∧ p_ = [] | 11 => v_ = .int .i64 ((delL true gs s rs.length).getD (((((rs.getD ((x).toNat) row0).ar).getD m arc0).f).toNat) 0) ∧ p_ = [] | 12 => v_ = .pointer (some ⟨b14, 0 + 2, none⟩) ∧ p_ = [] | 13 => v_ = .int .i64 ((((rs.getD ((x).toNat) row0).ar).getD m arc0).d) ∧ p_ = [] | 14 => v_ = .int .i64 (((delL true gs s rs.length).getD (((((rs.getD ((x).toNat) row0).ar).getD m arc0).f).toNat) 0) + ((((rs.getD ((x).toNat) row0).ar).getD m arc0).d)) ∧ p_ = [] | 15 => v_ = v5 ∧ p_ = [] | 16 => v_ = .int .i64 x ∧ p_ = [] | 17 => v_ = elP v5 ((x).toNat * 1) ∧ p_ = [] | 18 => v_ = .int .i64 ((delL true gs s rs.length).getD ((x).toNat) 0) ∧ p_ = [] | 19 => v_ = .bool true ∧ p_ = [] | 20 => v_ = .bool true ∧ p_ = [] | 21 => v_ = .bool true ∧ p_ = [] | 22 => v_ = .int .i64 b ∧ p_ = [] | 23 => v_ = .bool false ∧ p_ = [] | 24 => v_ = .bool false ∧ p_ = [] | 25 => v_ = .pointer (some ⟨b14, 0 + 0, none⟩) ∧ p_ = [] | 26 => v_ = .int .i64 ((((rs.getD ((x).toNat) row0).ar).getD m arc0).f) ∧ p_ = [] | 27 => v_ = .int .i64 b ∧ p_ = [] | 28 => v_ = .bool false ∧ p_ = [] | 29 => v_ = .bool false ∧ p_ = [] | 30 => v_ = .bool false ∧ p_ = [] | _ => True) (List.take_append_drop 31 _).symm (by kernel_rfl) (by kernel_rfl) rfl rfl ?_ ?_
                ·
                  refine ⟨?_, ?_, ?_, ?_, ?_, ?_, ?_, ?_, ?_, ?_, ?_, ?_, ?_, ?_, ?_, ?_, ?_, ?_, ?_, ?_, ?_, ?_, ?_, ?_, ?_, ?_, ?_, ?_, ?_, ?_, ?_, trivial⟩
                  ·
                    intro vf pf hR
                    refine Or.inl ⟨rfl, ?_⟩
                    refine rq_less (l' := [boxE b14 #[.int .i64 ((((rs.getD ((x).toNat) row0).ar).getD m arc0).f), .int .i64 ((((rs.getD ((x).toNat) row0).ar).getD m arc0).t), .int .i64 ((((rs.getD ((x).toNat) row0).ar).getD m arc0).d)] 82, rowE 3 1 u ys.length (ys.map (Value.int .i64)), rowE 3 1 v5 ((delL true gs s rs.length).length) ((delL true gs s rs.length).map (Value.int .i64)), intoE v2 rs, boxE b1 #[.int .i64 n, v] 38]) (sub_cons (d := 8) rfl (sub_nil _)) (List.sublist_append_right _ _) ?_
                    exact rq_v (rv_ev rfl)
                  ·
                    intro vf pf hR
                    refine Or.inl ⟨rfl, ?_⟩
                    refine rq_less (l' := [boxE b14 #[.int .i64 ((((rs.getD ((x).toNat) row0).ar).getD m arc0).f), .int .i64 ((((rs.getD ((x).toNat) row0).ar).getD m arc0).t), .int .i64 ((((rs.getD ((x).toNat) row0).ar).getD m arc0).d)] 82, rowE 3 1 u ys.length (ys.map (Value.int .i64)), rowE 3 1 v5 ((delL true gs s rs.length).length) ((delL true gs s rs.length).map (Value.int .i64)), intoE v2 rs, boxE b1 #[.int .i64 n, v] 38]) (sub_cons (d := 13) rfl (sub_nil _)) (List.sublist_append_right _ _) ?_
                    exact rq_v (rv_field (k0 := 0) rfl (by kernel_rfl) rfl)
                  ·
                    intro vf pf hR
                    have e1 : (vf 1) = .pointer (some ⟨b14, 0 + 0, none⟩) ∧ (pf 1) = [] := hR 1 (by decide)
                    refine Or.inl ⟨rfl, ?_⟩
                    refine rq_less (l' := [boxE b14 #[.int .i64 ((((rs.getD ((x).toNat) row0).ar).getD m arc0).f), .int .i64 ((((rs.getD ((x).toNat) row0).ar).getD m arc0).t), .int .i64 ((((rs.getD ((x).toNat) row0).ar).getD m arc0).d)] 82, rowE 3 1 u ys.length (ys.map (Value.int .i64)), rowE 3 1 v5 ((delL true gs s rs.length).length) ((delL true gs s rs.length).map (Value.int .i64)), intoE v2 rs, boxE b1 #[.int .i64 n, v] 38]) (sub_cons (d := 59) (congrArg some e1.1) (sub_nil _)) (List.sublist_append_right _ _) ?_
                    exact rq_v (rv_load rfl (by kernel_rfl) rfl (box_cell 0 rfl rfl))
                  ·
                    intro vf pf hR
                    have e0 : (vf 0) = v5 ∧ (pf 0) = [] := hR 0 (by decide)
                    have e2 : (vf 2) = .int .i64 ((((rs.getD ((x).toNat) row0).ar).getD m arc0).f) ∧ (pf 2) = [] := hR 2 (by decide)
                    refine Or.inl ⟨rfl, ?_⟩
                    refine rq_less (l' := [boxE b14 #[.int .i64 ((((rs.getD ((x).toNat) row0).ar).getD m arc0).f), .int .i64 ((((rs.getD ((x).toNat) row0).ar).getD m arc0).t), .int .i64 ((((rs.getD ((x).toNat) row0).ar).getD m arc0).d)] 82, rowE 3 1 u ys.length (ys.map (Value.int .i64)), rowE 3 1 v5 ((delL true gs s rs.length).length) ((delL true gs s rs.length).map (Value.int .i64)), intoE v2 rs, boxE b1 #[.int .i64 n, v] 38]) (sub_cons (d := 58) (congrArg some e0.1) (sub_cons (d := 60) (congrArg some e2.1) (sub_nil _))) (List.sublist_append_right _ _) ?_
                    exact rq_v (rv_index (s := 1) rfl Try.underlying43 (by kernel_rfl) rfl rfl (rd_row 2 rfl) (by omega) (by first | omega | (simp only [List.length_set]; omega)))
                  ·
                    intro vf pf hR
                    have e3 : (vf 3) = elP v5 (((((rs.getD ((x).toNat) row0).ar).getD m arc0).f).toNat * 1) ∧ (pf 3) = [] := hR 3 (by decide)
                    refine Or.inl ⟨rfl, ?_⟩
                    refine rq_less (l' := [boxE b14 #[.int .i64 ((((rs.getD ((x).toNat) row0).ar).getD m arc0).f), .int .i64 ((((rs.getD ((x).toNat) row0).ar).getD m arc0).t), .int .i64 ((((rs.getD ((x).toNat) row0).ar).getD m arc0).d)] 82, rowE 3 1 u ys.length (ys.map (Value.int .i64)), rowE 3 1 v5 ((delL true gs s rs.length).length) ((delL true gs s rs.length).map (Value.int .i64)), intoE v2 rs, boxE b1 #[.int .i64 n, v] 38]) (sub_cons (d := 61) (congrArg some e3.1) (sub_nil _)) (List.sublist_append_right _ _) ?_
                    exact rq_v (rv_loadEl (u := .int .i64 ((delL true gs s rs.length).getD (((((rs.getD ((x).toNat) row0).ar).getD m arc0).f).toNat) 0)) rfl (by kernel_rfl) rfl (rd_row 2 rfl) (ints_at1 (show _ < (delL true gs s rs.length).length by first | omega | (simp only [List.length_set]; omega))))
                  ·
                    intro vf pf hR
                    have e4 : (vf 4) = .int .i64 ((delL true gs s rs.length).getD (((((rs.getD ((x).toNat) row0).ar).getD m arc0).f).toNat) 0) ∧ (pf 4) = [] := hR 4 (by decide)
                    refine Or.inl ⟨rfl, ?_⟩
                    refine rq_less (l' := [boxE b14 #[.int .i64 ((((rs.getD ((x).toNat) row0).ar).getD m arc0).f), .int .i64 ((((rs.getD ((x).toNat) row0).ar).getD m arc0).t), .int .i64 ((((rs.getD ((x).toNat) row0).ar).getD m arc0).d)] 82, rowE 3 1 u ys.length (ys.map (Value.int .i64)), rowE 3 1 v5 ((delL true gs s rs.length).length) ((delL true gs s rs.length).map (Value.int .i64)), intoE v2 rs, boxE b1 #[.int .i64 n, v] 38]) (sub_cons (d := 62) (congrArg some e4.1) (sub_nil _)) (List.sublist_append_right _ _) ?_
                    exact rq_mono (rq_v (rv_cmp rfl rfl rfl rfl)) (fun _ _ h => ⟨h.1.trans (congrArg Value.bool hb15), h.2⟩)
                  ·
                    intro vf pf hR
                    have e5 : (vf 5) = .bool true ∧ (pf 5) = [] := hR 5 (by decide)
                    refine Or.inl ⟨rfl, ?_⟩
                    refine rq_less (l' := [boxE b14 #[.int .i64 ((((rs.getD ((x).toNat) row0).ar).getD m arc0).f), .int .i64 ((((rs.getD ((x).toNat) row0).ar).getD m arc0).t), .int .i64 ((((rs.getD ((x).toNat) row0).ar).getD m arc0).d)] 82, rowE 3 1 u ys.length (ys.map (Value.int .i64)), rowE 3 1 v5 ((delL true gs s rs.length).length) ((delL true gs s rs.length).map (Value.int .i64)), intoE v2 rs, boxE b1 #[.int .i64 n, v] 38]) (sub_cons (d := 63) (congrArg some e5.1) (sub_nil _)) (List.sublist_append_right _ _) ?_
                    exact rq_v (rv_ev rfl)
                  ·
                    intro vf pf hR
                    have e6 : (vf 6) = .bool true ∧ (pf 6) = [] := hR 6 (by decide)
                    refine Or.inl ⟨want_of (congrArg some e6.1) rfl, ?_⟩
                    refine rq_less (l' := [boxE b14 #[.int .i64 ((((rs.getD ((x).toNat) row0).ar).getD m arc0).f), .int .i64 ((((rs.getD ((x).toNat) row0).ar).getD m arc0).t), .int .i64 ((((rs.getD ((x).toNat) row0).ar).getD m arc0).d)] 82, rowE 3 1 u ys.length (ys.map (Value.int .i64)), rowE 3 1 v5 ((delL true gs s rs.length).length) ((delL true gs s rs.length).map (Value.int .i64)), intoE v2 rs, boxE b1 #[.int .i64 n, v] 38]) (sub_cons (d := 8) rfl (sub_nil _)) (List.sublist_append_right _ _) ?_
                    exact rq_v (rv_ev rfl)
                  ·
                    intro vf pf hR
                    have e6 : (vf 6) = .bool true ∧ (pf 6) = [] := hR 6 (by decide)
                    refine Or.inl ⟨want_of (congrArg some e6.1) rfl, ?_⟩
                    refine rq_less (l' := [boxE b14 #[.int .i64 ((((rs.getD ((x).toNat) row0).ar).getD m arc0).f), .int .i64 ((((rs.getD ((x).toNat) row0).ar).getD m arc0).t), .int .i64 ((((rs.getD ((x).toNat) row0).ar).getD m arc0).d)] 82, rowE 3 1 u ys.length (ys.map (Value.int .i64)), rowE 3 1 v5 ((delL true gs s rs.length).length) ((delL true gs s rs.length).map (Value.int .i64)), intoE v2 rs, boxE b1 #[.int .i64 n, v] 38]) (sub_cons (d := 13) rfl (sub_nil _)) (List.sublist_append_right _ _) ?_
                    exact rq_v (rv_field (k0 := 0) rfl (by kernel_rfl) rfl)
                  ·
                    intro vf pf hR
                    have e6 : (vf 6) = .bool true ∧ (pf 6) = [] := hR 6 (by decide)
                    have e8 : (vf 8) = .pointer (some ⟨b14, 0 + 0, none⟩) ∧ (pf 8) = [] := hR 8 (by decide)
                    refine Or.inl ⟨want_of (congrArg some e6.1) rfl, ?_⟩
                    refine rq_less (l' := [boxE b14 #[.int .i64 ((((rs.getD ((x).toNat) row0).ar).getD m arc0).f), .int .i64 ((((rs.getD ((x).toNat) row0).ar).getD m arc0).t), .int .i64 ((((rs.getD ((x).toNat) row0).ar).getD m arc0).d)] 82, rowE 3 1 u ys.length (ys.map (Value.int .i64)), rowE 3 1 v5 ((delL true gs s rs.length).length) ((delL true gs s rs.length).map (Value.int .i64)), intoE v2 rs, boxE b1 #[.int .i64 n, v] 38]) (sub_cons (d := 66) (congrArg some e8.1) (sub_nil _)) (List.sublist_append_right _ _) ?_
                    exact rq_v (rv_load rfl (by kernel_rfl) rfl (box_cell 0 rfl rfl))
                  ·
                    intro vf pf hR
                    have e6 : (vf 6) = .bool true ∧ (pf 6) = [] := hR 6 (by decide)
                    have e7 : (vf 7) = v5 ∧ (pf 7) = [] := hR 7 (by decide)
                    have e9 : (vf 9) = .int .i64 ((((rs.getD ((x).toNat) row0).ar).getD m arc0).f) ∧ (pf 9) = [] := hR 9 (by decide)
                    refine Or.inl ⟨want_of (congrArg some e6.1) rfl, ?_⟩
                    refine rq_less (l' := [boxE b14 #[.int .i64 ((((rs.getD ((x).toNat) row0).ar).getD m arc0).f), .int .i64 ((((rs.getD ((x).toNat) row0).ar).getD m arc0).t), .int .i64 ((((rs.getD ((x).toNat) row0).ar).getD m arc0).d)] 82, rowE 3 1 u ys.length (ys.map (Value.int .i64)), rowE 3 1 v5 ((delL true gs s rs.length).length) ((delL true gs s rs.length).map (Value.int .i64)), intoE v2 rs, boxE b1 #[.int .i64 n, v] 38]) (sub_cons (d := 65) (congrArg some e7.1) (sub_cons (d := 67) (congrArg some e9.1) (sub_nil _))) (List.sublist_append_right _ _) ?_
                    exact rq_v (rv_index (s := 1) rfl Try.underlying43 (by kernel_rfl) rfl rfl (rd_row 2 rfl) (by omega) (by first | omega | (simp only [List.length_set]; omega)))
                  ·
                    intro vf pf hR
                    have e6 : (vf 6) = .bool true ∧ (pf 6) = [] := hR 6 (by decide)
                    have e10 : (vf 10) = elP v5 (((((rs.getD ((x).toNat) row0).ar).getD m arc0).f).toNat * 1) ∧ (pf 10) = [] := hR 10 (by decide)
                    refine Or.inl ⟨want_of (congrArg some e6.1) rfl, ?_⟩
                    refine rq_less (l' := [boxE b14 #[.int .i64 ((((rs.getD ((x).toNat) row0).ar).getD m arc0).f), .int .i64 ((((rs.getD ((x).toNat) row0).ar).getD m arc0).t), .int .i64 ((((rs.getD ((x).toNat) row0).ar).getD m arc0).d)] 82, rowE 3 1 u ys.length (ys.map (Value.int .i64)), rowE 3 1 v5 ((delL true gs s rs.length).length) ((delL true gs s rs.length).map (Value.int .i64)), intoE v2 rs, boxE b1 #[.int .i64 n, v] 38]) (sub_cons (d := 68) (congrArg some e10.1) (sub_nil _)) (List.sublist_append_right _ _) ?_
                    exact rq_v (rv_loadEl (u := .int .i64 ((delL true gs s rs.length).getD (((((rs.getD ((x).toNat) row0).ar).getD m arc0).f).toNat) 0)) rfl (by kernel_rfl) rfl (rd_row 2 rfl) (ints_at1 (show _ < (delL true gs s rs.length).length by first | omega | (simp only [List.length_set]; omega))))
                  ·
                    intro vf pf hR
                    have e6 : (vf 6) = .bool true ∧ (pf 6) = [] := hR 6 (by decide)
                    refine Or.inl ⟨want_of (congrArg some e6.1) rfl, ?_⟩
                    refine rq_less (l' := [boxE b14 #[.int .i64 ((((rs.getD ((x).toNat) row0).ar).getD m arc0).f), .int .i64 ((((rs.getD ((x).toNat) row0).ar).getD m arc0).t), .int .i64 ((((rs.getD ((x).toNat) row0).ar).getD m arc0).d)] 82, rowE 3 1 u ys.length (ys.map (Value.int .i64)), rowE 3 1 v5 ((delL true gs s rs.length).length) ((delL true gs s rs.length).map (Value.int .i64)), intoE v2 rs, boxE b1 #[.int .i64 n, v] 38]) (sub_cons (d := 13) rfl (sub_nil _)) (List.sublist_append_right _ _) ?_
                    exact rq_v (rv_field (k0 := 2) rfl (by kernel_rfl) rfl)
                  ·
                    intro vf pf hR
                    have e6 : (vf 6) = .bool true ∧ (pf 6) = [] := hR 6 (by decide)
                    have e12 : (vf 12) = .pointer (some ⟨b14, 0 + 2, none⟩) ∧ (pf 12) = [] := hR 12 (by decide)
                    refine Or.inl ⟨want_of (congrArg some e6.1) rfl, ?_⟩
                    refine rq_less (l' := [boxE b14 #[.int .i64 ((((rs.getD ((x).toNat) row0).ar).getD m arc0).f), .int .i64 ((((rs.getD ((x).toNat) row0).ar).getD m arc0).t), .int .i64 ((((rs.getD ((x).toNat) row0).ar).getD m arc0).d)] 82, rowE 3 1 u ys.length (ys.map (Value.int .i64)), rowE 3 1 v5 ((delL true gs s rs.length).length) ((delL true gs s rs.length).map (Value.int .i64)), intoE v2 rs, boxE b1 #[.int .i64 n, v] 38]) (sub_cons (d := 70) (congrArg some e12.1) (sub_nil _)) (List.sublist_append_right _ _) ?_
                    exact rq_v (rv_load rfl (by kernel_rfl) rfl (box_cell 0 rfl rfl))
                  ·
                    intro vf pf hR
                    have e6 : (vf 6) = .bool true ∧ (pf 6) = [] := hR 6 (by decide)
                    have e11 : (vf 11) = .int .i64 ((delL true gs s rs.length).getD (((((rs.getD ((x).toNat) row0).ar).getD m arc0).f).toNat) 0) ∧ (pf 11) = [] := hR 11 (by decide)
                    have e13 : (vf 13) = .int .i64 ((((rs.getD ((x).toNat) row0).ar).getD m arc0).d) ∧ (pf 13) = [] := hR 13 (by decide)
                    refine Or.inl ⟨want_of (congrArg some e6.1) rfl, ?_⟩
                    refine rq_less (l' := [boxE b14 #[.int .i64 ((((rs.getD ((x).toNat) row0).ar).getD m arc0).f), .int .i64 ((((rs.getD ((x).toNat) row0).ar).getD m arc0).t), .int .i64 ((((rs.getD ((x).toNat) row0).ar).getD m arc0).d)] 82, rowE 3 1 u ys.length (ys.map (Value.int .i64)), rowE 3 1 v5 ((delL true gs s rs.length).length) ((delL true gs s rs.length).map (Value.int .i64)), intoE v2 rs, boxE b1 #[.int .i64 n, v] 38]) (sub_cons (d := 69) (congrArg some e11.1) (sub_cons (d := 71) (congrArg some e13.1) (sub_nil _))) (List.sublist_append_right _ _) ?_
                    exact rq_v (rv_add rfl rfl rfl (by constructor <;> omega))
                  ·
                    intro vf pf hR
                    have e6 : (vf 6) = .bool true ∧ (pf 6) = [] := hR 6 (by decide)
                    refine Or.inl ⟨want_of (congrArg some e6.1) rfl, ?_⟩
                    refine rq_less (l' := [boxE b14 #[.int .i64 ((((rs.getD ((x).toNat) row0).ar).getD m arc0).f), .int .i64 ((((rs.getD ((x).toNat) row0).ar).getD m arc0).t), .int .i64 ((((rs.getD ((x).toNat) row0).ar).getD m arc0).d)] 82, rowE 3 1 u ys.length (ys.map (Value.int .i64)), rowE 3 1 v5 ((delL true gs s rs.length).length) ((delL true gs s rs.length).map (Value.int .i64)), intoE v2 rs, boxE b1 #[.int .i64 n, v] 38]) (sub_cons (d := 8) rfl (sub_nil _)) (List.sublist_append_right _ _) ?_
                    exact rq_v (rv_ev rfl)
                  ·
                    intro vf pf hR
                    have e6 : (vf 6) = .bool true ∧ (pf 6) = [] := hR 6 (by decide)
                    refine Or.inl ⟨want_of (congrArg some e6.1) rfl, ?_⟩
                    refine rq_less (l' := [boxE b14 #[.int .i64 ((((rs.getD ((x).toNat) row0).ar).getD m arc0).f), .int .i64 ((((rs.getD ((x).toNat) row0).ar).getD m arc0).t), .int .i64 ((((rs.getD ((x).toNat) row0).ar).getD m arc0).d)] 82, rowE 3 1 u ys.length (ys.map (Value.int .i64)), rowE 3 1 v5 ((delL true gs s rs.length).length) ((delL true gs s rs.length).map (Value.int .i64)), intoE v2 rs, boxE b1 #[.int .i64 n, v] 38]) (sub_cons (d := 10) rfl (sub_nil _)) (List.sublist_append_right _ _) ?_
                    exact rq_v (rv_ev rfl)
                  ·
                    intro vf pf hR
                    have e6 : (vf 6) = .bool true ∧ (pf 6) = [] := hR 6 (by decide)
                    have e15 : (vf 15) = v5 ∧ (pf 15) = [] := hR 15 (by decide)
                    have e16 : (vf 16) = .int .i64 x ∧ (pf 16) = [] := hR 16 (by decide)
                    refine Or.inl ⟨want_of (congrArg some e6.1) rfl, ?_⟩
                    refine rq_less (l' := [boxE b14 #[.int .i64 ((((rs.getD ((x).toNat) row0).ar).getD m arc0).f), .int .i64 ((((rs.getD ((x).toNat) row0).ar).getD m arc0).t), .int .i64 ((((rs.getD ((x).toNat) row0).ar).getD m arc0).d)] 82, rowE 3 1 u ys.length (ys.map (Value.int .i64)), rowE 3 1 v5 ((delL true gs s rs.length).length) ((delL true gs s rs.length).map (Value.int .i64)), intoE v2 rs, boxE b1 #[.int .i64 n, v] 38]) (sub_cons (d := 73) (congrArg some e15.1) (sub_cons (d := 74) (congrArg some e16.1) (sub_nil _))) (List.sublist_append_right _ _) ?_
                    exact rq_v (rv_index (s := 1) rfl Try.underlying43 (by kernel_rfl) rfl rfl (rd_row 2 rfl) (by omega) (by first | omega | (simp only [List.length_set]; omega)))
                  ·
                    intro vf pf hR
                    have e6 : (vf 6) = .bool true ∧ (pf 6) = [] := hR 6 (by decide)
                    have e17 : (vf 17) = elP v5 ((x).toNat * 1) ∧ (pf 17) = [] := hR 17 (by decide)
                    refine Or.inl ⟨want_of (congrArg some e6.1) rfl, ?_⟩
                    refine rq_less (l' := [boxE b14 #[.int .i64 ((((rs.getD ((x).toNat) row0).ar).getD m arc0).f), .int .i64 ((((rs.getD ((x).toNat) row0).ar).getD m arc0).t), .int .i64 ((((rs.getD ((x).toNat) row0).ar).getD m arc0).d)] 82, rowE 3 1 u ys.length (ys.map (Value.int .i64)), rowE 3 1 v5 ((delL true gs s rs.length).length) ((delL true gs s rs.length).map (Value.int .i64)), intoE v2 rs, boxE b1 #[.int .i64 n, v] 38]) (sub_cons (d := 75) (congrArg some e17.1) (sub_nil _)) (List.sublist_append_right _ _) ?_
                    exact rq_v (rv_loadEl (u := .int .i64 ((delL true gs s rs.length).getD ((x).toNat) 0)) rfl (by kernel_rfl) rfl (rd_row 2 rfl) (ints_at1 (show _ < (delL true gs s rs.length).length by first | omega | (simp only [List.length_set]; omega))))
                  ·
                    intro vf pf hR
                    have e6 : (vf 6) = .bool true ∧ (pf 6) = [] := hR 6 (by decide)
                    have e14 : (vf 14) = .int .i64 (((delL true gs s rs.length).getD (((((rs.getD ((x).toNat) row0).ar).getD m arc0).f).toNat) 0) + ((((rs.getD ((x).toNat) row0).ar).getD m arc0).d)) ∧ (pf 14) = [] := hR 14 (by decide)
                    have e18 : (vf 18) = .int .i64 ((delL true gs s rs.length).getD ((x).toNat) 0) ∧ (pf 18) = [] := hR 18 (by decide)
                    refine Or.inl ⟨want_of (congrArg some e6.1) rfl, ?_⟩
                    refine rq_less (l' := [boxE b14 #[.int .i64 ((((rs.getD ((x).toNat) row0).ar).getD m arc0).f), .int .i64 ((((rs.getD ((x).toNat) row0).ar).getD m arc0).t), .int .i64 ((((rs.getD ((x).toNat) row0).ar).getD m arc0).d)] 82, rowE 3 1 u ys.length (ys.map (Value.int .i64)), rowE 3 1 v5 ((delL true gs s rs.length).length) ((delL true gs s rs.length).map (Value.int .i64)), intoE v2 rs, boxE b1 #[.int .i64 n, v] 38]) (sub_cons (d := 72) (congrArg some e14.1) (sub_cons (d := 76) (congrArg some e18.1) (sub_nil _))) (List.sublist_append_right _ _) ?_
                    exact rq_mono (rq_v (rv_cmp rfl rfl rfl rfl)) (fun _ _ h => ⟨h.1.trans (congrArg Value.bool hb16), h.2⟩)
                  ·
                    intro vf pf hR
                    have e6 : (vf 6) = .bool true ∧ (pf 6) = [] := hR 6 (by decide)
                    have e19 : (vf 19) = .bool true ∧ (pf 19) = [] := hR 19 (by decide)
                    refine Or.inl ⟨rfl, ?_⟩
                    refine rq_less (l' := [boxE b14 #[.int .i64 ((((rs.getD ((x).toNat) row0).ar).getD m arc0).f), .int .i64 ((((rs.getD ((x).toNat) row0).ar).getD m arc0).t), .int .i64 ((((rs.getD ((x).toNat) row0).ar).getD m arc0).d)] 82, rowE 3 1 u ys.length (ys.map (Value.int .i64)), rowE 3 1 v5 ((delL true gs s rs.length).length) ((delL true gs s rs.length).map (Value.int .i64)), intoE v2 rs, boxE b1 #[.int .i64 n, v] 38]) (sub_cons (d := 64) (congrArg some e6.1) (sub_cons (d := 77) (congrArg some e19.1) (sub_nil _))) (List.sublist_append_right _ _) ?_
                    exact rq_v (rv_ev rfl)
                  ·
                    intro vf pf hR
                    have e20 : (vf 20) = .bool true ∧ (pf 20) = [] := hR 20 (by decide)
                    refine Or.inl ⟨rfl, ?_⟩
                    refine rq_less (l' := [boxE b14 #[.int .i64 ((((rs.getD ((x).toNat) row0).ar).getD m arc0).f), .int .i64 ((((rs.getD ((x).toNat) row0).ar).getD m arc0).t), .int .i64 ((((rs.getD ((x).toNat) row0).ar).getD m arc0).d)] 82, rowE 3 1 u ys.length (ys.map (Value.int .i64)), rowE 3 1 v5 ((delL true gs s rs.length).length) ((delL true gs s rs.length).map (Value.int .i64)), intoE v2 rs, boxE b1 #[.int .i64 n, v] 38]) (sub_cons (d := 78) (congrArg some e20.1) (sub_nil _)) (List.sublist_append_right _ _) ?_
                    exact rq_v (rv_ev rfl)
                  ·
                    intro vf pf hR
                    have e21 : (vf 21) = .bool true ∧ (pf 21) = [] := hR 21 (by decide)
                    refine Or.inl ⟨want_of (congrArg some e21.1) rfl, ?_⟩
                    refine rq_less (l' := [boxE b14 #[.int .i64 ((((rs.getD ((x).toNat) row0).ar).getD m arc0).f), .int .i64 ((((rs.getD ((x).toNat) row0).ar).getD m arc0).t), .int .i64 ((((rs.getD ((x).toNat) row0).ar).getD m arc0).d)] 82, rowE 3 1 u ys.length (ys.map (Value.int .i64)), rowE 3 1 v5 ((delL true gs s rs.length).length) ((delL true gs s rs.length).map (Value.int .i64)), intoE v2 rs, boxE b1 #[.int .i64 n, v] 38]) (sub_cons (d := 11) rfl (sub_nil _)) (List.sublist_append_right _ _) ?_
                    exact rq_v (rv_ev rfl)
                  ·
                    intro vf pf hR
                    have e21 : (vf 21) = .bool true ∧ (pf 21) = [] := hR 21 (by decide)
                    have e22 : (vf 22) = .int .i64 b ∧ (pf 22) = [] := hR 22 (by decide)
                    refine Or.inl ⟨want_of (congrArg some e21.1) rfl, ?_⟩
                    refine rq_less (l' := [boxE b14 #[.int .i64 ((((rs.getD ((x).toNat) row0).ar).getD m arc0).f), .int .i64 ((((rs.getD ((x).toNat) row0).ar).getD m arc0).t), .int .i64 ((((rs.getD ((x).toNat) row0).ar).getD m arc0).d)] 82, rowE 3 1 u ys.length (ys.map (Value.int .i64)), rowE 3 1 v5 ((delL true gs s rs.length).length) ((delL true gs s rs.length).map (Value.int .i64)), intoE v2 rs, boxE b1 #[.int .i64 n, v] 38]) (sub_cons (d := 80) (congrArg some e22.1) (sub_nil _)) (List.sublist_append_right _ _) ?_
                    exact rq_mono (rq_v (rv_cmp rfl rfl rfl rfl)) (fun _ _ h => ⟨h.1.trans (congrArg Value.bool hb17), h.2⟩)
                  ·
                    intro vf pf hR
                    have e21 : (vf 21) = .bool true ∧ (pf 21) = [] := hR 21 (by decide)
                    have e23 : (vf 23) = .bool false ∧ (pf 23) = [] := hR 23 (by decide)
                    refine Or.inl ⟨want_of (congrArg some e21.1) rfl, ?_⟩
                    refine rq_less (l' := [boxE b14 #[.int .i64 ((((rs.getD ((x).toNat) row0).ar).getD m arc0).f), .int .i64 ((((rs.getD ((x).toNat) row0).ar).getD m arc0).t), .int .i64 ((((rs.getD ((x).toNat) row0).ar).getD m arc0).d)] 82, rowE 3 1 u ys.length (ys.map (Value.int .i64)), rowE 3 1 v5 ((delL true gs s rs.length).length) ((delL true gs s rs.length).map (Value.int .i64)), intoE v2 rs, boxE b1 #[.int .i64 n, v] 38]) (sub_cons (d := 81) (congrArg some e23.1) (sub_nil _)) (List.sublist_append_right _ _) ?_
                    exact rq_v (rv_ev rfl)
                  ·
                    intro vf pf hR
                    have e24 : (vf 24) = .bool false ∧ (pf 24) = [] := hR 24 (by decide)
                    refine Or.inl ⟨want_of (congrArg some e24.1) rfl, ?_⟩
                    refine rq_less (l' := [boxE b14 #[.int .i64 ((((rs.getD ((x).toNat) row0).ar).getD m arc0).f), .int .i64 ((((rs.getD ((x).toNat) row0).ar).getD m arc0).t), .int .i64 ((((rs.getD ((x).toNat) row0).ar).getD m arc0).d)] 82, rowE 3 1 u ys.length (ys.map (Value.int .i64)), rowE 3 1 v5 ((delL true gs s rs.length).length) ((delL true gs s rs.length).map (Value.int .i64)), intoE v2 rs, boxE b1 #[.int .i64 n, v] 38]) (sub_cons (d := 13) rfl (sub_nil _)) (List.sublist_append_right _ _) ?_
                    exact rq_v (rv_field (k0 := 0) rfl (by kernel_rfl) rfl)
                  ·
                    intro vf pf hR
                    have e24 : (vf 24) = .bool false ∧ (pf 24) = [] := hR 24 (by decide)
                    have e25 : (vf 25) = .pointer (some ⟨b14, 0 + 0, none⟩) ∧ (pf 25) = [] := hR 25 (by decide)
                    refine Or.inl ⟨want_of (congrArg some e24.1) rfl, ?_⟩
                    refine rq_less (l' := [boxE b14 #[.int .i64 ((((rs.getD ((x).toNat) row0).ar).getD m arc0).f), .int .i64 ((((rs.getD ((x).toNat) row0).ar).getD m arc0).t), .int .i64 ((((rs.getD ((x).toNat) row0).ar).getD m arc0).d)] 82, rowE 3 1 u ys.length (ys.map (Value.int .i64)), rowE 3 1 v5 ((delL true gs s rs.length).length) ((delL true gs s rs.length).map (Value.int .i64)), intoE v2 rs, boxE b1 #[.int .i64 n, v] 38]) (sub_cons (d := 83) (congrArg some e25.1) (sub_nil _)) (List.sublist_append_right _ _) ?_
                    exact rq_v (rv_load rfl (by kernel_rfl) rfl (box_cell 0 rfl rfl))
                  ·
                    intro vf pf hR
                    have e24 : (vf 24) = .bool false ∧ (pf 24) = [] := hR 24 (by decide)
                    refine Or.inl ⟨want_of (congrArg some e24.1) rfl, ?_⟩
                    refine rq_less (l' := [boxE b14 #[.int .i64 ((((rs.getD ((x).toNat) row0).ar).getD m arc0).f), .int .i64 ((((rs.getD ((x).toNat) row0).ar).getD m arc0).t), .int .i64 ((((rs.getD ((x).toNat) row0).ar).getD m arc0).d)] 82, rowE 3 1 u ys.length (ys.map (Value.int .i64)), rowE 3 1 v5 ((delL true gs s rs.length).length) ((delL true gs s rs.length).map (Value.int .i64)), intoE v2 rs, boxE b1 #[.int .i64 n, v] 38]) (sub_cons (d := 11) rfl (sub_nil _)) (List.sublist_append_right _ _) ?_
                    exact rq_v (rv_ev rfl)
                  ·
                    intro vf pf hR
                    have e24 : (vf 24) = .bool false ∧ (pf 24) = [] := hR 24 (by decide)
                    have e26 : (vf 26) = .int .i64 ((((rs.getD ((x).toNat) row0).ar).getD m arc0).f) ∧ (pf 26) = [] := hR 26 (by decide)
                    have e27 : (vf 27) = .int .i64 b ∧ (pf 27) = [] := hR 27 (by decide)
                    refine Or.inl ⟨want_of (congrArg some e24.1) rfl, ?_⟩
                    refine rq_less (l' := [boxE b14 #[.int .i64 ((((rs.getD ((x).toNat) row0).ar).getD m arc0).f), .int .i64 ((((rs.getD ((x).toNat) row0).ar).getD m arc0).t), .int .i64 ((((rs.getD ((x).toNat) row0).ar).getD m arc0).d)] 82, rowE 3 1 u ys.length (ys.map (Value.int .i64)), rowE 3 1 v5 ((delL true gs s rs.length).length) ((delL true gs s rs.length).map (Value.int .i64)), intoE v2 rs, boxE b1 #[.int .i64 n, v] 38]) (sub_cons (d := 84) (congrArg some e26.1) (sub_cons (d := 85) (congrArg some e27.1) (sub_nil _))) (List.sublist_append_right _ _) ?_
                    exact rq_mono (rq_v (rv_cmp rfl rfl rfl rfl)) (fun _ _ h => ⟨h.1.trans (congrArg Value.bool hb18), h.2⟩)
                  ·
                    intro vf pf hR
                    have e21 : (vf 21) = .bool true ∧ (pf 21) = [] := hR 21 (by decide)
                    have e24 : (vf 24) = .bool false ∧ (pf 24) = [] := hR 24 (by decide)
                    have e28 : (vf 28) = .bool false ∧ (pf 28) = [] := hR 28 (by decide)
                    refine Or.inl ⟨want_of (congrArg some e21.1) rfl, ?_⟩
                    refine rq_less (l' := [boxE b14 #[.int .i64 ((((rs.getD ((x).toNat) row0).ar).getD m arc0).f), .int .i64 ((((rs.getD ((x).toNat) row0).ar).getD m arc0).t), .int .i64 ((((rs.getD ((x).toNat) row0).ar).getD m arc0).d)] 82, rowE 3 1 u ys.length (ys.map (Value.int .i64)), rowE 3 1 v5 ((delL true gs s rs.length).length) ((delL true gs s rs.length).map (Value.int .i64)), intoE v2 rs, boxE b1 #[.int .i64 n, v] 38]) (sub_cons (d := 82) (congrArg some e24.1) (sub_cons (d := 86) (congrArg some e28.1) (sub_nil _))) (List.sublist_append_right _ _) ?_
                    exact rq_v (rv_ev rfl)
                  ·
                    intro vf pf hR
                    have e21 : (vf 21) = .bool true ∧ (pf 21) = [] := hR 21 (by decide)
                    have e29 : (vf 29) = .bool false ∧ (pf 29) = [] := hR 29 (by decide)
                    refine Or.inl ⟨rfl, ?_⟩
                    refine rq_less (l' := [boxE b14 #[.int .i64 ((((rs.getD ((x).toNat) row0).ar).getD m arc0).f), .int .i64 ((((rs.getD ((x).toNat) row0).ar).getD m arc0).t), .int .i64 ((((rs.getD ((x).toNat) row0).ar).getD m arc0).d)] 82, rowE 3 1 u ys.length (ys.map (Value.int .i64)), rowE 3 1 v5 ((delL true gs s rs.length).length) ((delL true gs s rs.length).map (Value.int .i64)), intoE v2 rs, boxE b1 #[.int .i64 n, v] 38]) (sub_cons (d := 79) (congrArg some e21.1) (sub_cons (d := 87) (congrArg some e29.1) (sub_nil _))) (List.sublist_append_right _ _) ?_
                    exact rq_v (rv_ev rfl)
                ·
                  intro vf pf hR
                  have e30 : (vf 30) = .bool false ∧ (pf 30) = [] := hR 30 (by decide)
                  refine hl_less (l' := [boxE b14 #[.int .i64 ((((rs.getD ((x).toNat) row0).ar).getD m arc0).f), .int .i64 ((((rs.getD ((x).toNat) row0).ar).getD m arc0).t), .int .i64 ((((rs.getD ((x).toNat) row0).ar).getD m arc0).d)] 82, rowE 3 1 u ys.length (ys.map (Value.int .i64)), rowE 3 1 v5 ((delL true gs s rs.length).length) ((delL true gs s rs.length).map (Value.int .i64)), intoE v2 rs, boxE b1 #[.int .i64 n, v] 38]) (sub_cons (d := 0) rfl (sub_cons (d := 1) rfl (sub_cons (d := 2) rfl (sub_cons (d := 3) rfl (sub_cons (d := 6) rfl (sub_cons (d := 7) rfl (sub_cons (d := 8) rfl (sub_cons (d := 9) rfl (sub_cons (d := 10) rfl (sub_cons (d := 11) rfl (sub_cons (d := 13) rfl (sub_cons (d := 32) rfl (sub_cons (d := 42) rfl (sub_cons (d := 48) rfl (sub_cons (d := 52) rfl (sub_cons (d := 53) rfl (sub_cons (d := 54) rfl (sub_cons (d := 55) rfl (sub_cons (d := 88) (congrArg some e30.1) (sub_nil _)))))))))))))))))))) (List.sublist_append_right _ _) ?_
                  simp only [List.drop_succ_cons, List.drop_zero]
                  refine hl_less (sub_cons (d := 0) rfl (sub_cons (d := 1) rfl (sub_cons (d := 2) rfl (sub_cons (d := 3) rfl (sub_cons (d := 6) rfl (sub_cons (d := 7) rfl (sub_cons (d := 8) rfl (sub_cons (d := 9) rfl (sub_cons (d := 10) rfl (sub_cons (d := 11) rfl (sub_cons (d := 13) rfl (sub_cons (d := 32) rfl (sub_cons (d := 42) rfl (sub_cons (d := 48) rfl (sub_cons (d := 52) rfl (sub_cons (d := 53) rfl (sub_cons (d := 54) rfl (sub_cons (d := 55) rfl (sub_cons (d := 88) rfl (sub_nil _)))))))))))))))))))) (.refl _) ?_
                  refine hl_nil ?_
                  refine hq_then ?_
                  refine hc_false rfl ?_
                  refine hc_skip ?_
                  refine hq_block_normal ?_
                  refine hq_then ?_
                  refine hc_region ?_
                  refine hl_v rfl rfl rfl (rv_add rfl rfl rfl (by constructor <;> omega)) ?_
                  refine hl_v rfl rfl rfl (rv_ev rfl) ?_
                  refine hl_less (sub_cons (d := 0) rfl (sub_cons (d := 1) rfl (sub_cons (d := 2) rfl (sub_cons (d := 3) rfl (sub_cons (d := 6) rfl (sub_cons (d := 7) rfl (sub_cons (d := 8) rfl (sub_cons (d := 9) rfl (sub_cons (d := 10) rfl (sub_cons (d := 11) rfl (sub_cons (d := 13) rfl (sub_cons (d := 32) rfl (sub_cons (d := 42) rfl (sub_cons (d := 48) rfl (sub_cons (d := 52) rfl (sub_cons (d := 53) rfl (sub_cons (d := 54) rfl (sub_cons (d := 55) rfl (sub_cons (d := 88) rfl (sub_nil _)))))))))))))))))))) (.refl _) ?_
                  refine hl_nil ?_
                  exact hq_round2 (m + 1) b ⟨by omega, by omega, by rcases hbo with ⟨hb1, hb2⟩ | hb3; (first | (exfalso; omega) | exact .inl ⟨hb1, fun q hq hc => by by_cases hqm : q = m; (subst hqm; obtain ⟨hc1, hc2⟩ := hc; omega); exact hb2 q (by omega) hc⟩); exact .inr hb3⟩ (by omega) (sub_cons (d := 0) rfl (sub_cons (d := 1) rfl (sub_cons (d := 2) rfl (sub_cons (d := 3) rfl (sub_cons (d := 6) rfl (sub_cons (d := 7) rfl (sub_cons (d := 8) rfl (sub_cons (d := 9) rfl (sub_cons (d := 10) rfl (sub_cons (d := 11) rfl (sub_cons (d := 32) rfl (sub_cons (d := 42) rfl (sub_cons (d := 48) rfl (sub_cons (d := 52) rfl (sub_cons (d := 53) rfl (sub_cons (d := 54) rfl (sub_nil _))))))))))))))))) ((.cons _ (.cons_cons _ (.cons_cons _ (.cons_cons _ (.cons_cons _ .slnil))))))
          ·
            have hb16p : ((delL true gs s rs.length).getD (((((rs.getD ((x).toNat) row0).ar).getD m arc0).f).toNat) 0) + ((((rs.getD ((x).toNat) row0).ar).getD m arc0).d) ≠ (delL true gs s rs.length).getD ((x).toNat) 0 := beq_eq_false_iff_ne.1 hb16
            have hea : 0 ≤ ((rs.getD ((x).toNat) row0).ar.getD m arc0).f ∧ ((rs.getD ((x).toNat) row0).ar.getD m arc0).f < (x).toNat ∧ 0 ≤ ((rs.getD ((x).toNat) row0).ar.getD m arc0).d ∧ ((rs.getD ((x).toNat) row0).ar.getD m arc0).d ≤ 100 := by rw [hinx]; exact into_at hg (by rw [← hinx]; omega)
            have hdE : (delL true gs s rs.length).getD (((rs.getD ((x).toNat) row0).ar.getD m arc0).f).toNat 0 = Dl true gs s (((rs.getD ((x).toNat) row0).ar.getD m arc0).f).toNat := del_at _ _ _ _ _ (by omega)
            have hdb := Dl_bnd hg true s (((rs.getD ((x).toNat) row0).ar.getD m arc0).f).toNat
            refine hc_draw (by kernel_rfl) 31 [0, 1, 2, 3, 4, 5, 6, 7, 8, 9, 10, 11, 12, 13, 14, 15, 16, 17, 18, 19, 20, 21, 22, 23, 24, 25, 26, 27, 28, 29, 30] (List.take 31 _) (List.drop 31 _) [[], [], [1], [0, 2], [3], [4], [5], [6], [6], [6, 8], [6, 7, 9], [6, 10], [6], [6, 12], [6, 11, 13], [6], [6], [6, 15, 16], [6, 17], [6, 14, 18], [6, 19], [20], [21], [21], [21], [24], [24], [24], [24], [21], [21, 29]] [58, 59, 60, 61, 62, 63, 64, 65, 66, 67, 68, 69, 70, 71, 72, 73, 74, 75, 76, 77, 78, 79, 80, 81, 82, 83, 84, 85, 86, 87, 88] (fun i_ vs_ v_ p_ => match i_ with | 0 => v_ = v5 ∧ p_ = [] | 1 => v_ = .pointer (some ⟨b14, 0 + 0, none⟩) ∧ p_ = [] | 2 => v_ = .int .i64 ((((rs.getD ((x).toNat) row0).ar).getD m arc0).f) ∧ p_ = [] | 3 => v_ = elP v5 (((((rs.getD ((x).toNat) row0).ar).getD m arc0).f).toNat * 1) ∧ p_ = [] | 4 => v_ = .int .i64 ((delL true gs s rs.length).getD (((((rs.getD ((x).toNat) row0).ar).getD m arc0).f).toNat) 0) ∧ p_ = [] | 5 => v_ = .bool true ∧ p_ = [] | 6 => v_ = .bool true ∧ p_ = [] | 7 => v_ = v5 ∧ p_ = [] | 8 => v_ = .pointer (some ⟨b14, 0 + 0, none⟩) ∧ p_ = [] | 9 => v_ = .int .i64 ((((rs.getD ((x).toNat) row0).ar).getD m arc0).f) ∧ p_ = [] | 10 => v_ = elP v5 (((((rs.getD ((x).toNat) row0).ar).getD m arc0).f).toNat * 1) ∧ p_ = [] | 11 => v_ = .int .i64 ((delL true gs s rs.length).getD (((((rs.getD ((x).toNat) row0).ar).getD m arc0).f).toNat) 0) ∧ p_ = [] | 12 => v_ = .pointer (some ⟨b14, 0 + 2, none⟩) ∧ p_ = [] | 13 => v_ = .int .i64 ((((rs.getD ((x).toNat) row0).ar).getD m arc0).d) ∧ p_ = [] | 14 => v_ = .int .i64 (((delL true gs s rs.length).getD (((((rs.getD ((x).toNat) row0).ar).getD m arc0).f).toNat) 0) + ((((rs.getD ((x).toNat) row0).ar).getD m arc0).d)) ∧ p_ = [] | 15 => v_ = v5 ∧ p_ = [] | 16 => v_ = .int .i64 x ∧ p_ = [] | 17 => v_ = elP v5 ((x).toNat * 1) ∧ p_ = [] | 18 => v_ = .int .i64 ((delL true gs s rs.length).getD ((x).toNat) 0) ∧ p_ = [] | 19 => v_ = .bool false ∧ p_ = [] | 20 => v_ = .bool false ∧ p_ = [] | 21 => v_ = .bool false ∧ p_ = [] | 22 => v_ = undef ∧ p_ = [] | 23 => v_ = undef ∧ p_ = [] | 24 => v_ = undef ∧ p_ = [] | 25 => v_ = undef ∧ p_ = [] | 26 => v_ = undef ∧ p_ = [] | 27 => v_ = undef ∧ p_ = [] | 28 => v_ = undef ∧ p_ = [] | 29 => v_ = undef ∧ p_ = [] | 30 => v_ = .bool false ∧ p_ = [] | _ => True) (List.take_append_drop 31 _).symm (by kernel_rfl) (by kernel_rfl) rfl rfl ?_ ?_
            ·
              refine ⟨?_, ?_, ?_, ?_, ?_, ?_, ?_, ?_, ?_, ?_, ?_, ?_, ?_, ?_, ?_, ?_, ?_, ?_, ?_, ?_, ?_, ?_, ?_, ?_, ?_, ?_, ?_, ?_, ?_, ?_, ?_, trivial⟩
              ·
                intro vf pf hR
                refine Or.inl ⟨rfl, ?_⟩
                refine rq_less (l' := [boxE b14 #[.int .i64 ((((rs.getD ((x).toNat) row0).ar).getD m arc0).f), .int .i64 ((((rs.getD ((x).toNat) row0).ar).getD m arc0).t), .int .i64 ((((rs.getD ((x).toNat) row0).ar).getD m arc0).d)] 82, rowE 3 1 u ys.length (ys.map (Value.int .i64)), rowE 3 1 v5 ((delL true gs s rs.length).length) ((delL true gs s rs.length).map (Value.int .i64)), intoE v2 rs, boxE b1 #[.int .i64 n, v] 38]) (sub_cons (d := 8) rfl (sub_nil _)) (List.sublist_append_right _ _) ?_
                exact rq_v (rv_ev rfl)
              ·
                intro vf pf hR
                refine Or.inl ⟨rfl, ?_⟩
                refine rq_less (l' := [boxE b14 #[.int .i64 ((((rs.getD ((x).toNat) row0).ar).getD m arc0).f), .int .i64 ((((rs.getD ((x).toNat) row0).ar).getD m arc0).t), .int .i64 ((((rs.getD ((x).toNat) row0).ar).getD m arc0).d)] 82, rowE 3 1 u ys.length (ys.map (Value.int .i64)), rowE 3 1 v5 ((delL true gs s rs.length).length) ((delL true gs s rs.length).map (Value.int .i64)), intoE v2 rs, boxE b1 #[.int .i64 n, v] 38]) (sub_cons (d := 13) rfl (sub_nil _)) (List.sublist_append_right _ _) ?_
                exact rq_v (rv_field (k0 := 0) rfl (by kernel_rfl) rfl)
              ·
                intro vf pf hR
                have e1 : (vf 1) = .pointer (some ⟨b14, 0 + 0, none⟩) ∧ (pf 1) = [] := hR 1 (by decide)
                refine Or.inl ⟨rfl, ?_⟩
                refine rq_less (l' := [boxE b14 #[.int .i64 ((((rs.getD ((x).toNat) row0).ar).getD m arc0).f), .int .i64 ((((rs.getD ((x).toNat) row0).ar).getD m arc0).t), .int .i64 ((((rs.getD ((x).toNat) row0).ar).getD m arc0).d)] 82, rowE 3 1 u ys.length (ys.map (Value.int .i64)), rowE 3 1 v5 ((delL true gs s rs.length).length) ((delL true gs s rs.length).map (Value.int .i64)), intoE v2 rs, boxE b1 #[.int .i64 n, v] 38]) (sub_cons (d := 59) (congrArg some e1.1) (sub_nil _)) (List.sublist_append_right _ _) ?_
                exact rq_v (rv_load rfl (by kernel_rfl) rfl (box_cell 0 rfl rfl))
              ·
                intro vf pf hR
                have e0 : (vf 0) = v5 ∧ (pf 0) = [] := hR 0 (by decide)
                have e2 : (vf 2) = .int .i64 ((((rs.getD ((x).toNat) row0).ar).getD m arc0).f) ∧ (pf 2) = [] := hR 2 (by decide)
                refine Or.inl ⟨rfl, ?_⟩
                refine rq_less (l' := [boxE b14 #[.int .i64 ((((rs.getD ((x).toNat) row0).ar).getD m arc0).f), .int .i64 ((((rs.getD ((x).toNat) row0).ar).getD m arc0).t), .int .i64 ((((rs.getD ((x).toNat) row0).ar).getD m arc0).d)] 82, rowE 3 1 u ys.length (ys.map (Value.int .i64)), rowE 3 1 v5 ((delL true gs s rs.length).length) ((delL true gs s rs.length).map (Value.int .i64)), intoE v2 rs, boxE b1 #[.int .i64 n, v] 38]) (sub_cons (d := 58) (congrArg some e0.1) (sub_cons (d := 60) (congrArg some e2.1) (sub_nil _))) (List.sublist_append_right _ _) ?_
                exact rq_v (rv_index (s := 1) rfl Try.underlying43 (by kernel_rfl) rfl rfl (rd_row 2 rfl) (by omega) (by first | omega | (simp only [List.length_set]; omega)))
              ·
                intro vf pf hR
                have e3 : (vf 3) = elP v5 (((((rs.getD ((x).toNat) row0).ar).getD m arc0).f).toNat * 1) ∧ (pf 3) = [] := hR 3 (by decide)
                refine Or.inl ⟨rfl, ?_⟩
                refine rq_less (l' := [boxE b14 #[.int .i64 ((((rs.getD ((x).toNat) row0).ar).getD m arc0).f), .int .i64 ((((rs.getD ((x).toNat) row0).ar).getD m arc0).t), .int .i64 ((((rs.getD ((x).toNat) row0).ar).getD m arc0).d)] 82, rowE 3 1 u ys.length (ys.map (Value.int .i64)), rowE 3 1 v5 ((delL true gs s rs.length).length) ((delL true gs s rs.length).map (Value.int .i64)), intoE v2 rs, boxE b1 #[.int .i64 n, v] 38]) (sub_cons (d := 61) (congrArg some e3.1) (sub_nil _)) (List.sublist_append_right _ _) ?_
                exact rq_v (rv_loadEl (u := .int .i64 ((delL true gs s rs.length).getD (((((rs.getD ((x).toNat) row0).ar).getD m arc0).f).toNat) 0)) rfl (by kernel_rfl) rfl (rd_row 2 rfl) (ints_at1 (show _ < (delL true gs s rs.length).length by first | omega | (simp only [List.length_set]; omega))))
              ·
                intro vf pf hR
                have e4 : (vf 4) = .int .i64 ((delL true gs s rs.length).getD (((((rs.getD ((x).toNat) row0).ar).getD m arc0).f).toNat) 0) ∧ (pf 4) = [] := hR 4 (by decide)
                refine Or.inl ⟨rfl, ?_⟩
                refine rq_less (l' := [boxE b14 #[.int .i64 ((((rs.getD ((x).toNat) row0).ar).getD m arc0).f), .int .i64 ((((rs.getD ((x).toNat) row0).ar).getD m arc0).t), .int .i64 ((((rs.getD ((x).toNat) row0).ar).getD m arc0).d)] 82, rowE 3 1 u ys.length (ys.map (Value.int .i64)), rowE 3 1 v5 ((delL true gs s rs.length).length) ((delL true gs s rs.length).map (Value.int .i64)), intoE v2 rs, boxE b1 #[.int .i64 n, v] 38]) (sub_cons (d := 62) (congrArg some e4.1) (sub_nil _)) (List.sublist_append_right _ _) ?_
                exact rq_mono (rq_v (rv_cmp rfl rfl rfl rfl)) (fun _ _ h => ⟨h.1.trans (congrArg Value.bool hb15), h.2⟩)
              ·
                intro vf pf hR
                have e5 : (vf 5) = .bool true ∧ (pf 5) = [] := hR 5 (by decide)
                refine Or.inl ⟨rfl, ?_⟩
                refine rq_less (l' := [boxE b14 #[.int .i64 ((((rs.getD ((x).toNat) row0).ar).getD m arc0).f), .int .i64 ((((rs.getD ((x).toNat) row0).ar).getD m arc0).t), .int .i64 ((((rs.getD ((x).toNat) row0).ar).getD m arc0).d)] 82, rowE 3 1 u ys.length (ys.map (Value.int .i64)), rowE 3 1 v5 ((delL true gs s rs.length).length) ((delL true gs s rs.length).map (Value.int .i64)), intoE v2 rs, boxE b1 #[.int .i64 n, v] 38]) (sub_cons (d := 63) (congrArg some e5.1) (sub_nil _)) (List.sublist_append_right _ _) ?_
                exact rq_v (rv_ev rfl)
              ·
                intro vf pf hR
                have e6 : (vf 6) = .bool true ∧ (pf 6) = [] := hR 6 (by decide)
                refine Or.inl ⟨want_of (congrArg some e6.1) rfl, ?_⟩
                refine rq_less (l' := [boxE b14 #[.int .i64 ((((rs.getD ((x).toNat) row0).ar).getD m arc0).f), .int .i64 ((((rs.getD ((x).toNat) row0).ar).getD m arc0).t), .int .i64 ((((rs.getD ((x).toNat) row0).ar).getD m arc0).d)] 82, rowE 3 1 u ys.length (ys.map (Value.int .i64)), rowE 3 1 v5 ((delL true gs s rs.length).length) ((delL true gs s rs.length).map (Value.int .i64)), intoE v2 rs, boxE b1 #[.int .i64 n, v] 38]) (sub_cons (d := 8) rfl (sub_nil _)) (List.sublist_append_right _ _) ?_
                exact rq_v (rv_ev rfl)
              ·
                intro vf pf hR
                have e6 : (vf 6) = .bool true ∧ (pf 6) = [] := hR 6 (by decide)
                refine Or.inl ⟨want_of (congrArg some e6.1) rfl, ?_⟩
                refine rq_less (l' := [boxE b14 #[.int .i64 ((((rs.getD ((x).toNat) row0).ar).getD m arc0).f), .int .i64 ((((rs.getD ((x).toNat) row0).ar).getD m arc0).t), .int .i64 ((((rs.getD ((x).toNat) row0).ar).getD m arc0).d)] 82, rowE 3 1 u ys.length (ys.map (Value.int .i64)), rowE 3 1 v5 ((delL true gs s rs.length).length) ((delL true gs s rs.length).map (Value.int .i64)), intoE v2 rs, boxE b1 #[.int .i64 n, v] 38]) (sub_cons (d := 13) rfl (sub_nil _)) (List.sublist_append_right _ _) ?_
                exact rq_v (rv_field (k0 := 0) rfl (by kernel_rfl) rfl)
              ·
                intro vf pf hR
                have e6 : (vf 6) = .bool true ∧ (pf 6) = [] := hR 6 (by decide)
                have e8 : (vf 8) = .pointer (some ⟨b14, 0 + 0, none⟩) ∧ (pf 8) = [] := hR 8 (by decide)
                refine Or.inl ⟨want_of (congrArg some e6.1) rfl, ?_⟩
                refine rq_less (l' := [boxE b14 #[.int .i64 ((((rs.getD ((x).toNat) row0).ar).getD m arc0).f), .int .i64 ((((rs.getD ((x).toNat) row0).ar).getD m arc0).t), .int .i64 ((((rs.getD ((x).toNat) row0).ar).getD m arc0).d)] 82, rowE 3 1 u ys.length (ys.map (Value.int .i64)), rowE 3 1 v5 ((delL true gs s rs.length).length) ((delL true gs s rs.length).map (Value.int .i64)), intoE v2 rs, boxE b1 #[.int .i64 n, v] 38]) (sub_cons (d := 66) (congrArg some e8.1) (sub_nil _)) (List.sublist_append_right _ _) ?_
                exact rq_v (rv_load rfl (by kernel_rfl) rfl (box_cell 0 rfl rfl))
              ·
                intro vf pf hR
                have e6 : (vf 6) = .bool true ∧ (pf 6) = [] := hR 6 (by decide)
                have e7 : (vf 7) = v5 ∧ (pf 7) = [] := hR 7 (by decide)
                have e9 : (vf 9) = .int .i64 ((((rs.getD ((x).toNat) row0).ar).getD m arc0).f) ∧ (pf 9) = [] := hR 9 (by decide)
                refine Or.inl ⟨want_of (congrArg some e6.1) rfl, ?_⟩
                refine rq_less (l' := [boxE b14 #[.int .i64 ((((rs.getD ((x).toNat) row0).ar).getD m arc0).f), .int .i64 ((((rs.getD ((x).toNat) row0).ar).getD m arc0).t), .int .i64 ((((rs.getD ((x).toNat) row0).ar).getD m arc0).d)] 82, rowE 3 1 u ys.length (ys.map (Value.int .i64)), rowE 3 1 v5 ((delL true gs s rs.length).length) ((delL true gs s rs.length).map (Value.int .i64)), intoE v2 rs, boxE b1 #[.int .i64 n, v] 38]) (sub_cons (d := 65) (congrArg some e7.1) (sub_cons (d := 67) (congrArg some e9.1) (sub_nil _))) (List.sublist_append_right _ _) ?_
                exact rq_v (rv_index (s := 1) rfl Try.underlying43 (by kernel_rfl) rfl rfl (rd_row 2 rfl) (by omega) (by first | omega | (simp only [List.length_set]; omega)))
              ·
                intro vf pf hR
                have e6 : (vf 6) = .bool true ∧ (pf 6) = [] := hR 6 (by decide)
                have e10 : (vf 10) = elP v5 (((((rs.getD ((x).toNat) row0).ar).getD m arc0).f).toNat * 1) ∧ (pf 10) = [] := hR 10 (by decide)
                refine Or.inl ⟨want_of (congrArg some e6.1) rfl, ?_⟩
                refine rq_less (l' := [boxE b14 #[.int .i64 ((((rs.getD ((x).toNat) row0).ar).getD m arc0).f), .int .i64 ((((rs.getD ((x).toNat) row0).ar).getD m arc0).t), .int .i64 ((((rs.getD ((x).toNat) row0).ar).getD m arc0).d)] 82, rowE 3 1 u ys.length (ys.map (Value.int .i64)), rowE 3 1 v5 ((delL true gs s rs.length).length) ((delL true gs s rs.length).map (Value.int .i64)), intoE v2 rs, boxE b1 #[.int .i64 n, v] 38]) (sub_cons (d := 68) (congrArg some e10.1) (sub_nil _)) (List.sublist_append_right _ _) ?_
                exact rq_v (rv_loadEl (u := .int .i64 ((delL true gs s rs.length).getD (((((rs.getD ((x).toNat) row0).ar).getD m arc0).f).toNat) 0)) rfl (by kernel_rfl) rfl (rd_row 2 rfl) (ints_at1 (show _ < (delL true gs s rs.length).length by first | omega | (simp only [List.length_set]; omega))))
              ·
                intro vf pf hR
                have e6 : (vf 6) = .bool true ∧ (pf 6) = [] := hR 6 (by decide)
                refine Or.inl ⟨want_of (congrArg some e6.1) rfl, ?_⟩
                refine rq_less (l' := [boxE b14 #[.int .i64 ((((rs.getD ((x).toNat) row0).ar).getD m arc0).f), .int .i64 ((((rs.getD ((x).toNat) row0).ar).getD m arc0).t), .int .i64 ((((rs.getD ((x).toNat) row0).ar).getD m arc0).d)] 82, rowE 3 1 u ys.length (ys.map (Value.int .i64)), rowE 3 1 v5 ((delL true gs s rs.length).length) ((delL true gs s rs.length).map (Value.int .i64)), intoE v2 rs, boxE b1 #[.int .i64 n, v] 38]) (sub_cons (d := 13) rfl (sub_nil _)) (List.sublist_append_right _ _) ?_
                exact rq_v (rv_field (k0 := 2) rfl (by kernel_rfl) rfl)
              ·
                intro vf pf hR
                have e6 : (vf 6) = .bool true ∧ (pf 6) = [] := hR 6 (by decide)
                have e12 : (vf 12) = .pointer (some ⟨b14, 0 + 2, none⟩) ∧ (pf 12) = [] := hR 12 (by decide)
                refine Or.inl ⟨want_of (congrArg some e6.1) rfl, ?_⟩
                refine rq_less (l' := [boxE b14 #[.int .i64 ((((rs.getD ((x).toNat) row0).ar).getD m arc0).f), .int .i64 ((((rs.getD ((x).toNat) row0).ar).getD m arc0).t), .int .i64 ((((rs.getD ((x).toNat) row0).ar).getD m arc0).d)] 82, rowE 3 1 u ys.length (ys.map (Value.int .i64)), rowE 3 1 v5 ((delL true gs s rs.length).length) ((delL true gs s rs.length).map (Value.int .i64)), intoE v2 rs, boxE b1 #[.int .i64 n, v] 38]) (sub_cons (d := 70) (congrArg some e12.1) (sub_nil _)) (List.sublist_append_right _ _) ?_
                exact rq_v (rv_load rfl (by kernel_rfl) rfl (box_cell 0 rfl rfl))
              ·
                intro vf pf hR
                have e6 : (vf 6) = .bool true ∧ (pf 6) = [] := hR 6 (by decide)
                have e11 : (vf 11) = .int .i64 ((delL true gs s rs.length).getD (((((rs.getD ((x).toNat) row0).ar).getD m arc0).f).toNat) 0) ∧ (pf 11) = [] := hR 11 (by decide)
                have e13 : (vf 13) = .int .i64 ((((rs.getD ((x).toNat) row0).ar).getD m arc0).d) ∧ (pf 13) = [] := hR 13 (by decide)
                refine Or.inl ⟨want_of (congrArg some e6.1) rfl, ?_⟩
                refine rq_less (l' := [boxE b14 #[.int .i64 ((((rs.getD ((x).toNat) row0).ar).getD m arc0).f), .int .i64 ((((rs.getD ((x).toNat) row0).ar).getD m arc0).t), .int .i64 ((((rs.getD ((x).toNat) row0).ar).getD m arc0).d)] 82, rowE 3 1 u ys.length (ys.map (Value.int .i64)), rowE 3 1 v5 ((delL true gs s rs.length).length) ((delL true gs s rs.length).map (Value.int .i64)), intoE v2 rs, boxE b1 #[.int .i64 n, v] 38]) (sub_cons (d := 69) (congrArg some e11.1) (sub_cons (d := 71) (congrArg some e13.1) (sub_nil _))) (List.sublist_append_right _ _) ?_
                exact rq_v (rv_add rfl rfl rfl (by constructor <;> omega))
              ·
                intro vf pf hR
                have e6 : (vf 6) = .bool true ∧ (pf 6) = [] := hR 6 (by decide)
                refine Or.inl ⟨want_of (congrArg some e6.1) rfl, ?_⟩
                refine rq_less (l' := [boxE b14 #[.int .i64 ((((rs.getD ((x).toNat) row0).ar).getD m arc0).f), .int .i64 ((((rs.getD ((x).toNat) row0).ar).getD m arc0).t), .int .i64 ((((rs.getD ((x).toNat) row0).ar).getD m arc0).d)] 82, rowE 3 1 u ys.length (ys.map (Value.int .i64)), rowE 3 1 v5 ((delL true gs s rs.length).length) ((delL true gs s rs.length).map (Value.int .i64)), intoE v2 rs, boxE b1 #[.int .i64 n, v] 38]) (sub_cons (d := 8) rfl (sub_nil _)) (List.sublist_append_right _ _) ?_
                exact rq_v (rv_ev rfl)
              ·
                intro vf pf hR
                have e6 : (vf 6) = .bool true ∧ (pf 6) = [] := hR 6 (by decide)
                refine Or.inl ⟨want_of (congrArg some e6.1) rfl, ?_⟩
                refine rq_less (l' := [boxE b14 #[.int .i64 ((((rs.getD ((x).toNat) row0).ar).getD m arc0).f), .int .i64 ((((rs.getD ((x).toNat) row0).ar).getD m arc0).t), .int .i64 ((((rs.getD ((x).toNat) row0).ar).getD m arc0).d)] 82, rowE 3 1 u ys.length (ys.map (Value.int .i64)), rowE 3 1 v5 ((delL true gs s rs.length).length) ((delL true gs s rs.length).map (Value.int .i64)), intoE v2 rs, boxE b1 #[.int .i64 n, v] 38]) (sub_cons (d := 10) rfl (sub_nil _)) (List.sublist_append_right _ _) ?_
                exact rq_v (rv_ev rfl)
              ·
                intro vf pf hR
                have e6 : (vf 6) = .bool true ∧ (pf 6) = [] := hR 6 (by decide)
                have e15 : (vf 15) = v5 ∧ (pf 15) = [] := hR 15 (by decide)
                have e16 : (vf 16) = .int .i64 x ∧ (pf 16) = [] := hR 16 (by decide)
                refine Or.inl ⟨want_of (congrArg some e6.1) rfl, ?_⟩
                refine rq_less (l' := [boxE b14 #[.int .i64 ((((rs.getD ((x).toNat) row0).ar).getD m arc0).f), .int .i64 ((((rs.getD ((x).toNat) row0).ar).getD m arc0).t), .int .i64 ((((rs.getD ((x).toNat) row0).ar).getD m arc0).d)] 82, rowE 3 1 u ys.length (ys.map (Value.int .i64)), rowE 3 1 v5 ((delL true gs s rs.length).length) ((delL true gs s rs.length).map (Value.int .i64)), intoE v2 rs, boxE b1 #[.int .i64 n, v] 38]) (sub_cons (d := 73) (congrArg some e15.1) (sub_cons (d := 74) (congrArg some e16.1) (sub_nil _))) (List.sublist_append_right _ _) ?_
                exact rq_v (rv_index (s := 1) rfl Try.underlying43 (by kernel_rfl) rfl rfl (rd_row 2 rfl) (by omega) (by first | omega | (simp only [List.length_set]; omega)))
              ·
                intro vf pf hR
                have e6 : (vf 6) = .bool true ∧ (pf 6) = [] := hR 6 (by decide)
                have e17 : (vf 17) = elP v5 ((x).toNat * 1) ∧ (pf 17) = [] := hR 17 (by decide)
                refine Or.inl ⟨want_of (congrArg some e6.1) rfl, ?_⟩
                refine rq_less (l' := [boxE b14 #[.int .i64 ((((rs.getD ((x).toNat) row0).ar).getD m arc0).f), .int .i64 ((((rs.getD ((x).toNat) row0).ar).getD m arc0).t), .int .i64 ((((rs.getD ((x).toNat) row0).ar).getD m arc0).d)] 82, rowE 3 1 u ys.length (ys.map (Value.int .i64)), rowE 3 1 v5 ((delL true gs s rs.length).length) ((delL true gs s rs.length).map (Value.int .i64)), intoE v2 rs, boxE b1 #[.int .i64 n, v] 38]) (sub_cons (d := 75) (congrArg some e17.1) (sub_nil _)) (List.sublist_append_right _ _) ?_
                exact rq_v (rv_loadEl (u := .int .i64 ((delL true gs s rs.length).getD ((x).toNat) 0)) rfl (by kernel_rfl) rfl (rd_row 2 rfl) (ints_at1 (show _ < (delL true gs s rs.length).length by first | omega | (simp only [List.length_set]; omega))))
              ·
                intro vf pf hR
                have e6 : (vf 6) = .bool true ∧ (pf 6) = [] := hR 6 (by decide)
                have e14 : (vf 14) = .int .i64 (((delL true gs s rs.length).getD (((((rs.getD ((x).toNat) row0).ar).getD m arc0).f).toNat) 0) + ((((rs.getD ((x).toNat) row0).ar).getD m arc0).d)) ∧ (pf 14) = [] := hR 14 (by decide)
                have e18 : (vf 18) = .int .i64 ((delL true gs s rs.length).getD ((x).toNat) 0) ∧ (pf 18) = [] := hR 18 (by decide)
                refine Or.inl ⟨want_of (congrArg some e6.1) rfl, ?_⟩
                refine rq_less (l' := [boxE b14 #[.int .i64 ((((rs.getD ((x).toNat) row0).ar).getD m arc0).f), .int .i64 ((((rs.getD ((x).toNat) row0).ar).getD m arc0).t), .int .i64 ((((rs.getD ((x).toNat) row0).ar).getD m arc0).d)] 82, rowE 3 1 u ys.length (ys.map (Value.int .i64)), rowE 3 1 v5 ((delL true gs s rs.length).length) ((delL true gs s rs.length).map (Value.int .i64)), intoE v2 rs, boxE b1 #[.int .i64 n, v] 38]) (sub_cons (d := 72) (congrArg some e14.1) (sub_cons (d := 76) (congrArg some e18.1) (sub_nil _))) (List.sublist_append_right _ _) ?_
                exact rq_mono (rq_v (rv_cmp rfl rfl rfl rfl)) (fun _ _ h => ⟨h.1.trans (congrArg Value.bool hb16), h.2⟩)
              ·
                intro vf pf hR
                have e6 : (vf 6) = .bool true ∧ (pf 6) = [] := hR 6 (by decide)
                have e19 : (vf 19) = .bool false ∧ (pf 19) = [] := hR 19 (by decide)
                refine Or.inl ⟨rfl, ?_⟩
                refine rq_less (l' := [boxE b14 #[.int .i64 ((((rs.getD ((x).toNat) row0).ar).getD m arc0).f), .int .i64 ((((rs.getD ((x).toNat) row0).ar).getD m arc0).t), .int .i64 ((((rs.getD ((x).toNat) row0).ar).getD m arc0).d)] 82, rowE 3 1 u ys.length (ys.map (Value.int .i64)), rowE 3 1 v5 ((delL true gs s rs.length).length) ((delL true gs s rs.length).map (Value.int .i64)), intoE v2 rs, boxE b1 #[.int .i64 n, v] 38]) (sub_cons (d := 64) (congrArg some e6.1) (sub_cons (d := 77) (congrArg some e19.1) (sub_nil _))) (List.sublist_append_right _ _) ?_
                exact rq_v (rv_ev rfl)
              ·
                intro vf pf hR
                have e20 : (vf 20) = .bool false ∧ (pf 20) = [] := hR 20 (by decide)
                refine Or.inl ⟨rfl, ?_⟩
                refine rq_less (l' := [boxE b14 #[.int .i64 ((((rs.getD ((x).toNat) row0).ar).getD m arc0).f), .int .i64 ((((rs.getD ((x).toNat) row0).ar).getD m arc0).t), .int .i64 ((((rs.getD ((x).toNat) row0).ar).getD m arc0).d)] 82, rowE 3 1 u ys.length (ys.map (Value.int .i64)), rowE 3 1 v5 ((delL true gs s rs.length).length) ((delL true gs s rs.length).map (Value.int .i64)), intoE v2 rs, boxE b1 #[.int .i64 n, v] 38]) (sub_cons (d := 78) (congrArg some e20.1) (sub_nil _)) (List.sublist_append_right _ _) ?_
                exact rq_v (rv_ev rfl)
              ·
                intro vf pf hR
                have e21 : (vf 21) = .bool false ∧ (pf 21) = [] := hR 21 (by decide)
                exact Or.inr ⟨want_of (congrArg some e21.1) rfl, rfl, rfl⟩
              ·
                intro vf pf hR
                have e21 : (vf 21) = .bool false ∧ (pf 21) = [] := hR 21 (by decide)
                exact Or.inr ⟨want_of (congrArg some e21.1) rfl, rfl, rfl⟩
              ·
                intro vf pf hR
                have e21 : (vf 21) = .bool false ∧ (pf 21) = [] := hR 21 (by decide)
                exact Or.inr ⟨want_of (congrArg some e21.1) rfl, rfl, rfl⟩
              ·
                intro vf pf hR
                have e24 : (vf 24) = undef ∧ (pf 24) = [] := hR 24 (by decide)
                exact Or.inr ⟨want_un (congrArg some e24.1), rfl, rfl⟩
              ·
                intro vf pf hR
                have e24 : (vf 24) = undef ∧ (pf 24) = [] := hR 24 (by decide)
                exact Or.inr ⟨want_un (congrArg some e24.1), rfl, rfl⟩
              ·
                intro vf pf hR
                have e24 : (vf 24) = undef ∧ (pf 24) = [] := hR 24 (by decide)
                exact Or.inr ⟨want_un (congrArg some e24.1), rfl, rfl⟩
              ·
                intro vf pf hR
                have e24 : (vf 24) = undef ∧ (pf 24) = [] := hR 24 (by decide)
                exact Or.inr ⟨want_un (congrArg some e24.1), rfl, rfl⟩
              ·
                intro vf pf hR
                have e21 : (vf 21) = .bool false ∧ (pf 21) = [] := hR 21 (by decide)
                exact Or.inr ⟨want_of (congrArg some e21.1) rfl, rfl, rfl⟩
              ·
                intro vf pf hR
                have e21 : (vf 21) = .bool false ∧ (pf 21) = [] := hR 21 (by decide)
                have e29 : (vf 29) = undef ∧ (pf 29) = [] := hR 29 (by decide)
                refine Or.inl ⟨rfl, ?_⟩
                refine rq_less (l' := [boxE b14 #[.int .i64 ((((rs.getD ((x).toNat) row0).ar).getD m arc0).f), .int .i64 ((((rs.getD ((x).toNat) row0).ar).getD m arc0).t), .int .i64 ((((rs.getD ((x).toNat) row0).ar).getD m arc0).d)] 82, rowE 3 1 u ys.length (ys.map (Value.int .i64)), rowE 3 1 v5 ((delL true gs s rs.length).length) ((delL true gs s rs.length).map (Value.int .i64)), intoE v2 rs, boxE b1 #[.int .i64 n, v] 38]) (sub_cons (d := 79) (congrArg some e21.1) (sub_cons (d := 87) (congrArg some e29.1) (sub_nil _))) (List.sublist_append_right _ _) ?_
                exact rq_v (rv_ev rfl)
            ·
              intro vf pf hR
              have e30 : (vf 30) = .bool false ∧ (pf 30) = [] := hR 30 (by decide)
              refine hl_less (l' := [boxE b14 #[.int .i64 ((((rs.getD ((x).toNat) row0).ar).getD m arc0).f), .int .i64 ((((rs.getD ((x).toNat) row0).ar).getD m arc0).t), .int .i64 ((((rs.getD ((x).toNat) row0).ar).getD m arc0).d)] 82, rowE 3 1 u ys.length (ys.map (Value.int .i64)), rowE 3 1 v5 ((delL true gs s rs.length).length) ((delL true gs s rs.length).map (Value.int .i64)), intoE v2 rs, boxE b1 #[.int .i64 n, v] 38]) (sub_cons (d := 0) rfl (sub_cons (d := 1) rfl (sub_cons (d := 2) rfl (sub_cons (d := 3) rfl (sub_cons (d := 6) rfl (sub_cons (d := 7) rfl (sub_cons (d := 8) rfl (sub_cons (d := 9) rfl (sub_cons (d := 10) rfl (sub_cons (d := 11) rfl (sub_cons (d := 13) rfl (sub_cons (d := 32) rfl (sub_cons (d := 42) rfl (sub_cons (d := 48) rfl (sub_cons (d := 52) rfl (sub_cons (d := 53) rfl (sub_cons (d := 54) rfl (sub_cons (d := 55) rfl (sub_cons (d := 88) (congrArg some e30.1) (sub_nil _)))))))))))))))))))) (List.sublist_append_right _ _) ?_
              simp only [List.drop_succ_cons, List.drop_zero]
              refine hl_less (sub_cons (d := 0) rfl (sub_cons (d := 1) rfl (sub_cons (d := 2) rfl (sub_cons (d := 3) rfl (sub_cons (d := 6) rfl (sub_cons (d := 7) rfl (sub_cons (d := 8) rfl (sub_cons (d := 9) rfl (sub_cons (d := 10) rfl (sub_cons (d := 11) rfl (sub_cons (d := 13) rfl (sub_cons (d := 32) rfl (sub_cons (d := 42) rfl (sub_cons (d := 48) rfl (sub_cons (d := 52) rfl (sub_cons (d := 53) rfl (sub_cons (d := 54) rfl (sub_cons (d := 55) rfl (sub_cons (d := 88) rfl (sub_nil _)))))))))))))))))))) (.refl _) ?_
              refine hl_nil ?_
              refine hq_then ?_
              refine hc_false rfl ?_
              refine hc_skip ?_
              refine hq_block_normal ?_
              refine hq_then ?_
              refine hc_region ?_
              refine hl_v rfl rfl rfl (rv_add rfl rfl rfl (by constructor <;> omega)) ?_
              refine hl_v rfl rfl rfl (rv_ev rfl) ?_
              refine hl_less (sub_cons (d := 0) rfl (sub_cons (d := 1) rfl (sub_cons (d := 2) rfl (sub_cons (d := 3) rfl (sub_cons (d := 6) rfl (sub_cons (d := 7) rfl (sub_cons (d := 8) rfl (sub_cons (d := 9) rfl (sub_cons (d := 10) rfl (sub_cons (d := 11) rfl (sub_cons (d := 13) rfl (sub_cons (d := 32) rfl (sub_cons (d := 42) rfl (sub_cons (d := 48) rfl (sub_cons (d := 52) rfl (sub_cons (d := 53) rfl (sub_cons (d := 54) rfl (sub_cons (d := 55) rfl (sub_cons (d := 88) rfl (sub_nil _)))))))))))))))))))) (.refl _) ?_
              refine hl_nil ?_
              exact hq_round2 (m + 1) b ⟨by omega, by omega, by rcases hbo with ⟨hb1, hb2⟩ | hb3; (first | (exfalso; omega) | exact .inl ⟨hb1, fun q hq hc => by by_cases hqm : q = m; (subst hqm; obtain ⟨hc1, hc2⟩ := hc; omega); exact hb2 q (by omega) hc⟩); exact .inr hb3⟩ (by omega) (sub_cons (d := 0) rfl (sub_cons (d := 1) rfl (sub_cons (d := 2) rfl (sub_cons (d := 3) rfl (sub_cons (d := 6) rfl (sub_cons (d := 7) rfl (sub_cons (d := 8) rfl (sub_cons (d := 9) rfl (sub_cons (d := 10) rfl (sub_cons (d := 11) rfl (sub_cons (d := 32) rfl (sub_cons (d := 42) rfl (sub_cons (d := 48) rfl (sub_cons (d := 52) rfl (sub_cons (d := 53) rfl (sub_cons (d := 54) rfl (sub_nil _))))))))))))))))) ((.cons _ (.cons_cons _ (.cons_cons _ (.cons_cons _ (.cons_cons _ .slnil))))))
        ·
          have hb15p : ¬ (0 ≤ (delL true gs s rs.length).getD (((((rs.getD ((x).toNat) row0).ar).getD m arc0).f).toNat) 0) := of_decide_eq_false hb15
          have hea : 0 ≤ ((rs.getD ((x).toNat) row0).ar.getD m arc0).f ∧ ((rs.getD ((x).toNat) row0).ar.getD m arc0).f < (x).toNat ∧ 0 ≤ ((rs.getD ((x).toNat) row0).ar.getD m arc0).d ∧ ((rs.getD ((x).toNat) row0).ar.getD m arc0).d ≤ 100 := by rw [hinx]; exact into_at hg (by rw [← hinx]; omega)
          have hdE : (delL true gs s rs.length).getD (((rs.getD ((x).toNat) row0).ar.getD m arc0).f).toNat 0 = Dl true gs s (((rs.getD ((x).toNat) row0).ar.getD m arc0).f).toNat := del_at _ _ _ _ _ (by omega)
          have hdb := Dl_bnd hg true s (((rs.getD ((x).toNat) row0).ar.getD m arc0).f).toNat
          refine hc_draw (by kernel_rfl) 31 [0, 1, 2, 3, 4, 5, 6, 7, 8, 9, 10, 11, 12, 13, 14, 15, 16, 17, 18, 19, 20, 21, 22, 23, 24, 25, 26, 27, 28, 29, 30] (List.take 31 _) (List.drop 31 _) [[], [], [1], [0, 2], [3], [4], [5], [6], [6], [6], [6], [6], [6], [6], [6], [6], [6], [6], [6], [6], [6, 19], [20], [21], [21], [21], [24], [24], [24], [24], [21], [21, 29]] [58, 59, 60, 61, 62, 63, 64, 65, 66, 67, 68, 69, 70, 71, 72, 73, 74, 75, 76, 77, 78, 79, 80, 81, 82, 83, 84, 85, 86, 87, 88] (fun i_ vs_ v_ p_ => match i_ with | 0 => v_ = v5 ∧ p_ = [] | 1 => v_ = .pointer (some ⟨b14, 0 + 0, none⟩) ∧ p_ = [] | 2 => v_ = .int .i64 ((((rs.getD ((x).toNat) row0).ar).getD m arc0).f) ∧ p_ = [] | 3 => v_ = elP v5 (((((rs.getD ((x).toNat) row0).ar).getD m arc0).f).toNat * 1) ∧ p_ = [] | 4 => v_ = .int .i64 ((delL true gs s rs.length).getD (((((rs.getD ((x).toNat) row0).ar).getD m arc0).f).toNat) 0) ∧ p_ = [] | 5 => v_ = .bool false ∧ p_ = [] | 6 => v_ = .bool false ∧ p_ = [] | 7 => v_ = undef ∧ p_ = [] | 8 => v_ = undef ∧ p_ = [] | 9 => v_ = undef ∧ p_ = [] | 10 => v_ = undef ∧ p_ = [] | 11 => v_ = undef ∧ p_ = [] | 12 => v_ = undef ∧ p_ = [] | 13 => v_ = undef ∧ p_ = [] | 14 => v_ = undef ∧ p_ = [] | 15 => v_ = undef ∧ p_ = [] | 16 => v_ = undef ∧ p_ = [] | 17 => v_ = undef ∧ p_ = [] | 18 => v_ = undef ∧ p_ = [] | 19 => v_ = undef ∧ p_ = [] | 20 => v_ = .bool false ∧ p_ = [] | 21 => v_ = .bool false ∧ p_ = [] | 22 => v_ = undef ∧ p_ = [] | 23 => v_ = undef ∧ p_ = [] | 24 => v_ = undef ∧ p_ = [] | 25 => v_ = undef ∧ p_ = [] | 26 => v_ = undef ∧ p_ = [] | 27 => v_ = undef ∧ p_ = [] | 28 => v_ = undef ∧ p_ = [] | 29 => v_ = undef ∧ p_ = [] | 30 => v_ = .bool false ∧ p_ = [] | _ => True) (List.take_append_drop 31 _).symm (by kernel_rfl) (by kernel_rfl) rfl rfl ?_ ?_
          ·
            refine ⟨?_, ?_, ?_, ?_, ?_, ?_, ?_, ?_, ?_, ?_, ?_, ?_, ?_, ?_, ?_, ?_, ?_, ?_, ?_, ?_, ?_, ?_, ?_, ?_, ?_, ?_, ?_, ?_, ?_, ?_, ?_, trivial⟩
            ·
              intro vf pf hR
              refine Or.inl ⟨rfl, ?_⟩
              refine rq_less (l' := [boxE b14 #[.int .i64 ((((rs.getD ((x).toNat) row0).ar).getD m arc0).f), .int .i64 ((((rs.getD ((x).toNat) row0).ar).getD m arc0).t), .int .i64 ((((rs.getD ((x).toNat) row0).ar).getD m arc0).d)] 82, rowE 3 1 u ys.length (ys.map (Value.int .i64)), rowE 3 1 v5 ((delL true gs s rs.length).length) ((delL true gs s rs.length).map (Value.int .i64)), intoE v2 rs, boxE b1 #[.int .i64 n, v] 38]) (sub_cons (d := 8) rfl (sub_nil _)) (List.sublist_append_right _ _) ?_
              exact rq_v (rv_ev rfl)
            ·
              intro vf pf hR
              refine Or.inl ⟨rfl, ?_⟩
              refine rq_less (l' := [boxE b14 #[.int .i64 ((((rs.getD ((x).toNat) row0).ar).getD m arc0).f), .int .i64 ((((rs.getD ((x).toNat) row0).ar).getD m arc0).t), .int .i64 ((((rs.getD ((x).toNat) row0).ar).getD m arc0).d)] 82, rowE 3 1 u ys.length (ys.map (Value.int .i64)), rowE 3 1 v5 ((delL true gs s rs.length).length) ((delL true gs s rs.length).map (Value.int .i64)), intoE v2 rs, boxE b1 #[.int .i64 n, v] 38]) (sub_cons (d := 13) rfl (sub_nil _)) (List.sublist_append_right _ _) ?_
              exact rq_v (rv_field (k0 := 0) rfl (by kernel_rfl) rfl)
            ·
              intro vf pf hR
              have e1 : (vf 1) = .pointer (some ⟨b14, 0 + 0, none⟩) ∧ (pf 1) = [] := hR 1 (by decide)
              refine Or.inl ⟨rfl, ?_⟩
              refine rq_less (l' := [boxE b14 #[.int .i64 ((((rs.getD ((x).toNat) row0).ar).getD m arc0).f), .int .i64 ((((rs.getD ((x).toNat) row0).ar).getD m arc0).t), .int .i64 ((((rs.getD ((x).toNat) row0).ar).getD m arc0).d)] 82, rowE 3 1 u ys.length (ys.map (Value.int .i64)), rowE 3 1 v5 ((delL true gs s rs.length).length) ((delL true gs s rs.length).map (Value.int .i64)), intoE v2 rs, boxE b1 #[.int .i64 n, v] 38]) (sub_cons (d := 59) (congrArg some e1.1) (sub_nil _)) (List.sublist_append_right _ _) ?_
              exact rq_v (rv_load rfl (by kernel_rfl) rfl (box_cell 0 rfl rfl))
            ·
              intro vf pf hR
              have e0 : (vf 0) = v5 ∧ (pf 0) = [] := hR 0 (by decide)
              have e2 : (vf 2) = .int .i64 ((((rs.getD ((x).toNat) row0).ar).getD m arc0).f) ∧ (pf 2) = [] := hR 2 (by decide)
              refine Or.inl ⟨rfl, ?_⟩
              refine rq_less (l' := [boxE b14 #[.int .i64 ((((rs.getD ((x).toNat) row0).ar).getD m arc0).f), .int .i64 ((((rs.getD ((x).toNat) row0).ar).getD m arc0).t), .int .i64 ((((rs.getD ((x).toNat) row0).ar).getD m arc0).d)] 82, rowE 3 1 u ys.length (ys.map (Value.int .i64)), rowE 3 1 v5 ((delL true gs s rs.length).length) ((delL true gs s rs.length).map (Value.int .i64)), intoE v2 rs, boxE b1 #[.int .i64 n, v] 38]) (sub_cons (d := 58) (congrArg some e0.1) (sub_cons (d := 60) (congrArg some e2.1) (sub_nil _))) (List.sublist_append_right _ _) ?_
              exact rq_v (rv_index (s := 1) rfl Try.underlying43 (by kernel_rfl) rfl rfl (rd_row 2 rfl) (by omega) (by first | omega | (simp only [List.length_set]; omega)))
            ·
              intro vf pf hR
              have e3 : (vf 3) = elP v5 (((((rs.getD ((x).toNat) row0).ar).getD m arc0).f).toNat * 1) ∧ (pf 3) = [] := hR 3 (by decide)
              refine Or.inl ⟨rfl, ?_⟩
              refine rq_less (l' := [boxE b14 #[.int .i64 ((((rs.getD ((x).toNat) row0).ar).getD m arc0).f), .int .i64 ((((rs.getD ((x).toNat) row0).ar).getD m arc0).t), .int .i64 ((((rs.getD ((x).toNat) row0).ar).getD m arc0).d)] 82, rowE 3 1 u ys.length (ys.map (Value.int .i64)), rowE 3 1 v5 ((delL true gs s rs.length).length) ((delL true gs s rs.length).map (Value.int .i64)), intoE v2 rs, boxE b1 #[.int .i64 n, v] 38]) (sub_cons (d := 61) (congrArg some e3.1) (sub_nil _)) (List.sublist_append_right _ _) ?_
              exact rq_v (rv_loadEl (u := .int .i64 ((delL true gs s rs.length).getD (((((rs.getD ((x).toNat) row0).ar).getD m arc0).f).toNat) 0)) rfl (by kernel_rfl) rfl (rd_row 2 rfl) (ints_at1 (show _ < (delL true gs s rs.length).length by first | omega | (simp only [List.length_set]; omega))))
            ·
              intro vf pf hR
              have e4 : (vf 4) = .int .i64 ((delL true gs s rs.length).getD (((((rs.getD ((x).toNat) row0).ar).getD m arc0).f).toNat) 0) ∧ (pf 4) = [] := hR 4 (by decide)
              refine Or.inl ⟨rfl, ?_⟩
              refine rq_less (l' := [boxE b14 #[.int .i64 ((((rs.getD ((x).toNat) row0).ar).getD m arc0).f), .int .i64 ((((rs.getD ((x).toNat) row0).ar).getD m arc0).t), .int .i64 ((((rs.getD ((x).toNat) row0).ar).getD m arc0).d)] 82, rowE 3 1 u ys.length (ys.map (Value.int .i64)), rowE 3 1 v5 ((delL true gs s rs.length).length) ((delL true gs s rs.length).map (Value.int .i64)), intoE v2 rs, boxE b1 #[.int .i64 n, v] 38]) (sub_cons (d := 62) (congrArg some e4.1) (sub_nil _)) (List.sublist_append_right _ _) ?_
              exact rq_mono (rq_v (rv_cmp rfl rfl rfl rfl)) (fun _ _ h => ⟨h.1.trans (congrArg Value.bool hb15), h.2⟩)
            ·
              intro vf pf hR
              have e5 : (vf 5) = .bool false ∧ (pf 5) = [] := hR 5 (by decide)
              refine Or.inl ⟨rfl, ?_⟩
              refine rq_less (l' := [boxE b14 #[.int .i64 ((((rs.getD ((x).toNat) row0).ar).getD m arc0).f), .int .i64 ((((rs.getD ((x).toNat) row0).ar).getD m arc0).t), .int .i64 ((((rs.getD ((x).toNat) row0).ar).getD m arc0).d)] 82, rowE 3 1 u ys.length (ys.map (Value.int .i64)), rowE 3 1 v5 ((delL true gs s rs.length).length) ((delL true gs s rs.length).map (Value.int .i64)), intoE v2 rs, boxE b1 #[.int .i64 n, v] 38]) (sub_cons (d := 63) (congrArg some e5.1) (sub_nil _)) (List.sublist_append_right _ _) ?_
              exact rq_v (rv_ev rfl)
            ·
              intro vf pf hR
              have e6 : (vf 6) = .bool false ∧ (pf 6) = [] := hR 6 (by decide)
              exact Or.inr ⟨want_of (congrArg some e6.1) rfl, rfl, rfl⟩
            ·
              intro vf pf hR
              have e6 : (vf 6) = .bool false ∧ (pf 6) = [] := hR 6 (by decide)
              exact Or.inr ⟨want_of (congrArg some e6.1) rfl, rfl, rfl⟩
            ·
              intro vf pf hR
              have e6 : (vf 6) = .bool false ∧ (pf 6) = [] := hR 6 (by decide)
              exact Or.inr ⟨want_of (congrArg some e6.1) rfl, rfl, rfl⟩
            ·
              intro vf pf hR
              have e6 : (vf 6) = .bool false ∧ (pf 6) = [] := hR 6 (by decide)
              exact Or.inr ⟨want_of (congrArg some e6.1) rfl, rfl, rfl⟩
            ·
              intro vf pf hR
              have e6 : (vf 6) = .bool false ∧ (pf 6) = [] := hR 6 (by decide)
              exact Or.inr ⟨want_of (congrArg some e6.1) rfl, rfl, rfl⟩
            ·
              intro vf pf hR
              have e6 : (vf 6) = .bool false ∧ (pf 6) = [] := hR 6 (by decide)
              exact Or.inr ⟨want_of (congrArg some e6.1) rfl, rfl, rfl⟩
            ·
              intro vf pf hR
              have e6 : (vf 6) = .bool false ∧ (pf 6) = [] := hR 6 (by decide)
              exact Or.inr ⟨want_of (congrArg some e6.1) rfl, rfl, rfl⟩
            ·
              intro vf pf hR
              have e6 : (vf 6) = .bool false ∧ (pf 6) = [] := hR 6 (by decide)
              exact Or.inr ⟨want_of (congrArg some e6.1) rfl, rfl, rfl⟩
            ·
              intro vf pf hR
              have e6 : (vf 6) = .bool false ∧ (pf 6) = [] := hR 6 (by decide)
              exact Or.inr ⟨want_of (congrArg some e6.1) rfl, rfl, rfl⟩
            ·
              intro vf pf hR
              have e6 : (vf 6) = .bool false ∧ (pf 6) = [] := hR 6 (by decide)
              exact Or.inr ⟨want_of (congrArg some e6.1) rfl, rfl, rfl⟩
            ·
              intro vf pf hR
              have e6 : (vf 6) = .bool false ∧ (pf 6) = [] := hR 6 (by decide)
              exact Or.inr ⟨want_of (congrArg some e6.1) rfl, rfl, rfl⟩
            ·
              intro vf pf hR
              have e6 : (vf 6) = .bool false ∧ (pf 6) = [] := hR 6 (by decide)
              exact Or.inr ⟨want_of (congrArg some e6.1) rfl, rfl, rfl⟩
            ·
              intro vf pf hR
              have e6 : (vf 6) = .bool false ∧ (pf 6) = [] := hR 6 (by decide)
              exact Or.inr ⟨want_of (congrArg some e6.1) rfl, rfl, rfl⟩
            ·
              intro vf pf hR
              have e6 : (vf 6) = .bool false ∧ (pf 6) = [] := hR 6 (by decide)
              have e19 : (vf 19) = undef ∧ (pf 19) = [] := hR 19 (by decide)
              refine Or.inl ⟨rfl, ?_⟩
              refine rq_less (l' := [boxE b14 #[.int .i64 ((((rs.getD ((x).toNat) row0).ar).getD m arc0).f), .int .i64 ((((rs.getD ((x).toNat) row0).ar).getD m arc0).t), .int .i64 ((((rs.getD ((x).toNat) row0).ar).getD m arc0).d)] 82, rowE 3 1 u ys.length (ys.map (Value.int .i64)), rowE 3 1 v5 ((delL true gs s rs.length).length) ((delL true gs s rs.length).map (Value.int .i64)), intoE v2 rs, boxE b1 #[.int .i64 n, v] 38]) (sub_cons (d := 64) (congrArg some e6.1) (sub_cons (d := 77) (congrArg some e19.1) (sub_nil _))) (List.sublist_append_right _ _) ?_
              exact rq_v (rv_ev rfl)
            ·
              intro vf pf hR
              have e20 : (vf 20) = .bool false ∧ (pf 20) = [] := hR 20 (by decide)
              refine Or.inl ⟨rfl, ?_⟩
              refine rq_less (l' := [boxE b14 #[.int .i64 ((((rs.getD ((x).toNat) row0).ar).getD m arc0).f), .int .i64 ((((rs.getD ((x).toNat) row0).ar).getD m arc0).t), .int .i64 ((((rs.getD ((x).toNat) row0).ar).getD m arc0).d)] 82, rowE 3 1 u ys.length (ys.map (Value.int .i64)), rowE 3 1 v5 ((delL true gs s rs.length).length) ((delL true gs s rs.length).map (Value.int .i64)), intoE v2 rs, boxE b1 #[.int .i64 n, v] 38]) (sub_cons (d := 78) (congrArg some e20.1) (sub_nil _)) (List.sublist_append_right _ _) ?_
              exact rq_v (rv_ev rfl)
            ·
              intro vf pf hR
              have e21 : (vf 21) = .bool false ∧ (pf 21) = [] := hR 21 (by decide)
              exact Or.inr ⟨want_of (congrArg some e21.1) rfl, rfl, rfl⟩
            ·
              intro vf pf hR
              have e21 : (vf 21) = .bool false ∧ (pf 21) = [] := hR 21 (by decide)
              exact Or.inr ⟨want_of (congrArg some e21.1) rfl, rfl, rfl⟩
            ·
              intro vf pf hR
              have e21 : (vf 21) = .bool false ∧ (pf 21) = [] := hR 21 (by decide)
              exact Or.inr ⟨want_of (congrArg some e21.1) rfl, rfl, rfl⟩
            ·
              intro vf pf hR
              have e24 : (vf 24) = undef ∧ (pf 24) = [] := hR 24 (by decide)
              exact Or.inr ⟨want_un (congrArg some e24.1), rfl, rfl⟩
            ·
              intro vf pf hR
              have e24 : (vf 24) = undef ∧ (pf 24) = [] := hR 24 (by decide)
              exact Or.inr ⟨want_un (congrArg some e24.1), rfl, rfl⟩
            ·
              intro vf pf hR
              have e24 : (vf 24) = undef ∧ (pf 24) = [] := hR 24 (by decide)
              exact Or.inr ⟨want_un (congrArg some e24.1), rfl, rfl⟩
            ·
              intro vf pf hR
              have e24 : (vf 24) = undef ∧ (pf 24) = [] := hR 24 (by decide)
              exact Or.inr ⟨want_un (congrArg some e24.1), rfl, rfl⟩
            ·
              intro vf pf hR
              have e21 : (vf 21) = .bool false ∧ (pf 21) = [] := hR 21 (by decide)
              exact Or.inr ⟨want_of (congrArg some e21.1) rfl, rfl, rfl⟩
            ·
              intro vf pf hR
              have e21 : (vf 21) = .bool false ∧ (pf 21) = [] := hR 21 (by decide)
              have e29 : (vf 29) = undef ∧ (pf 29) = [] := hR 29 (by decide)
              refine Or.inl ⟨rfl, ?_⟩
              refine rq_less (l' := [boxE b14 #[.int .i64 ((((rs.getD ((x).toNat) row0).ar).getD m arc0).f), .int .i64 ((((rs.getD ((x).toNat) row0).ar).getD m arc0).t), .int .i64 ((((rs.getD ((x).toNat) row0).ar).getD m arc0).d)] 82, rowE 3 1 u ys.length (ys.map (Value.int .i64)), rowE 3 1 v5 ((delL true gs s rs.length).length) ((delL true gs s rs.length).map (Value.int .i64)), intoE v2 rs, boxE b1 #[.int .i64 n, v] 38]) (sub_cons (d := 79) (congrArg some e21.1) (sub_cons (d := 87) (congrArg some e29.1) (sub_nil _))) (List.sublist_append_right _ _) ?_
              exact rq_v (rv_ev rfl)
          ·
            intro vf pf hR
            have e30 : (vf 30) = .bool false ∧ (pf 30) = [] := hR 30 (by decide)
            refine hl_less (l' := [boxE b14 #[.int .i64 ((((rs.getD ((x).toNat) row0).ar).getD m arc0).f), .int .i64 ((((rs.getD ((x).toNat) row0).ar).getD m arc0).t), .int .i64 ((((rs.getD ((x).toNat) row0).ar).getD m arc0).d)] 82, rowE 3 1 u ys.length (ys.map (Value.int .i64)), rowE 3 1 v5 ((delL true gs s rs.length).length) ((delL true gs s rs.length).map (Value.int .i64)), intoE v2 rs, boxE b1 #[.int .i64 n, v] 38]) (sub_cons (d := 0) rfl (sub_cons (d := 1) rfl (sub_cons (d := 2) rfl (sub_cons (d := 3) rfl (sub_cons (d := 6) rfl (sub_cons (d := 7) rfl (sub_cons (d := 8) rfl (sub_cons (d := 9) rfl (sub_cons (d := 10) rfl (sub_cons (d := 11) rfl (sub_cons (d := 13) rfl (sub_cons (d := 32) rfl (sub_cons (d := 42) rfl (sub_cons (d := 48) rfl (sub_cons (d := 52) rfl (sub_cons (d := 53) rfl (sub_cons (d := 54) rfl (sub_cons (d := 55) rfl (sub_cons (d := 88) (congrArg some e30.1) (sub_nil _)))))))))))))))))))) (List.sublist_append_right _ _) ?_
            simp only [List.drop_succ_cons, List.drop_zero]
            refine hl_less (sub_cons (d := 0) rfl (sub_cons (d := 1) rfl (sub_cons (d := 2) rfl (sub_cons (d := 3) rfl (sub_cons (d := 6) rfl (sub_cons (d := 7) rfl (sub_cons (d := 8) rfl (sub_cons (d := 9) rfl (sub_cons (d := 10) rfl (sub_cons (d := 11) rfl (sub_cons (d := 13) rfl (sub_cons (d := 32) rfl (sub_cons (d := 42) rfl (sub_cons (d := 48) rfl (sub_cons (d := 52) rfl (sub_cons (d := 53) rfl (sub_cons (d := 54) rfl (sub_cons (d := 55) rfl (sub_cons (d := 88) rfl (sub_nil _)))))))))))))))))))) (.refl _) ?_
            refine hl_nil ?_
            refine hq_then ?_
            refine hc_false rfl ?_
            refine hc_skip ?_
            refine hq_block_normal ?_
            refine hq_then ?_
            refine hc_region ?_
            refine hl_v rfl rfl rfl (rv_add rfl rfl rfl (by constructor <;> omega)) ?_
            refine hl_v rfl rfl rfl (rv_ev rfl) ?_
            refine hl_less (sub_cons (d := 0) rfl (sub_cons (d := 1) rfl (sub_cons (d := 2) rfl (sub_cons (d := 3) rfl (sub_cons (d := 6) rfl (sub_cons (d := 7) rfl (sub_cons (d := 8) rfl (sub_cons (d := 9) rfl (sub_cons (d := 10) rfl (sub_cons (d := 11) rfl (sub_cons (d := 13) rfl (sub_cons (d := 32) rfl (sub_cons (d := 42) rfl (sub_cons (d := 48) rfl (sub_cons (d := 52) rfl (sub_cons (d := 53) rfl (sub_cons (d := 54) rfl (sub_cons (d := 55) rfl (sub_cons (d := 88) rfl (sub_nil _)))))))))))))))))))) (.refl _) ?_
            refine hl_nil ?_
            exact hq_round2 (m + 1) b ⟨by omega, by omega, by rcases hbo with ⟨hb1, hb2⟩ | hb3; (first | (exfalso; omega) | exact .inl ⟨hb1, fun q hq hc => by by_cases hqm : q = m; (subst hqm; obtain ⟨hc1, hc2⟩ := hc; omega); exact hb2 q (by omega) hc⟩); exact .inr hb3⟩ (by omega) (sub_cons (d := 0) rfl (sub_cons (d := 1) rfl (sub_cons (d := 2) rfl (sub_cons (d := 3) rfl (sub_cons (d := 6) rfl (sub_cons (d := 7) rfl (sub_cons (d := 8) rfl (sub_cons (d := 9) rfl (sub_cons (d := 10) rfl (sub_cons (d := 11) rfl (sub_cons (d := 32) rfl (sub_cons (d := 42) rfl (sub_cons (d := 48) rfl (sub_cons (d := 52) rfl (sub_cons (d := 53) rfl (sub_cons (d := 54) rfl (sub_nil _))))))))))))))))) ((.cons _ (.cons_cons _ (.cons_cons _ (.cons_cons _ (.cons_cons _ .slnil))))))
      ·
        refine hl_less (sub_cons (d := 0) rfl (sub_cons (d := 1) rfl (sub_cons (d := 2) rfl (sub_cons (d := 3) rfl (sub_cons (d := 6) rfl (sub_cons (d := 7) rfl (sub_cons (d := 8) rfl (sub_cons (d := 9) rfl (sub_cons (d := 10) rfl (sub_cons (d := 11) rfl (sub_cons (d := 32) rfl (sub_cons (d := 42) rfl (sub_cons (d := 48) rfl (sub_cons (d := 52) rfl (sub_cons (d := 53) rfl (sub_cons (d := 54) rfl (sub_cons (d := 55) rfl (sub_nil _)))))))))))))))))) (.refl _) ?_
        refine hl_nil ?_
        refine hq_then ?_
        refine hc_seq ?_
        refine hc_false rfl ?_
        refine hc_exit ?_
        refine hq_then_exit ?_
        refine hq_then_exit ?_
        refine hq_block_exit ?_
        refine hq_then ?_
        refine hc_seq ?_
        refine hc_region ?_
        have hbT : Tight gs s b x := by
              rcases hbo with ⟨hb1, hb2⟩ | ⟨hb1, a, ha, hf, h1, h2⟩
              · exfalso
                obtain ⟨a, ha, h1, h2⟩ := (Dl_max hg (s := s) (k := (x).toNat) (by omega)).2 hDx
                rw [← hinx] at ha
                obtain ⟨q, hq, rfl⟩ := List.mem_iff_getElem.1 ha
                refine hb2 q (by omega) ?_
                rw [List.getD_eq_getElem?_getD, List.getElem?_eq_getElem hq]
                exact ⟨h1, h2⟩
              · exact ⟨a, (into_mem.1 ha).1, hf, by have := (into_mem.1 ha).2; omega, by rw [← hf]; exact h1, by rw [← hf]; exact h2⟩
        have hbt := tight_rng hg hbT
        refine hl_v rfl rfl rfl (rv_ev rfl) ?_
        refine hl_v rfl rfl rfl (rv_ev rfl) ?_
        refine hl_less (sub_cons (d := 0) rfl (sub_cons (d := 1) rfl (sub_cons (d := 2) rfl (sub_cons (d := 3) rfl (sub_cons (d := 6) rfl (sub_cons (d := 7) rfl (sub_cons (d := 8) rfl (sub_cons (d := 9) rfl (sub_cons (d := 10) rfl (sub_cons (d := 11) rfl (sub_cons (d := 32) rfl (sub_cons (d := 42) rfl (sub_cons (d := 48) rfl (sub_cons (d := 52) rfl (sub_cons (d := 53) rfl (sub_cons (d := 54) rfl (sub_cons (d := 55) rfl (sub_nil _)))))))))))))))))) (.refl _) ?_
        refine hl_nil ?_
        refine hq_then ?_
        refine hc_region ?_
        refine hl_v rfl rfl rfl (rv_ev rfl) ?_
        refine hl_row rfl rfl rfl (rq_buildSlice (z := .int .i64 0) (s := 1) (cs := ([b].map (Value.int .i64))) rfl Try.underlying43 (by kernel_rfl) (by decide) rfl (by kernel_rfl) rfl) ?_
        intro g19
        refine hl_v rfl rfl rfl (rv_ev rfl) ?_
        refine hl_append (i := 0) (z := .int .i64 0) (bytes := 8) (n' := (([b]) ++ ys).length) (xs' := ((([b]) ++ ys).map (Value.int .i64))) (L := fun v20 => [rowE 3 1 v20 ((([b]) ++ ys).length) ((([b]) ++ ys).map (Value.int .i64)), rowE 3 1 u ys.length (ys.map (Value.int .i64)), rowE 3 1 v5 ((delL true gs s rs.length).length) ((delL true gs s rs.length).map (Value.int .i64)), intoE v2 rs, boxE b1 #[.int .i64 n, v] 38]) rfl rfl rfl rfl Try.underlying43 (by kernel_rfl) (by kernel_rfl) rfl rfl rfl (rd_row 1 rfl) (ints_one _) (by first | omega | (simp; omega)) (len_app ([b]) ys) (ints_app ([b]) ys) (fun _ => rfl) ?_
        intro v20
        refine hl_v rfl rfl rfl (rv_ev rfl) ?_
        refine hl_less (sub_cons (d := 0) rfl (sub_cons (d := 1) rfl (sub_cons (d := 2) rfl (sub_cons (d := 3) rfl (sub_cons (d := 6) rfl (sub_cons (d := 7) rfl (sub_cons (d := 8) rfl (sub_cons (d := 9) rfl (sub_cons (d := 10) rfl (sub_cons (d := 11) rfl (sub_cons (d := 32) rfl (sub_cons (d := 42) rfl (sub_cons (d := 48) rfl (sub_cons (d := 52) rfl (sub_cons (d := 53) rfl (sub_cons (d := 54) rfl (sub_cons (d := 55) rfl (sub_nil _)))))))))))))))))) (.refl _) ?_
        refine hl_nil ?_
        refine hq_block_normal ?_
        exact hq_round3 b v20 ([b] ++ ys) ⟨by omega, hbt.2.2.1, ⟨by simp, by simp only [List.length_append, List.length_singleton]; omega⟩, rfl, by rw [List.length_append, List.length_singleton, List.getD_eq_getElem?_getD, List.getElem?_append_right (by simp; omega), show 1 + ys.length - 1 - [b].length = ys.length - 1 by simp, ← List.getD_eq_getElem?_getD]; exact hyz, chain_cons hch (by omega) (by rw [hyf]; exact hbT)⟩ (by omega) (sub_cons (d := 0) rfl (sub_cons (d := 1) rfl (sub_cons (d := 2) rfl (sub_cons (d := 3) rfl (sub_cons (d := 6) rfl (sub_cons (d := 7) rfl (sub_cons (d := 8) rfl (sub_cons (d := 9) rfl (sub_cons (d := 10) rfl (sub_cons (d := 32) rfl (sub_cons (d := 42) rfl (sub_nil _)))))))))))) ((.cons_cons _ (.cons _ (.cons_cons _ (.cons_cons _ (.cons_cons _ .slnil))))))
    ·
      refine hl_less (sub_cons (d := 0) rfl (sub_cons (d := 1) rfl (sub_cons (d := 2) rfl (sub_cons (d := 3) rfl (sub_cons (d := 6) rfl (sub_cons (d := 7) rfl (sub_cons (d := 8) rfl (sub_cons (d := 9) rfl (sub_cons (d := 10) rfl (sub_cons (d := 32) rfl (sub_cons (d := 42) rfl (sub_cons (d := 48) rfl (sub_nil _))))))))))))) (.refl _) ?_
      refine hl_nil ?_
      refine hq_then ?_
      refine hc_false rfl ?_
      refine hc_exit ?_
      refine hq_then_exit ?_
      refine hq_then_exit ?_
      refine hq_block_exit ?_
      refine hq_then ?_
      refine hc_seq ?_
      refine hc_region ?_
      refine hl_v rfl rfl rfl (rv_ev rfl) ?_
      refine hl_v rfl rfl rfl (rv_ev rfl) ?_
      refine hl_less (sub_cons (d := 0) rfl (sub_cons (d := 1) rfl (sub_cons (d := 2) rfl (sub_cons (d := 3) rfl (sub_cons (d := 6) rfl (sub_cons (d := 7) rfl (sub_cons (d := 8) rfl (sub_cons (d := 9) rfl (sub_cons (d := 10) rfl (sub_cons (d := 32) rfl (sub_cons (d := 42) rfl (sub_cons (d := 48) rfl (sub_nil _))))))))))))) (.refl _) ?_
      refine hl_nil ?_
      refine hq_then ?_
      refine hc_ret ?_
      have hxs : x = s := by omega
      exact hq_retR (post := [rowE 3 1 u ys.length (ys.map (Value.int .i64))]) rfl rfl ((.cons_cons _ (.cons _ (.cons _ (.cons _ .slnil))))) ⟨ys, rfl, by omega, fun h => absurd h (by omega), fun _ => ⟨hyl, by omega, by rw [hyf, hxs], hyz, hch⟩⟩
set_option maxHeartbeats 4000000 in
set_option maxRecDepth 100000 in
theorem PathDelay_ans (n : Int) (gs : List Arc) (v : Value) (s e : Int) (ys : List Int) (pv : Value) (w : World) (hg : GOk n gs) (hv : RdsW w v 3 gs.length (gs.flatMap arcC)) (hs : 0 ≤ s ∧ s < n) (hp : PathOk n gs s e ys) (hpv : RdsW w pv 1 ys.length (ys.map (Value.int .i64))) :
    Calls Try.prog 21 #[.agg #[.int .i64 n, v], pv] w (Ans w (.int .i64 (Dl true gs s e.toNat))) := by
  obtain ⟨hn0, hn1, hgl, -⟩ := id hg
  have hl0 := hp.l0
  have hl1 := hp.l1
  refine calls_hc (N := 54) (args := [.agg #[.int .i64 n, v], pv]) Try.func21 rfl rfl ?_
  refine hc_less _ (sub_cons (d := 0) rfl (sub_cons (d := 1) rfl (sub_nil _))) (.refl _) ?_
  refine hc_seq ?_
  refine hc_region ?_
  refine hl_box rfl rfl rfl (rq_box rfl rfl) ?_
  intro b1
  refine hl_v rfl rfl rfl (rv_ev rfl) ?_
  refine hl_less (sub_cons (d := 0) rfl (sub_cons (d := 1) rfl (sub_cons (d := 2) rfl (sub_cons (d := 4) rfl (sub_nil _))))) (.refl _) ?_
  refine hl_nil ?_
  refine hq_then ?_
  refine hc_seq ?_
  refine hc_seq ?_
  refine hc_region ?_
  refine hl_v rfl rfl rfl (rv_loadN (cs := [.int .i64 n, v]) rfl (by kernel_rfl) (by kernel_rfl) rfl rfl (box_part 0 rfl 0 rfl)) ?_
  refine hl_callV rfl rfl rfl (rq_call (by kernel_rfl) rfl (fun w hm => ret_ans (implTimingOk_yes n gs v w hg (hv.below hm.bel)))) ?_
  refine hl_v rfl rfl rfl (rv_ev rfl) ?_
  refine hl_less (sub_cons (d := 0) rfl (sub_cons (d := 1) rfl (sub_cons (d := 2) rfl (sub_cons (d := 4) rfl (sub_cons (d := 12) rfl (sub_nil _)))))) (.refl _) ?_
  refine hl_nil ?_
  refine hq_then ?_
  refine hc_false rfl ?_
  refine hc_skip ?_
  refine hq_then ?_
  refine hc_seq ?_
  refine hc_region ?_
  refine hl_v rfl rfl rfl (rv_ev rfl) ?_
  refine hl_less (sub_cons (d := 0) rfl (sub_cons (d := 1) rfl (sub_cons (d := 2) rfl (sub_cons (d := 4) rfl (sub_cons (d := 5) rfl (sub_cons (d := 12) rfl (sub_nil _))))))) (.refl _) ?_
  refine hl_nil ?_
  refine hq_then ?_
  refine hc_seq ?_
  refine hc_seq ?_
  refine hc_region ?_
  refine hl_v rfl rfl rfl (rv_ev rfl) ?_
  refine hl_less (sub_cons (d := 0) rfl (sub_cons (d := 1) rfl (sub_cons (d := 2) rfl (sub_cons (d := 4) rfl (sub_cons (d := 5) rfl (sub_cons (d := 6) rfl (sub_cons (d := 12) rfl (sub_nil _)))))))) (.refl _) ?_
  refine hl_nil ?_
  refine hq_then ?_
  refine hc_block ?_
  refine hc_loop2 (α := Nat) (β := Int) (fun i o => [boxE b1 #[.int .i64 n, v] 38]) (fun i o => [(0, .agg #[.int .i64 n, v]), (1, pv), (2, .pointer (some ⟨b1, 0, none⟩)), (4, .int .i64 0), (5, .int .i64 o), (6, .int .i64 (i : Int)), (12, .bool false)]) (fun i o => (1 ≤ i ∧ i ≤ ys.length) ∧ o = (Dl true gs s ((ys.getD (i - 1) 0)).toNat) - (Dl true gs s ((ys.getD 0 0)).toNat)) (fun i o => ys.length - i) 1 0 ⟨⟨by omega, by omega⟩, by simp⟩ (sub_cons (d := 0) rfl (sub_cons (d := 1) rfl (sub_cons (d := 2) rfl (sub_cons (d := 4) rfl (sub_cons (d := 5) rfl (sub_cons (d := 6) rfl (sub_cons (d := 12) rfl (sub_nil _)))))))) ((.cons_cons _ .slnil)) ?_
  intro i o hi2
  obtain ⟨⟨hi1, hi2⟩, ho⟩ := hi2
  refine hc_seq ?_
  refine hc_seq ?_
  refine hc_region ?_
  refine hl_v rfl rfl rfl (rv_ev rfl) ?_
  refine hl_v rfl rfl rfl (rv_ev rfl) ?_
  refine hl_v rfl rfl rfl (rv_len rfl Try.underlying43 rfl (rd_old hpv)) ?_
  refine hl_lss rfl rfl rfl rfl rfl rfl (fun h3 => ?_) (fun h3 => ?_)
  ·
    refine hl_less (sub_cons (d := 0) rfl (sub_cons (d := 1) rfl (sub_cons (d := 2) rfl (sub_cons (d := 4) rfl (sub_cons (d := 5) rfl (sub_cons (d := 6) rfl (sub_cons (d := 12) rfl (sub_cons (d := 16) rfl (sub_nil _))))))))) (.refl _) ?_
    refine hl_nil ?_
    refine hq_then ?_
    refine hc_true rfl ?_
    refine hc_skip ?_
    refine hq_then ?_
    refine hc_seq ?_
    refine hc_block ?_
    refine hc_seq ?_
    refine hc_region ?_
    have hti : Tight gs s (ys.getD (((i : Nat) : Int) - 1).toNat 0) (ys.getD i 0) := by have := hp.chain (i - 1) (by omega); rw [show i - 1 + 1 = i by omega, show i - 1 = (((i : Nat) : Int) - 1).toNat by omega] at this; exact this
    obtain ⟨tr1, tr2, tr3, tr4⟩ := tight_rng hg hti
    have hdi := Dl_bnd hg true s ((ys.getD i 0)).toNat
    have hdp := Dl_bnd hg true s ((ys.getD (((i : Nat) : Int) - 1).toNat 0)).toNat
    refine hl_v rfl rfl rfl (rv_ev rfl) ?_
    refine hl_less (sub_cons (d := 0) rfl (sub_cons (d := 1) rfl (sub_cons (d := 2) rfl (sub_cons (d := 4) rfl (sub_cons (d := 5) rfl (sub_cons (d := 6) rfl (sub_cons (d := 7) rfl (sub_cons (d := 12) rfl (sub_cons (d := 16) rfl (sub_nil _)))))))))) (.refl _) ?_
    refine hl_nil ?_
    refine hq_then ?_
    refine hc_seq ?_
    refine hc_seq ?_
    refine hc_region ?_
    refine hl_v rfl rfl rfl (rv_field (k0 := 1) rfl (by kernel_rfl) rfl) ?_
    refine hl_v rfl rfl rfl (rv_load rfl (by kernel_rfl) rfl (box_cell 0 rfl rfl)) ?_
    refine hl_v rfl rfl rfl (rv_len rfl Try.underlying36 rfl (rd_old hv)) ?_
    refine hl_v rfl rfl rfl (rv_ev rfl) ?_
    refine hl_less (sub_cons (d := 0) rfl (sub_cons (d := 1) rfl (sub_cons (d := 2) rfl (sub_cons (d := 4) rfl (sub_cons (d := 5) rfl (sub_cons (d := 6) rfl (sub_cons (d := 7) rfl (sub_cons (d := 12) rfl (sub_cons (d := 16) rfl (sub_cons (d := 20) rfl (sub_cons (d := 21) rfl (sub_cons (d := 22) rfl (sub_nil _))))))))))))) (.refl _) ?_
    refine hl_nil ?_
    refine hq_then ?_
    refine hc_block ?_
    refine hc_loop2 (α := Nat) (β := Int) (fun m b => [boxE b1 #[.int .i64 n, v] 38]) (fun m b => [(0, .agg #[.int .i64 n, v]), (1, pv), (2, .pointer (some ⟨b1, 0, none⟩)), (4, .int .i64 0), (5, .int .i64 o), (6, .int .i64 (i : Int)), (7, .int .i64 b), (12, .bool false), (16, .bool true), (20, v), (21, .int .i64 (gs.length : Int)), (22, .int .i64 (m : Int))]) (fun m b => m ≤ gs.length ∧ (-1 ≤ b ∧ b ≤ (Dl true gs s ((ys.getD i 0)).toNat) - (Dl true gs s ((ys.getD (((i : Nat) : Int) - 1).toNat 0)).toNat)) ∧ ∀ q, q < m → (gs.getD q arc0).f = ys.getD (((i : Nat) : Int) - 1).toNat 0 → (gs.getD q arc0).t = ys.getD i 0 → (gs.getD q arc0).d ≤ b) (fun m b => gs.length - m) 0 (-1) ⟨by omega, ⟨by omega, by omega⟩, fun q hq => absurd hq (by omega)⟩ (sub_cons (d := 0) rfl (sub_cons (d := 1) rfl (sub_cons (d := 2) rfl (sub_cons (d := 4) rfl (sub_cons (d := 5) rfl (sub_cons (d := 6) rfl (sub_cons (d := 7) rfl (sub_cons (d := 12) rfl (sub_cons (d := 16) rfl (sub_cons (d := 20) rfl (sub_cons (d := 21) rfl (sub_cons (d := 22) rfl (sub_nil _))))))))))))) ((.cons_cons _ .slnil)) ?_
    intro m b hi4
    obtain ⟨hm, hbr, hbq⟩ := hi4
    refine hc_seq ?_
    refine hc_region ?_
    refine hl_lss rfl rfl rfl rfl rfl rfl (fun h5 => ?_) (fun h5 => ?_)
    ·
      refine hl_less (sub_cons (d := 0) rfl (sub_cons (d := 1) rfl (sub_cons (d := 2) rfl (sub_cons (d := 4) rfl (sub_cons (d := 5) rfl (sub_cons (d := 6) rfl (sub_cons (d := 7) rfl (sub_cons (d := 12) rfl (sub_cons (d := 16) rfl (sub_cons (d := 20) rfl (sub_cons (d := 21) rfl (sub_cons (d := 22) rfl (sub_cons (d := 23) rfl (sub_nil _)))))))))))))) (.refl _) ?_
      refine hl_nil ?_
      refine hq_then ?_
      refine hc_seq ?_
      refine hc_true rfl ?_
      refine hc_skip ?_
      refine hq_then ?_
      refine hc_seq ?_
      refine hc_block ?_
      refine hc_seq ?_
      refine hc_region ?_
      refine hl_v rfl rfl rfl (rv_index (s := 3) rfl Try.underlying36 (by kernel_rfl) rfl rfl (rd_old hv) (by omega) (by first | omega | (simp only [List.length_set]; omega))) ?_
      refine hl_v rfl rfl rfl (rv_loadElN (us := [.int .i64 ((gs.getD m arc0).f), .int .i64 ((gs.getD m arc0).t), .int .i64 ((gs.getD m arc0).d)]) rfl (by kernel_rfl) (by kernel_rfl) rfl (rd_old hv) (by omega) rfl (flat_atN arcC 3 (fun _ => rfl) gs arc0 (show m < _ by first | omega | (simp only [List.length_set]; omega)) rfl)) ?_
      refine hl_box rfl rfl rfl (rq_alloc (z := .agg #[.int .i64 0, .int .i64 0, .int .i64 0]) rfl (by kernel_rfl)) ?_
      intro b6
      refine hl_storeBoxN (i := 0) (off := 0) (us := [.int .i64 ((gs.getD m arc0).f), .int .i64 ((gs.getD m arc0).t), .int .i64 ((gs.getD m arc0).d)]) (l' := [boxE b6 #[.int .i64 ((gs.getD m arc0).f), .int .i64 ((gs.getD m arc0).t), .int .i64 ((gs.getD m arc0).d)] 82, boxE b1 #[.int .i64 n, v] 38]) rfl rfl rfl (by kernel_rfl) rfl rfl rfl (all_cons rfl (all_cons rfl (all_cons rfl all_nil))) rfl rfl rfl ?_
      refine hl_less (sub_cons (d := 0) rfl (sub_cons (d := 1) rfl (sub_cons (d := 2) rfl (sub_cons (d := 4) rfl (sub_cons (d := 5) rfl (sub_cons (d := 6) rfl (sub_cons (d := 7) rfl (sub_cons (d := 9) rfl (sub_cons (d := 12) rfl (sub_cons (d := 16) rfl (sub_cons (d := 20) rfl (sub_cons (d := 21) rfl (sub_cons (d := 22) rfl (sub_cons (d := 23) rfl (sub_nil _))))))))))))))) (.refl _) ?_
      refine hl_nil ?_
      refine hq_then ?_
      refine hc_seq ?_
      have ham := hg.at (i := m) (by omega)
      rcases Bool.eq_false_or_eq_true (((gs.getD m arc0).f) == (ys.getD (((i : Int) - 1).toNat) 0)) with hb7 | hb7
      ·
        have hb7p : (gs.getD m arc0).f = ys.getD (((i : Int) - 1).toNat) 0 := beq_iff_eq.1 hb7
        have ham := hg.at (i := m) (by omega)
        have ham := hg.at (i := m) (by omega)
        rcases Bool.eq_false_or_eq_true (((gs.getD m arc0).t) == (ys.getD i 0)) with hb8 | hb8
        ·
          have hb8p : (gs.getD m arc0).t = ys.getD i 0 := beq_iff_eq.1 hb8
          have ham := hg.at (i := m) (by omega)
          have ham := hg.at (i := m) (by omega)
          refine hc_draw (by kernel_rfl) 17 [0, 1, 2, 3, 4, 5, 6, 7, 8, 9, 10, 11, 12, 13, 14, 15, 16] (List.take 17 _) (List.drop 17 _) [[], [0], [], [], [3], [2, 4], [5], [1, 6], [7], [8], [8, 9], [8], [8], [8, 11, 12], [8, 13], [8, 10, 14], [8, 15]] [26, 27, 28, 29, 30, 31, 32, 33, 34, 35, 36, 37, 38, 39, 40, 41, 42] (fun i_ vs_ v_ p_ => match i_ with | 0 => v_ = .pointer (some ⟨b6, 0 + 0, none⟩) ∧ p_ = [] | 1 => v_ = .int .i64 ((gs.getD m arc0).f) ∧ p_ = [] | 2 => v_ = pv ∧ p_ = [] | 3 => v_ = .int .i64 (i : Int) ∧ p_ = [] | 4 => v_ = .int .i64 ((i : Int) - 1) ∧ p_ = [] | 5 => v_ = elP pv (((i : Int) - 1).toNat * 1) ∧ p_ = [] | 6 => v_ = .int .i64 (ys.getD (((i : Int) - 1).toNat) 0) ∧ p_ = [] | 7 => v_ = .bool true ∧ p_ = [] | 8 => v_ = .bool true ∧ p_ = [] | 9 => v_ = .pointer (some ⟨b6, 0 + 1, none⟩) ∧ p_ = [] | 10 => v_ = .int .i64 ((gs.getD m arc0).t) ∧ p_ = [] | 11 => v_ = pv ∧ p_ = [] | 12 => v_ = .int .i64 (i : Int) ∧ p_ = [] | 13 => v_ = elP pv (((i : Int)).toNat * 1) ∧ p_ = [] | 14 => v_ = .int .i64 (ys.getD i 0) ∧ p_ = [] | 15 => v_ = .bool true ∧ p_ = [] | 16 => v_ = .bool true ∧ p_ = [] | _ => True) (List.take_append_drop 17 _).symm (by kernel_rfl) (by kernel_rfl) rfl rfl ?_ ?_
          ·
            refine ⟨?_, ?_, ?_, ?_, ?_, ?_, ?_, ?_, ?_, ?_, ?_, ?_, ?_, ?_, ?_, ?_, ?_, trivial⟩
            ·
              intro vf pf hR
              refine Or.inl ⟨rfl, ?_⟩
              refine rq_less (l' := [boxE b6 #[.int .i64 ((gs.getD m arc0).f), .int .i64 ((gs.getD m arc0).t), .int .i64 ((gs.getD m arc0).d)] 82, boxE b1 #[.int .i64 n, v] 38]) (sub_cons (d := 9) rfl (sub_nil _)) (List.sublist_append_right _ _) ?_
              exact rq_v (rv_field (k0 := 0) rfl (by kernel_rfl) rfl)
            ·
              intro vf pf hR
              have e0 : (vf 0) = .pointer (some ⟨b6, 0 + 0, none⟩) ∧ (pf 0) = [] := hR 0 (by decide)
              refine Or.inl ⟨rfl, ?_⟩
              refine rq_less (l' := [boxE b6 #[.int .i64 ((gs.getD m arc0).f), .int .i64 ((gs.getD m arc0).t), .int .i64 ((gs.getD m arc0).d)] 82, boxE b1 #[.int .i64 n, v] 38]) (sub_cons (d := 26) (congrArg some e0.1) (sub_nil _)) (List.sublist_append_right _ _) ?_
              exact rq_v (rv_load rfl (by kernel_rfl) rfl (box_cell 0 rfl rfl))
            ·
              intro vf pf hR
              refine Or.inl ⟨rfl, ?_⟩
              refine rq_less (l' := [boxE b6 #[.int .i64 ((gs.getD m arc0).f), .int .i64 ((gs.getD m arc0).t), .int .i64 ((gs.getD m arc0).d)] 82, boxE b1 #[.int .i64 n, v] 38]) (sub_cons (d := 1) rfl (sub_nil _)) (List.sublist_append_right _ _) ?_
              exact rq_v (rv_ev rfl)
            ·
              intro vf pf hR
              refine Or.inl ⟨rfl, ?_⟩
              refine rq_less (l' := [boxE b6 #[.int .i64 ((gs.getD m arc0).f), .int .i64 ((gs.getD m arc0).t), .int .i64 ((gs.getD m arc0).d)] 82, boxE b1 #[.int .i64 n, v] 38]) (sub_cons (d := 6) rfl (sub_nil _)) (List.sublist_append_right _ _) ?_
              exact rq_v (rv_ev rfl)
            ·
              intro vf pf hR
              have e3 : (vf 3) = .int .i64 (i : Int) ∧ (pf 3) = [] := hR 3 (by decide)
              refine Or.inl ⟨rfl, ?_⟩
              refine rq_less (l' := [boxE b6 #[.int .i64 ((gs.getD m arc0).f), .int .i64 ((gs.getD m arc0).t), .int .i64 ((gs.getD m arc0).d)] 82, boxE b1 #[.int .i64 n, v] 38]) (sub_cons (d := 29) (congrArg some e3.1) (sub_nil _)) (List.sublist_append_right _ _) ?_
              exact rq_v (rv_sub rfl rfl rfl (by constructor <;> omega))
            ·
              intro vf pf hR
              have e2 : (vf 2) = pv ∧ (pf 2) = [] := hR 2 (by decide)
              have e4 : (vf 4) = .int .i64 ((i : Int) - 1) ∧ (pf 4) = [] := hR 4 (by decide)
              refine Or.inl ⟨rfl, ?_⟩
              refine rq_less (l' := [boxE b6 #[.int .i64 ((gs.getD m arc0).f), .int .i64 ((gs.getD m arc0).t), .int .i64 ((gs.getD m arc0).d)] 82, boxE b1 #[.int .i64 n, v] 38]) (sub_cons (d := 28) (congrArg some e2.1) (sub_cons (d := 30) (congrArg some e4.1) (sub_nil _))) (List.sublist_append_right _ _) ?_
              exact rq_v (rv_index (s := 1) rfl Try.underlying43 (by kernel_rfl) rfl rfl (rd_old hpv) (by omega) (by first | omega | (simp only [List.length_set]; omega)))
            ·
              intro vf pf hR
              have e5 : (vf 5) = elP pv (((i : Int) - 1).toNat * 1) ∧ (pf 5) = [] := hR 5 (by decide)
              refine Or.inl ⟨rfl, ?_⟩
              refine rq_less (l' := [boxE b6 #[.int .i64 ((gs.getD m arc0).f), .int .i64 ((gs.getD m arc0).t), .int .i64 ((gs.getD m arc0).d)] 82, boxE b1 #[.int .i64 n, v] 38]) (sub_cons (d := 31) (congrArg some e5.1) (sub_nil _)) (List.sublist_append_right _ _) ?_
              exact rq_v (rv_loadEl (u := .int .i64 (ys.getD (((i : Int) - 1).toNat) 0)) rfl (by kernel_rfl) rfl (rd_old hpv) (ints_at1 (show _ < ys.length by first | omega | (simp only [List.length_set]; omega))))
            ·
              intro vf pf hR
              have e1 : (vf 1) = .int .i64 ((gs.getD m arc0).f) ∧ (pf 1) = [] := hR 1 (by decide)
              have e6 : (vf 6) = .int .i64 (ys.getD (((i : Int) - 1).toNat) 0) ∧ (pf 6) = [] := hR 6 (by decide)
              refine Or.inl ⟨rfl, ?_⟩
              refine rq_less (l' := [boxE b6 #[.int .i64 ((gs.getD m arc0).f), .int .i64 ((gs.getD m arc0).t), .int .i64 ((gs.getD m arc0).d)] 82, boxE b1 #[.int .i64 n, v] 38]) (sub_cons (d := 27) (congrArg some e1.1) (sub_cons (d := 32) (congrArg some e6.1) (sub_nil _))) (List.sublist_append_right _ _) ?_
              exact rq_mono (rq_v (rv_cmp rfl rfl rfl rfl)) (fun _ _ h => ⟨h.1.trans (congrArg Value.bool hb7), h.2⟩)
            ·
              intro vf pf hR
              have e7 : (vf 7) = .bool true ∧ (pf 7) = [] := hR 7 (by decide)
              refine Or.inl ⟨rfl, ?_⟩
              refine rq_less (l' := [boxE b6 #[.int .i64 ((gs.getD m arc0).f), .int .i64 ((gs.getD m arc0).t), .int .i64 ((gs.getD m arc0).d)] 82, boxE b1 #[.int .i64 n, v] 38]) (sub_cons (d := 33) (congrArg some e7.1) (sub_nil _)) (List.sublist_append_right _ _) ?_
              exact rq_v (rv_ev rfl)
            ·
              intro vf pf hR
              have e8 : (vf 8) = .bool true ∧ (pf 8) = [] := hR 8 (by decide)
              refine Or.inl ⟨want_of (congrArg some e8.1) rfl, ?_⟩
              refine rq_less (l' := [boxE b6 #[.int .i64 ((gs.getD m arc0).f), .int .i64 ((gs.getD m arc0).t), .int .i64 ((gs.getD m arc0).d)] 82, boxE b1 #[.int .i64 n, v] 38]) (sub_cons (d := 9) rfl (sub_nil _)) (List.sublist_append_right _ _) ?_
              exact rq_v (rv_field (k0 := 1) rfl (by kernel_rfl) rfl)
            ·
              intro vf pf hR
              have e8 : (vf 8) = .bool true ∧ (pf 8) = [] := hR 8 (by decide)
              have e9 : (vf 9) = .pointer (some ⟨b6, 0 + 1, none⟩) ∧ (pf 9) = [] := hR 9 (by decide)
              refine Or.inl ⟨want_of (congrArg some e8.1) rfl, ?_⟩
              refine rq_less (l' := [boxE b6 #[.int .i64 ((gs.getD m arc0).f), .int .i64 ((gs.getD m arc0).t), .int .i64 ((gs.getD m arc0).d)] 82, boxE b1 #[.int .i64 n, v] 38]) (sub_cons (d := 35) (congrArg some e9.1) (sub_nil _)) (List.sublist_append_right _ _) ?_
              exact rq_v (rv_load rfl (by kernel_rfl) rfl (box_cell 0 rfl rfl))
            ·
              intro vf pf hR
              have e8 : (vf 8) = .bool true ∧ (pf 8) = [] := hR 8 (by decide)
              refine Or.inl ⟨want_of (congrArg some e8.1) rfl, ?_⟩
              refine rq_less (l' := [boxE b6 #[.int .i64 ((gs.getD m arc0).f), .int .i64 ((gs.getD m arc0).t), .int .i64 ((gs.getD m arc0).d)] 82, boxE b1 #[.int .i64 n, v] 38]) (sub_cons (d := 1) rfl (sub_nil _)) (List.sublist_append_right _ _) ?_
              exact rq_v (rv_ev rfl)
            ·
              intro vf pf hR
              have e8 : (vf 8) = .bool true ∧ (pf 8) = [] := hR 8 (by decide)
              refine Or.inl ⟨want_of (congrArg some e8.1) rfl, ?_⟩
              refine rq_less (l' := [boxE b6 #[.int .i64 ((gs.getD m arc0).f), .int .i64 ((gs.getD m arc0).t), .int .i64 ((gs.getD m arc0).d)] 82, boxE b1 #[.int .i64 n, v] 38]) (sub_cons (d := 6) rfl (sub_nil _)) (List.sublist_append_right _ _) ?_
              exact rq_v (rv_ev rfl)
            ·
              intro vf pf hR
              have e8 : (vf 8) = .bool true ∧ (pf 8) = [] := hR 8 (by decide)
              have e11 : (vf 11) = pv ∧ (pf 11) = [] := hR 11 (by decide)
              have e12 : (vf 12) = .int .i64 (i : Int) ∧ (pf 12) = [] := hR 12 (by decide)
              refine Or.inl ⟨want_of (congrArg some e8.1) rfl, ?_⟩
              refine rq_less (l' := [boxE b6 #[.int .i64 ((gs.getD m arc0).f), .int .i64 ((gs.getD m arc0).t), .int .i64 ((gs.getD m arc0).d)] 82, boxE b1 #[.int .i64 n, v] 38]) (sub_cons (d := 37) (congrArg some e11.1) (sub_cons (d := 38) (congrArg some e12.1) (sub_nil _))) (List.sublist_append_right _ _) ?_
              exact rq_v (rv_index (s := 1) rfl Try.underlying43 (by kernel_rfl) rfl rfl (rd_old hpv) (by omega) (by first | omega | (simp only [List.length_set]; omega)))
            ·
              intro vf pf hR
              have e8 : (vf 8) = .bool true ∧ (pf 8) = [] := hR 8 (by decide)
              have e13 : (vf 13) = elP pv (((i : Int)).toNat * 1) ∧ (pf 13) = [] := hR 13 (by decide)
              refine Or.inl ⟨want_of (congrArg some e8.1) rfl, ?_⟩
              refine rq_less (l' := [boxE b6 #[.int .i64 ((gs.getD m arc0).f), .int .i64 ((gs.getD m arc0).t), .int .i64 ((gs.getD m arc0).d)] 82, boxE b1 #[.int .i64 n, v] 38]) (sub_cons (d := 39) (congrArg some e13.1) (sub_nil _)) (List.sublist_append_right _ _) ?_
              exact rq_v (rv_loadEl (u := .int .i64 (ys.getD i 0)) rfl (by kernel_rfl) rfl (rd_old hpv) (ints_at1 (show _ < ys.length by first | omega | (simp only [List.length_set]; omega))))
            ·
              intro vf pf hR
              have e8 : (vf 8) = .bool true ∧ (pf 8) = [] := hR 8 (by decide)
              have e10 : (vf 10) = .int .i64 ((gs.getD m arc0).t) ∧ (pf 10) = [] := hR 10 (by decide)
              have e14 : (vf 14) = .int .i64 (ys.getD i 0) ∧ (pf 14) = [] := hR 14 (by decide)
              refine Or.inl ⟨want_of (congrArg some e8.1) rfl, ?_⟩
              refine rq_less (l' := [boxE b6 #[.int .i64 ((gs.getD m arc0).f), .int .i64 ((gs.getD m arc0).t), .int .i64 ((gs.getD m arc0).d)] 82, boxE b1 #[.int .i64 n, v] 38]) (sub_cons (d := 36) (congrArg some e10.1) (sub_cons (d := 40) (congrArg some e14.1) (sub_nil _))) (List.sublist_append_right _ _) ?_
              exact rq_mono (rq_v (rv_cmp rfl rfl rfl rfl)) (fun _ _ h => ⟨h.1.trans (congrArg Value.bool hb8), h.2⟩)
            ·
              intro vf pf hR
              have e8 : (vf 8) = .bool true ∧ (pf 8) = [] := hR 8 (by decide)
              have e15 : (vf 15) = .bool true ∧ (pf 15) = [] := hR 15 (by decide)
              refine Or.inl ⟨rfl, ?_⟩
              refine rq_less (l' := [boxE b6 #[.int .i64 ((gs.getD m arc0).f), .int .i64 ((gs.getD m arc0).t), .int .i64 ((gs.getD m arc0).d)] 82, boxE b1 #[.int .i64 n, v] 38]) (sub_cons (d := 34) (congrArg some e8.1) (sub_cons (d := 41) (congrArg some e15.1) (sub_nil _))) (List.sublist_append_right _ _) ?_
              exact rq_v (rv_ev rfl)
          ·
            intro vf pf hR
            have e16 : (vf 16) = .bool true ∧ (pf 16) = [] := hR 16 (by decide)
            refine hl_less (l' := [boxE b6 #[.int .i64 ((gs.getD m arc0).f), .int .i64 ((gs.getD m arc0).t), .int .i64 ((gs.getD m arc0).d)] 82, boxE b1 #[.int .i64 n, v] 38]) (sub_cons (d := 0) rfl (sub_cons (d := 1) rfl (sub_cons (d := 2) rfl (sub_cons (d := 4) rfl (sub_cons (d := 5) rfl (sub_cons (d := 6) rfl (sub_cons (d := 7) rfl (sub_cons (d := 9) rfl (sub_cons (d := 12) rfl (sub_cons (d := 16) rfl (sub_cons (d := 20) rfl (sub_cons (d := 21) rfl (sub_cons (d := 22) rfl (sub_cons (d := 23) rfl (sub_cons (d := 42) (congrArg some e16.1) (sub_nil _)))))))))))))))) (List.sublist_append_right _ _) ?_
            simp only [List.drop_succ_cons, List.drop_zero]
            refine hl_less (sub_cons (d := 0) rfl (sub_cons (d := 1) rfl (sub_cons (d := 2) rfl (sub_cons (d := 4) rfl (sub_cons (d := 5) rfl (sub_cons (d := 6) rfl (sub_cons (d := 7) rfl (sub_cons (d := 9) rfl (sub_cons (d := 12) rfl (sub_cons (d := 16) rfl (sub_cons (d := 20) rfl (sub_cons (d := 21) rfl (sub_cons (d := 22) rfl (sub_cons (d := 23) rfl (sub_cons (d := 42) rfl (sub_nil _)))))))))))))))) (.refl _) ?_
            refine hl_nil ?_
            refine hq_then ?_
            refine hc_true rfl ?_
            refine hc_region ?_
            refine hl_v rfl rfl rfl (rv_ev rfl) ?_
            refine hl_v rfl rfl rfl (rv_field (k0 := 2) rfl (by kernel_rfl) rfl) ?_
            refine hl_v rfl rfl rfl (rv_load rfl (by kernel_rfl) rfl (box_cell 0 rfl rfl)) ?_
            refine hl_v rfl rfl rfl (rv_max rfl rfl rfl) ?_
            refine hl_v rfl rfl rfl (rv_ev rfl) ?_
            refine hl_less (sub_cons (d := 0) rfl (sub_cons (d := 1) rfl (sub_cons (d := 2) rfl (sub_cons (d := 4) rfl (sub_cons (d := 5) rfl (sub_cons (d := 6) rfl (sub_cons (d := 7) rfl (sub_cons (d := 9) rfl (sub_cons (d := 12) rfl (sub_cons (d := 16) rfl (sub_cons (d := 20) rfl (sub_cons (d := 21) rfl (sub_cons (d := 22) rfl (sub_cons (d := 23) rfl (sub_cons (d := 42) rfl (sub_nil _)))))))))))))))) (.refl _) ?_
            refine hl_nil ?_
            refine hq_block_normal ?_
            refine hq_then ?_
            refine hc_region ?_
            refine hl_v rfl rfl rfl (rv_add rfl rfl rfl (by constructor <;> omega)) ?_
            refine hl_v rfl rfl rfl (rv_ev rfl) ?_
            refine hl_less (sub_cons (d := 0) rfl (sub_cons (d := 1) rfl (sub_cons (d := 2) rfl (sub_cons (d := 4) rfl (sub_cons (d := 5) rfl (sub_cons (d := 6) rfl (sub_cons (d := 7) rfl (sub_cons (d := 9) rfl (sub_cons (d := 12) rfl (sub_cons (d := 16) rfl (sub_cons (d := 20) rfl (sub_cons (d := 21) rfl (sub_cons (d := 22) rfl (sub_cons (d := 23) rfl (sub_cons (d := 42) rfl (sub_nil _)))))))))))))))) (.refl _) ?_
            refine hl_nil ?_
            exact hq_round2 (m + 1) (if b < (gs.getD m arc0).d then (gs.getD m arc0).d else b) ⟨by omega, ⟨by split <;> omega, by have := tight_max hg hti (getD_mem' (es := gs) (i := m) (d := arc0) (by omega)) (by omega) (by omega); split <;> omega⟩, fun q hq h1 h2 => by by_cases hqm : q = m; (subst hqm; split <;> omega); have := hbq q (by omega) h1 h2; split <;> omega⟩ (by omega) (sub_cons (d := 0) rfl (sub_cons (d := 1) rfl (sub_cons (d := 2) rfl (sub_cons (d := 4) rfl (sub_cons (d := 5) rfl (sub_cons (d := 6) rfl (sub_cons (d := 7) rfl (sub_cons (d := 12) rfl (sub_cons (d := 16) rfl (sub_cons (d := 20) rfl (sub_cons (d := 21) rfl (sub_cons (d := 22) rfl (sub_nil _))))))))))))) ((.cons _ (.cons_cons _ .slnil)))
        ·
          have hb8p : (gs.getD m arc0).t ≠ ys.getD i 0 := beq_eq_false_iff_ne.1 hb8
          have ham := hg.at (i := m) (by omega)
          have ham := hg.at (i := m) (by omega)
          refine hc_draw (by kernel_rfl) 17 [0, 1, 2, 3, 4, 5, 6, 7, 8, 9, 10, 11, 12, 13, 14, 15, 16] (List.take 17 _) (List.drop 17 _) [[], [0], [], [], [3], [2, 4], [5], [1, 6], [7], [8], [8, 9], [8], [8], [8, 11, 12], [8, 13], [8, 10, 14], [8, 15]] [26, 27, 28, 29, 30, 31, 32, 33, 34, 35, 36, 37, 38, 39, 40, 41, 42] (fun i_ vs_ v_ p_ => match i_ with | 0 => v_ = .pointer (some ⟨b6, 0 + 0, none⟩) ∧ p_ = [] | 1 => v_ = .int .i64 ((gs.getD m arc0).f) ∧ p_ = [] | 2 => v_ = pv ∧ p_ = [] | 3 => v_ = .int .i64 (i : Int) ∧ p_ = [] | 4 => v_ = .int .i64 ((i : Int) - 1) ∧ p_ = [] | 5 => v_ = elP pv (((i : Int) - 1).toNat * 1) ∧ p_ = [] | 6 => v_ = .int .i64 (ys.getD (((i : Int) - 1).toNat) 0) ∧ p_ = [] | 7 => v_ = .bool true ∧ p_ = [] | 8 => v_ = .bool true ∧ p_ = [] | 9 => v_ = .pointer (some ⟨b6, 0 + 1, none⟩) ∧ p_ = [] | 10 => v_ = .int .i64 ((gs.getD m arc0).t) ∧ p_ = [] | 11 => v_ = pv ∧ p_ = [] | 12 => v_ = .int .i64 (i : Int) ∧ p_ = [] | 13 => v_ = elP pv (((i : Int)).toNat * 1) ∧ p_ = [] | 14 => v_ = .int .i64 (ys.getD i 0) ∧ p_ = [] | 15 => v_ = .bool false ∧ p_ = [] | 16 => v_ = .bool false ∧ p_ = [] | _ => True) (List.take_append_drop 17 _).symm (by kernel_rfl) (by kernel_rfl) rfl rfl ?_ ?_
          ·
            refine ⟨?_, ?_, ?_, ?_, ?_, ?_, ?_, ?_, ?_, ?_, ?_, ?_, ?_, ?_, ?_, ?_, ?_, trivial⟩
            ·
              intro vf pf hR
              refine Or.inl ⟨rfl, ?_⟩
              refine rq_less (l' := [boxE b6 #[.int .i64 ((gs.getD m arc0).f), .int .i64 ((gs.getD m arc0).t), .int .i64 ((gs.getD m arc0).d)] 82, boxE b1 #[.int .i64 n, v] 38]) (sub_cons (d := 9) rfl (sub_nil _)) (List.sublist_append_right _ _) ?_
              exact rq_v (rv_field (k0 := 0) rfl (by kernel_rfl) rfl)
            ·
              intro vf pf hR
              have e0 : (vf 0) = .pointer (some ⟨b6, 0 + 0, none⟩) ∧ (pf 0) = [] := hR 0 (by decide)
              refine Or.inl ⟨rfl, ?_⟩
              refine rq_less (l' := [boxE b6 #[.int .i64 ((gs.getD m arc0).f), .int .i64 ((gs.getD m arc0).t), .int .i64 ((gs.getD m arc0).d)] 82, boxE b1 #[.int .i64 n, v] 38]) (sub_cons (d := 26) (congrArg some e0.1) (sub_nil _)) (List.sublist_append_right _ _) ?_
              exact rq_v (rv_load rfl (by kernel_rfl) rfl (box_cell 0 rfl rfl))
            ·
              intro vf pf hR
              refine Or.inl ⟨rfl, ?_⟩
              refine rq_less (l' := [boxE b6 #[.int .i64 ((gs.getD m arc0).f), .int .i64 ((gs.getD m arc0).t), .int .i64 ((gs.getD m arc0).d)] 82, boxE b1 #[.int .i64 n, v] 38]) (sub_cons (d := 1) rfl (sub_nil _)) (List.sublist_append_right _ _) ?_
              exact rq_v (rv_ev rfl)
            ·
              intro vf pf hR
              refine Or.inl ⟨rfl, ?_⟩
              refine rq_less (l' := [boxE b6 #[.int .i64 ((gs.getD m arc0).f), .int .i64 ((gs.getD m arc0).t), .int .i64 ((gs.getD m arc0).d)] 82, boxE b1 #[.int .i64 n, v] 38]) (sub_cons (d := 6) rfl (sub_nil _)) (List.sublist_append_right _ _) ?_
              exact rq_v (rv_ev rfl)
            ·
              intro vf pf hR
              have e3 : (vf 3) = .int .i64 (i : Int) ∧ (pf 3) = [] := hR 3 (by decide)
              refine Or.inl ⟨rfl, ?_⟩
              refine rq_less (l' := [boxE b6 #[.int .i64 ((gs.getD m arc0).f), .int .i64 ((gs.getD m arc0).t), .int .i64 ((gs.getD m arc0).d)] 82, boxE b1 #[.int .i64 n, v] 38]) (sub_cons (d := 29) (congrArg some e3.1) (sub_nil _)) (List.sublist_append_right _ _) ?_
              exact rq_v (rv_sub rfl rfl rfl (by constructor <;> omega))
            ·
              intro vf pf hR
              have e2 : (vf 2) = pv ∧ (pf 2) = [] := hR 2 (by decide)
              have e4 : (vf 4) = .int .i64 ((i : Int) - 1) ∧ (pf 4) = [] := hR 4 (by decide)
              refine Or.inl ⟨rfl, ?_⟩
              refine rq_less (l' := [boxE b6 #[.int .i64 ((gs.getD m arc0).f), .int .i64 ((gs.getD m arc0).t), .int .i64 ((gs.getD m arc0).d)] 82, boxE b1 #[.int .i64 n, v] 38]) (sub_cons (d := 28) (congrArg some e2.1) (sub_cons (d := 30) (congrArg some e4.1) (sub_nil _))) (List.sublist_append_right _ _) ?_
              exact rq_v (rv_index (s := 1) rfl Try.underlying43 (by kernel_rfl) rfl rfl (rd_old hpv) (by omega) (by first | omega | (simp only [List.length_set]; omega)))
            ·
              intro vf pf hR
              have e5 : (vf 5) = elP pv (((i : Int) - 1).toNat * 1) ∧ (pf 5) = [] := hR 5 (by decide)
              refine Or.inl ⟨rfl, ?_⟩
              refine rq_less (l' := [boxE b6 #[.int .i64 ((gs.getD m arc0).f), .int .i64 ((gs.getD m arc0).t), .int .i64 ((gs.getD m arc0).d)] 82, boxE b1 #[.int .i64 n, v] 38]) (sub_cons (d := 31) (congrArg some e5.1) (sub_nil _)) (List.sublist_append_right _ _) ?_
              exact rq_v (rv_loadEl (u := .int .i64 (ys.getD (((i : Int) - 1).toNat) 0)) rfl (by kernel_rfl) rfl (rd_old hpv) (ints_at1 (show _ < ys.length by first | omega | (simp only [List.length_set]; omega))))
            ·
              intro vf pf hR
              have e1 : (vf 1) = .int .i64 ((gs.getD m arc0).f) ∧ (pf 1) = [] := hR 1 (by decide)
              have e6 : (vf 6) = .int .i64 (ys.getD (((i : Int) - 1).toNat) 0) ∧ (pf 6) = [] := hR 6 (by decide)
              refine Or.inl ⟨rfl, ?_⟩
              refine rq_less (l' := [boxE b6 #[.int .i64 ((gs.getD m arc0).f), .int .i64 ((gs.getD m arc0).t), .int .i64 ((gs.getD m arc0).d)] 82, boxE b1 #[.int .i64 n, v] 38]) (sub_cons (d := 27) (congrArg some e1.1) (sub_cons (d := 32) (congrArg some e6.1) (sub_nil _))) (List.sublist_append_right _ _) ?_
              exact rq_mono (rq_v (rv_cmp rfl rfl rfl rfl)) (fun _ _ h => ⟨h.1.trans (congrArg Value.bool hb7), h.2⟩)
            ·
              intro vf pf hR
              have e7 : (vf 7) = .bool true ∧ (pf 7) = [] := hR 7 (by decide)
              refine Or.inl ⟨rfl, ?_⟩
              refine rq_less (l' := [boxE b6 #[.int .i64 ((gs.getD m arc0).f), .int .i64 ((gs.getD m arc0).t), .int .i64 ((gs.getD m arc0).d)] 82, boxE b1 #[.int .i64 n, v] 38]) (sub_cons (d := 33) (congrArg some e7.1) (sub_nil _)) (List.sublist_append_right _ _) ?_
              exact rq_v (rv_ev rfl)
            ·
              intro vf pf hR
              have e8 : (vf 8) = .bool true ∧ (pf 8) = [] := hR 8 (by decide)
              refine Or.inl ⟨want_of (congrArg some e8.1) rfl, ?_⟩
              refine rq_less (l' := [boxE b6 #[.int .i64 ((gs.getD m arc0).f), .int .i64 ((gs.getD m arc0).t), .int .i64 ((gs.getD m arc0).d)] 82, boxE b1 #[.int .i64 n, v] 38]) (sub_cons (d := 9) rfl (sub_nil _)) (List.sublist_append_right _ _) ?_
              exact rq_v (rv_field (k0 := 1) rfl (by kernel_rfl) rfl)
            ·
              intro vf pf hR
              have e8 : (vf 8) = .bool true ∧ (pf 8) = [] := hR 8 (by decide)
              have e9 : (vf 9) = .pointer (some ⟨b6, 0 + 1, none⟩) ∧ (pf 9) = [] := hR 9 (by decide)
              refine Or.inl ⟨want_of (congrArg some e8.1) rfl, ?_⟩
              refine rq_less (l' := [boxE b6 #[.int .i64 ((gs.getD m arc0).f), .int .i64 ((gs.getD m arc0).t), .int .i64 ((gs.getD m arc0).d)] 82, boxE b1 #[.int .i64 n, v] 38]) (sub_cons (d := 35) (congrArg some e9.1) (sub_nil _)) (List.sublist_append_right _ _) ?_
              exact rq_v (rv_load rfl (by kernel_rfl) rfl (box_cell 0 rfl rfl))
            ·
              intro vf pf hR
              have e8 : (vf 8) = .bool true ∧ (pf 8) = [] := hR 8 (by decide)
              refine Or.inl ⟨want_of (congrArg some e8.1) rfl, ?_⟩
              refine rq_less (l' := [boxE b6 #[.int .i64 ((gs.getD m arc0).f), .int .i64 ((gs.getD m arc0).t), .int .i64 ((gs.getD m arc0).d)] 82, boxE b1 #[.int .i64 n, v] 38]) (sub_cons (d := 1) rfl (sub_nil _)) (List.sublist_append_right _ _) ?_
              exact rq_v (rv_ev rfl)
            ·
              intro vf pf hR
              have e8 : (vf 8) = .bool true ∧ (pf 8) = [] := hR 8 (by decide)
              refine Or.inl ⟨want_of (congrArg some e8.1) rfl, ?_⟩
              refine rq_less (l' := [boxE b6 #[.int .i64 ((gs.getD m arc0).f), .int .i64 ((gs.getD m arc0).t), .int .i64 ((gs.getD m arc0).d)] 82, boxE b1 #[.int .i64 n, v] 38]) (sub_cons (d := 6) rfl (sub_nil _)) (List.sublist_append_right _ _) ?_
              exact rq_v (rv_ev rfl)
            ·
              intro vf pf hR
              have e8 : (vf 8) = .bool true ∧ (pf 8) = [] := hR 8 (by decide)
              have e11 : (vf 11) = pv ∧ (pf 11) = [] := hR 11 (by decide)
              have e12 : (vf 12) = .int .i64 (i : Int) ∧ (pf 12) = [] := hR 12 (by decide)
              refine Or.inl ⟨want_of (congrArg some e8.1) rfl, ?_⟩
              refine rq_less (l' := [boxE b6 #[.int .i64 ((gs.getD m arc0).f), .int .i64 ((gs.getD m arc0).t), .int .i64 ((gs.getD m arc0).d)] 82, boxE b1 #[.int .i64 n, v] 38]) (sub_cons (d := 37) (congrArg some e11.1) (sub_cons (d := 38) (congrArg some e12.1) (sub_nil _))) (List.sublist_append_right _ _) ?_
              exact rq_v (rv_index (s := 1) rfl Try.underlying43 (by kernel_rfl) rfl rfl (rd_old hpv) (by omega) (by first | omega | (simp only [List.length_set]; omega)))
            ·
              intro vf pf hR
              have e8 : (vf 8) = .bool true ∧ (pf 8) = [] := hR 8 (by decide)
              have e13 : (vf 13) = elP pv (((i : Int)).toNat * 1) ∧ (pf 13) = [] := hR 13 (by decide)
              refine Or.inl ⟨want_of (congrArg some e8.1) rfl, ?_⟩
              refine rq_less (l' := [boxE b6 #[.int .i64 ((gs.getD m arc0).f), .int .i64 ((gs.getD m arc0).t), .int .i64 ((gs.getD m arc0).d)] 82, boxE b1 #[.int .i64 n, v] 38]) (sub_cons (d := 39) (congrArg some e13.1) (sub_nil _)) (List.sublist_append_right _ _) ?_
              exact rq_v (rv_loadEl (u := .int .i64 (ys.getD i 0)) rfl (by kernel_rfl) rfl (rd_old hpv) (ints_at1 (show _ < ys.length by first | omega | (simp only [List.length_set]; omega))))
            ·
              intro vf pf hR
              have e8 : (vf 8) = .bool true ∧ (pf 8) = [] := hR 8 (by decide)
              have e10 : (vf 10) = .int .i64 ((gs.getD m arc0).t) ∧ (pf 10) = [] := hR 10 (by decide)
              have e14 : (vf 14) = .int .i64 (ys.getD i 0) ∧ (pf 14) = [] := hR 14 (by decide)
              refine Or.inl ⟨want_of (congrArg some e8.1) rfl, ?_⟩
              refine rq_less (l' := [boxE b6 #[.int .i64 ((gs.getD m arc0).f), .int .i64 ((gs.getD m arc0).t), .int .i64 ((gs.getD m arc0).d)] 82, boxE b1 #[.int .i64 n, v] 38]) (sub_cons (d := 36) (congrArg some e10.1) (sub_cons (d := 40) (congrArg some e14.1) (sub_nil _))) (List.sublist_append_right _ _) ?_
              exact rq_mono (rq_v (rv_cmp rfl rfl rfl rfl)) (fun _ _ h => ⟨h.1.trans (congrArg Value.bool hb8), h.2⟩)
            ·
              intro vf pf hR
              have e8 : (vf 8) = .bool true ∧ (pf 8) = [] := hR 8 (by decide)
              have e15 : (vf 15) = .bool false ∧ (pf 15) = [] := hR 15 (by decide)
              refine Or.inl ⟨rfl, ?_⟩
              refine rq_less (l' := [boxE b6 #[.int .i64 ((gs.getD m arc0).f), .int .i64 ((gs.getD m arc0).t), .int .i64 ((gs.getD m arc0).d)] 82, boxE b1 #[.int .i64 n, v] 38]) (sub_cons (d := 34) (congrArg some e8.1) (sub_cons (d := 41) (congrArg some e15.1) (sub_nil _))) (List.sublist_append_right _ _) ?_
              exact rq_v (rv_ev rfl)
          ·
            intro vf pf hR
            have e16 : (vf 16) = .bool false ∧ (pf 16) = [] := hR 16 (by decide)
            refine hl_less (l' := [boxE b6 #[.int .i64 ((gs.getD m arc0).f), .int .i64 ((gs.getD m arc0).t), .int .i64 ((gs.getD m arc0).d)] 82, boxE b1 #[.int .i64 n, v] 38]) (sub_cons (d := 0) rfl (sub_cons (d := 1) rfl (sub_cons (d := 2) rfl (sub_cons (d := 4) rfl (sub_cons (d := 5) rfl (sub_cons (d := 6) rfl (sub_cons (d := 7) rfl (sub_cons (d := 9) rfl (sub_cons (d := 12) rfl (sub_cons (d := 16) rfl (sub_cons (d := 20) rfl (sub_cons (d := 21) rfl (sub_cons (d := 22) rfl (sub_cons (d := 23) rfl (sub_cons (d := 42) (congrArg some e16.1) (sub_nil _)))))))))))))))) (List.sublist_append_right _ _) ?_
            simp only [List.drop_succ_cons, List.drop_zero]
            refine hl_less (sub_cons (d := 0) rfl (sub_cons (d := 1) rfl (sub_cons (d := 2) rfl (sub_cons (d := 4) rfl (sub_cons (d := 5) rfl (sub_cons (d := 6) rfl (sub_cons (d := 7) rfl (sub_cons (d := 9) rfl (sub_cons (d := 12) rfl (sub_cons (d := 16) rfl (sub_cons (d := 20) rfl (sub_cons (d := 21) rfl (sub_cons (d := 22) rfl (sub_cons (d := 23) rfl (sub_cons (d := 42) rfl (sub_nil _)))))))))))))))) (.refl _) ?_
            refine hl_nil ?_
            refine hq_then ?_
            refine hc_false rfl ?_
            refine hc_skip ?_
            refine hq_block_normal ?_
            refine hq_then ?_
            refine hc_region ?_
            refine hl_v rfl rfl rfl (rv_add rfl rfl rfl (by constructor <;> omega)) ?_
            refine hl_v rfl rfl rfl (rv_ev rfl) ?_
            refine hl_less (sub_cons (d := 0) rfl (sub_cons (d := 1) rfl (sub_cons (d := 2) rfl (sub_cons (d := 4) rfl (sub_cons (d := 5) rfl (sub_cons (d := 6) rfl (sub_cons (d := 7) rfl (sub_cons (d := 9) rfl (sub_cons (d := 12) rfl (sub_cons (d := 16) rfl (sub_cons (d := 20) rfl (sub_cons (d := 21) rfl (sub_cons (d := 22) rfl (sub_cons (d := 23) rfl (sub_cons (d := 42) rfl (sub_nil _)))))))))))))))) (.refl _) ?_
            refine hl_nil ?_
            exact hq_round2 (m + 1) b ⟨by omega, hbr, fun q hq h1 h2 => by by_cases hqm : q = m; (subst hqm; exfalso; omega); exact hbq q (by omega) h1 h2⟩ (by omega) (sub_cons (d := 0) rfl (sub_cons (d := 1) rfl (sub_cons (d := 2) rfl (sub_cons (d := 4) rfl (sub_cons (d := 5) rfl (sub_cons (d := 6) rfl (sub_cons (d := 7) rfl (sub_cons (d := 12) rfl (sub_cons (d := 16) rfl (sub_cons (d := 20) rfl (sub_cons (d := 21) rfl (sub_cons (d := 22) rfl (sub_nil _))))))))))))) ((.cons _ (.cons_cons _ .slnil)))
      ·
        have hb7p : (gs.getD m arc0).f ≠ ys.getD (((i : Int) - 1).toNat) 0 := beq_eq_false_iff_ne.1 hb7
        have ham := hg.at (i := m) (by omega)
        refine hc_draw (by kernel_rfl) 17 [0, 1, 2, 3, 4, 5, 6, 7, 8, 9, 10, 11, 12, 13, 14, 15, 16] (List.take 17 _) (List.drop 17 _) [[], [0], [], [], [3], [2, 4], [5], [1, 6], [7], [8], [8], [8], [8], [8], [8], [8], [8, 15]] [26, 27, 28, 29, 30, 31, 32, 33, 34, 35, 36, 37, 38, 39, 40, 41, 42] (fun i_ vs_ v_ p_ => match i_ with | 0 => v_ = .pointer (some ⟨b6, 0 + 0, none⟩) ∧ p_ = [] | 1 => v_ = .int .i64 ((gs.getD m arc0).f) ∧ p_ = [] | 2 => v_ = pv ∧ p_ = [] | 3 => v_ = .int .i64 (i : Int) ∧ p_ = [] | 4 => v_ = .int .i64 ((i : Int) - 1) ∧ p_ = [] | 5 => v_ = elP pv (((i : Int) - 1).toNat * 1) ∧ p_ = [] | 6 => v_ = .int .i64 (ys.getD (((i : Int) - 1).toNat) 0) ∧ p_ = [] | 7 => v_ = .bool false ∧ p_ = [] | 8 => v_ = .bool false ∧ p_ = [] | 9 => v_ = undef ∧ p_ = [] | 10 => v_ = undef ∧ p_ = [] | 11 => v_ = undef ∧ p_ = [] | 12 => v_ = undef ∧ p_ = [] | 13 => v_ = undef ∧ p_ = [] | 14 => v_ = undef ∧ p_ = [] | 15 => v_ = undef ∧ p_ = [] | 16 => v_ = .bool false ∧ p_ = [] | _ => True) (List.take_append_drop 17 _).symm (by kernel_rfl) (by kernel_rfl) rfl rfl ?_ ?_
        ·
          refine ⟨?_, ?_, ?_, ?_, ?_, ?_, ?_, ?_, ?_, ?_, ?_, ?_, ?_, ?_, ?_, ?_, ?_, trivial⟩
          ·
            intro vf pf hR
            refine Or.inl ⟨rfl, ?_⟩
            refine rq_less (l' := [boxE b6 #[.int .i64 ((gs.getD m arc0).f), .int .i64 ((gs.getD m arc0).t), .int .i64 ((gs.getD m arc0).d)] 82, boxE b1 #[.int .i64 n, v] 38]) (sub_cons (d := 9) rfl (sub_nil _)) (List.sublist_append_right _ _) ?_
            exact rq_v (rv_field (k0 := 0) rfl (by kernel_rfl) rfl)
          ·
            intro vf pf hR
            have e0 : (vf 0) = .pointer (some ⟨b6, 0 + 0, none⟩) ∧ (pf 0) = [] := hR 0 (by decide)
            refine Or.inl ⟨rfl, ?_⟩
            refine rq_less (l' := [boxE b6 #[.int .i64 ((gs.getD m arc0).f), .int .i64 ((gs.getD m arc0).t), .int .i64 ((gs.getD m arc0).d)] 82, boxE b1 #[.int .i64 n, v] 38]) (sub_cons (d := 26) (congrArg some e0.1) (sub_nil _)) (List.sublist_append_right _ _) ?_
            exact rq_v (rv_load rfl (by kernel_rfl) rfl (box_cell 0 rfl rfl))
          ·
            intro vf pf hR
            refine Or.inl ⟨rfl, ?_⟩
            refine rq_less (l' := [boxE b6 #[.int .i64 ((gs.getD m arc0).f), .int .i64 ((gs.getD m arc0).t), .int .i64 ((gs.getD m arc0).d)] 82, boxE b1 #[.int .i64 n, v] 38]) (sub_cons (d := 1) rfl (sub_nil _)) (List.sublist_append_right _ _) ?_
            exact rq_v (rv_ev rfl)
          ·
            intro vf pf hR
            refine Or.inl ⟨rfl, ?_⟩
            refine rq_less (l' := [boxE b6 #[.int .i64 ((gs.getD m arc0).f), .int .i64 ((gs.getD m arc0).t), .int .i64 ((gs.getD m arc0).d)] 82, boxE b1 #[.int .i64 n, v] 38]) (sub_cons (d := 6) rfl (sub_nil _)) (List.sublist_append_right _ _) ?_
            exact rq_v (rv_ev rfl)
          ·
            intro vf pf hR
            have e3 : (vf 3) = .int .i64 (i : Int) ∧ (pf 3) = [] := hR 3 (by decide)
            refine Or.inl ⟨rfl, ?_⟩
            refine rq_less (l' := [boxE b6 #[.int .i64 ((gs.getD m arc0).f), .int .i64 ((gs.getD m arc0).t), .int .i64 ((gs.getD m arc0).d)] 82, boxE b1 #[.int .i64 n, v] 38]) (sub_cons (d := 29) (congrArg some e3.1) (sub_nil _)) (List.sublist_append_right _ _) ?_
            exact rq_v (rv_sub rfl rfl rfl (by constructor <;> omega))
          ·
            intro vf pf hR
            have e2 : (vf 2) = pv ∧ (pf 2) = [] := hR 2 (by decide)
            have e4 : (vf 4) = .int .i64 ((i : Int) - 1) ∧ (pf 4) = [] := hR 4 (by decide)
            refine Or.inl ⟨rfl, ?_⟩
            refine rq_less (l' := [boxE b6 #[.int .i64 ((gs.getD m arc0).f), .int .i64 ((gs.getD m arc0).t), .int .i64 ((gs.getD m arc0).d)] 82, boxE b1 #[.int .i64 n, v] 38]) (sub_cons (d := 28) (congrArg some e2.1) (sub_cons (d := 30) (congrArg some e4.1) (sub_nil _))) (List.sublist_append_right _ _) ?_
            exact rq_v (rv_index (s := 1) rfl Try.underlying43 (by kernel_rfl) rfl rfl (rd_old hpv) (by omega) (by first | omega | (simp only [List.length_set]; omega)))
          ·
            intro vf pf hR
            have e5 : (vf 5) = elP pv (((i : Int) - 1).toNat * 1) ∧ (pf 5) = [] := hR 5 (by decide)
            refine Or.inl ⟨rfl, ?_⟩
            refine rq_less (l' := [boxE b6 #[.int .i64 ((gs.getD m arc0).f), .int .i64 ((gs.getD m arc0).t), .int .i64 ((gs.getD m arc0).d)] 82, boxE b1 #[.int .i64 n, v] 38]) (sub_cons (d := 31) (congrArg some e5.1) (sub_nil _)) (List.sublist_append_right _ _) ?_
            exact rq_v (rv_loadEl (u := .int .i64 (ys.getD (((i : Int) - 1).toNat) 0)) rfl (by kernel_rfl) rfl (rd_old hpv) (ints_at1 (show _ < ys.length by first | omega | (simp only [List.length_set]; omega))))
          ·
            intro vf pf hR
            have e1 : (vf 1) = .int .i64 ((gs.getD m arc0).f) ∧ (pf 1) = [] := hR 1 (by decide)
            have e6 : (vf 6) = .int .i64 (ys.getD (((i : Int) - 1).toNat) 0) ∧ (pf 6) = [] := hR 6 (by decide)
            refine Or.inl ⟨rfl, ?_⟩
            refine rq_less (l' := [boxE b6 #[.int .i64 ((gs.getD m arc0).f), .int .i64 ((gs.getD m arc0).t), .int .i64 ((gs.getD m arc0).d)] 82, boxE b1 #[.int .i64 n, v] 38]) (sub_cons (d := 27) (congrArg some e1.1) (sub_cons (d := 32) (congrArg some e6.1) (sub_nil _))) (List.sublist_append_right _ _) ?_
            exact rq_mono (rq_v (rv_cmp rfl rfl rfl rfl)) (fun _ _ h => ⟨h.1.trans (congrArg Value.bool hb7), h.2⟩)
          ·
            intro vf pf hR
            have e7 : (vf 7) = .bool false ∧ (pf 7) = [] := hR 7 (by decide)
            refine Or.inl ⟨rfl, ?_⟩
            refine rq_less (l' := [boxE b6 #[.int .i64 ((gs.getD m arc0).f), .int .i64 ((gs.getD m arc0).t), .int .i64 ((gs.getD m arc0).d)] 82, boxE b1 #[.int .i64 n, v] 38]) (sub_cons (d := 33) (congrArg some e7.1) (sub_nil _)) (List.sublist_append_right _ _) ?_
            exact rq_v (rv_ev rfl)
          ·
            intro vf pf hR
            have e8 : (vf 8) = .bool false ∧ (pf 8) = [] := hR 8 (by decide)
            exact Or.inr ⟨want_of (congrArg some e8.1) rfl, rfl, rfl⟩
          ·
            intro vf pf hR
            have e8 : (vf 8) = .bool false ∧ (pf 8) = [] := hR 8 (by decide)
            exact Or.inr ⟨want_of (congrArg some e8.1) rfl, rfl, rfl⟩
          ·
            intro vf pf hR
            have e8 : (vf 8) = .bool false ∧ (pf 8) = [] := hR 8 (by decide)
            exact Or.inr ⟨want_of (congrArg some e8.1) rfl, rfl, rfl⟩
          ·
            intro vf pf hR
            have e8 : (vf 8) = .bool false ∧ (pf 8) = [] := hR 8 (by decide)
            exact Or.inr ⟨want_of (congrArg some e8.1) rfl, rfl, rfl⟩
          ·
            intro vf pf hR
            have e8 : (vf 8) = .bool false ∧ (pf 8) = [] := hR 8 (by decide)
            exact Or.inr ⟨want_of (congrArg some e8.1) rfl, rfl, rfl⟩
          ·
            intro vf pf hR
            have e8 : (vf 8) = .bool false ∧ (pf 8) = [] := hR 8 (by decide)
            exact Or.inr ⟨want_of (congrArg some e8.1) rfl, rfl, rfl⟩
          ·
            intro vf pf hR
            have e8 : (vf 8) = .bool false ∧ (pf 8) = [] := hR 8 (by decide)
            exact Or.inr ⟨want_of (congrArg some e8.1) rfl, rfl, rfl⟩
          ·
            intro vf pf hR
            have e8 : (vf 8) = .bool false ∧ (pf 8) = [] := hR 8 (by decide)
            have e15 : (vf 15) = undef ∧ (pf 15) = [] := hR 15 (by decide)
            refine Or.inl ⟨rfl, ?_⟩
            refine rq_less (l' := [boxE b6 #[.int .i64 ((gs.getD m arc0).f), .int .i64 ((gs.getD m arc0).t), .int .i64 ((gs.getD m arc0).d)] 82, boxE b1 #[.int .i64 n, v] 38]) (sub_cons (d := 34) (congrArg some e8.1) (sub_cons (d := 41) (congrArg some e15.1) (sub_nil _))) (List.sublist_append_right _ _) ?_
            exact rq_v (rv_ev rfl)
        ·
          intro vf pf hR
          have e16 : (vf 16) = .bool false ∧ (pf 16) = [] := hR 16 (by decide)
          refine hl_less (l' := [boxE b6 #[.int .i64 ((gs.getD m arc0).f), .int .i64 ((gs.getD m arc0).t), .int .i64 ((gs.getD m arc0).d)] 82, boxE b1 #[.int .i64 n, v] 38]) (sub_cons (d := 0) rfl (sub_cons (d := 1) rfl (sub_cons (d := 2) rfl (sub_cons (d := 4) rfl (sub_cons (d := 5) rfl (sub_cons (d := 6) rfl (sub_cons (d := 7) rfl (sub_cons (d := 9) rfl (sub_cons (d := 12) rfl (sub_cons (d := 16) rfl (sub_cons (d := 20) rfl (sub_cons (d := 21) rfl (sub_cons (d := 22) rfl (sub_cons (d := 23) rfl (sub_cons (d := 42) (congrArg some e16.1) (sub_nil _)))))))))))))))) (List.sublist_append_right _ _) ?_
          simp only [List.drop_succ_cons, List.drop_zero]
          refine hl_less (sub_cons (d := 0) rfl (sub_cons (d := 1) rfl (sub_cons (d := 2) rfl (sub_cons (d := 4) rfl (sub_cons (d := 5) rfl (sub_cons (d := 6) rfl (sub_cons (d := 7) rfl (sub_cons (d := 9) rfl (sub_cons (d := 12) rfl (sub_cons (d := 16) rfl (sub_cons (d := 20) rfl (sub_cons (d := 21) rfl (sub_cons (d := 22) rfl (sub_cons (d := 23) rfl (sub_cons (d := 42) rfl (sub_nil _)))))))))))))))) (.refl _) ?_
          refine hl_nil ?_
          refine hq_then ?_
          refine hc_false rfl ?_
          refine hc_skip ?_
          refine hq_block_normal ?_
          refine hq_then ?_
          refine hc_region ?_
          refine hl_v rfl rfl rfl (rv_add rfl rfl rfl (by constructor <;> omega)) ?_
          refine hl_v rfl rfl rfl (rv_ev rfl) ?_
          refine hl_less (sub_cons (d := 0) rfl (sub_cons (d := 1) rfl (sub_cons (d := 2) rfl (sub_cons (d := 4) rfl (sub_cons (d := 5) rfl (sub_cons (d := 6) rfl (sub_cons (d := 7) rfl (sub_cons (d := 9) rfl (sub_cons (d := 12) rfl (sub_cons (d := 16) rfl (sub_cons (d := 20) rfl (sub_cons (d := 21) rfl (sub_cons (d := 22) rfl (sub_cons (d := 23) rfl (sub_cons (d := 42) rfl (sub_nil _)))))))))))))))) (.refl _) ?_
          refine hl_nil ?_
          exact hq_round2 (m + 1) b ⟨by omega, hbr, fun q hq h1 h2 => by by_cases hqm : q = m; (subst hqm; exfalso; omega); exact hbq q (by omega) h1 h2⟩ (by omega) (sub_cons (d := 0) rfl (sub_cons (d := 1) rfl (sub_cons (d := 2) rfl (sub_cons (d := 4) rfl (sub_cons (d := 5) rfl (sub_cons (d := 6) rfl (sub_cons (d := 7) rfl (sub_cons (d := 12) rfl (sub_cons (d := 16) rfl (sub_cons (d := 20) rfl (sub_cons (d := 21) rfl (sub_cons (d := 22) rfl (sub_nil _))))))))))))) ((.cons _ (.cons_cons _ .slnil)))
    ·
      refine hl_less (sub_cons (d := 0) rfl (sub_cons (d := 1) rfl (sub_cons (d := 2) rfl (sub_cons (d := 4) rfl (sub_cons (d := 5) rfl (sub_cons (d := 6) rfl (sub_cons (d := 7) rfl (sub_cons (d := 12) rfl (sub_cons (d := 16) rfl (sub_cons (d := 20) rfl (sub_cons (d := 21) rfl (sub_cons (d := 22) rfl (sub_cons (d := 23) rfl (sub_nil _)))))))))))))) (.refl _) ?_
      refine hl_nil ?_
      refine hq_then ?_
      refine hc_seq ?_
      refine hc_false rfl ?_
      refine hc_exit ?_
      refine hq_then_exit ?_
      refine hq_then_exit ?_
      refine hq_block_exit ?_
      refine hq_then ?_
      refine hc_seq ?_
      refine hc_seq ?_
      refine hc_region ?_
      have hbe : b = (Dl true gs s ((ys.getD i 0)).toNat) - (Dl true gs s ((ys.getD (((i : Nat) : Int) - 1).toNat 0)).toNat) := by
            obtain ⟨a, ha, h1, h2, h3, h4⟩ := id hti
            obtain ⟨q, hq, rfl⟩ := List.mem_iff_getElem.1 ha
            have h5 := hbq q (by omega) (by rw [List.getD_eq_getElem?_getD, List.getElem?_eq_getElem hq]; exact h1) (by rw [List.getD_eq_getElem?_getD, List.getElem?_eq_getElem hq]; exact h2)
            rw [List.getD_eq_getElem?_getD, List.getElem?_eq_getElem hq] at h5
            simp only [Option.getD_some] at h5
            omega
      have hd0 := Dl_bnd hg true s ((ys.getD 0 0)).toNat
      have hds : Dl true gs s ((ys.getD 0 0)).toNat = 0 := Dl_start true gs s _ (by rw [hp.first]; omega)
      have hop : (Dl true gs s ((ys.getD (i - 1) 0)).toNat) = (Dl true gs s ((ys.getD (((i : Nat) : Int) - 1).toNat 0)).toNat) := by rw [show i - 1 = (((i : Nat) : Int) - 1).toNat by omega]
      refine hl_v rfl rfl rfl (rv_ev rfl) ?_
      refine hl_lss rfl rfl rfl rfl rfl rfl (fun h9 => absurd h9 (by omega)) (fun h9 => ?_)
      refine hl_less (sub_cons (d := 0) rfl (sub_cons (d := 1) rfl (sub_cons (d := 2) rfl (sub_cons (d := 4) rfl (sub_cons (d := 5) rfl (sub_cons (d := 6) rfl (sub_cons (d := 7) rfl (sub_cons (d := 12) rfl (sub_cons (d := 16) rfl (sub_cons (d := 20) rfl (sub_cons (d := 21) rfl (sub_cons (d := 22) rfl (sub_cons (d := 23) rfl (sub_cons (d := 49) rfl (sub_nil _))))))))))))))) (.refl _) ?_
      refine hl_nil ?_
      refine hq_then ?_
      refine hc_false rfl ?_
      refine hc_skip ?_
      refine hq_then ?_
      refine hc_region ?_
      refine hl_v rfl rfl rfl (rv_ev rfl) ?_
      refine hl_v rfl rfl rfl (rv_ev rfl) ?_
      refine hl_v rfl rfl rfl (rv_add rfl rfl rfl (by constructor <;> omega)) ?_
      refine hl_v rfl rfl rfl (rv_ev rfl) ?_
      refine hl_less (sub_cons (d := 0) rfl (sub_cons (d := 1) rfl (sub_cons (d := 2) rfl (sub_cons (d := 4) rfl (sub_cons (d := 5) rfl (sub_cons (d := 6) rfl (sub_cons (d := 7) rfl (sub_cons (d := 12) rfl (sub_cons (d := 16) rfl (sub_cons (d := 20) rfl (sub_cons (d := 21) rfl (sub_cons (d := 22) rfl (sub_cons (d := 23) rfl (sub_cons (d := 49) rfl (sub_nil _))))))))))))))) (.refl _) ?_
      refine hl_nil ?_
      refine hq_block_normal ?_
      refine hq_then ?_
      refine hc_region ?_
      refine hl_v rfl rfl rfl (rv_ev rfl) ?_
      refine hl_v rfl rfl rfl (rv_add rfl rfl rfl (by constructor <;> omega)) ?_
      refine hl_v rfl rfl rfl (rv_ev rfl) ?_
      refine hl_less (sub_cons (d := 0) rfl (sub_cons (d := 1) rfl (sub_cons (d := 2) rfl (sub_cons (d := 4) rfl (sub_cons (d := 5) rfl (sub_cons (d := 6) rfl (sub_cons (d := 7) rfl (sub_cons (d := 12) rfl (sub_cons (d := 16) rfl (sub_cons (d := 20) rfl (sub_cons (d := 21) rfl (sub_cons (d := 22) rfl (sub_cons (d := 23) rfl (sub_cons (d := 49) rfl (sub_nil _))))))))))))))) (.refl _) ?_
      refine hl_nil ?_
      have ho2 : o + b = (Dl true gs s ((ys.getD i 0)).toNat) - (Dl true gs s ((ys.getD 0 0)).toNat) := by omega
      exact hq_round2 (i + 1) ((Dl true gs s ((ys.getD i 0)).toNat) - (Dl true gs s ((ys.getD 0 0)).toNat)) ⟨⟨by omega, by omega⟩, by rw [Nat.add_sub_cancel]⟩ (by omega) (sub_cons (d := 0) rfl (sub_cons (d := 1) rfl (sub_cons (d := 2) rfl (sub_cons (d := 4) rfl (sub_cons (d := 5) (congrArg (fun z => some (Value.int .i64 z)) ho2) (sub_cons (d := 6) rfl (sub_cons (d := 12) rfl (sub_nil _)))))))) ((.cons_cons _ .slnil))
  ·
    refine hl_less (sub_cons (d := 0) rfl (sub_cons (d := 1) rfl (sub_cons (d := 2) rfl (sub_cons (d := 4) rfl (sub_cons (d := 5) rfl (sub_cons (d := 6) rfl (sub_cons (d := 12) rfl (sub_cons (d := 16) rfl (sub_nil _))))))))) (.refl _) ?_
    refine hl_nil ?_
    refine hq_then ?_
    refine hc_false rfl ?_
    refine hc_exit ?_
    refine hq_then_exit ?_
    refine hq_then_exit ?_
    refine hq_block_exit ?_
    refine hq_then ?_
    refine hc_seq ?_
    refine hc_region ?_
    refine hl_v rfl rfl rfl (rv_ev rfl) ?_
    refine hl_v rfl rfl rfl (rv_ev rfl) ?_
    refine hl_less (sub_cons (d := 0) rfl (sub_cons (d := 1) rfl (sub_cons (d := 2) rfl (sub_cons (d := 4) rfl (sub_cons (d := 5) rfl (sub_cons (d := 6) rfl (sub_cons (d := 12) rfl (sub_cons (d := 16) rfl (sub_nil _))))))))) (.refl _) ?_
    refine hl_nil ?_
    refine hq_then ?_
    refine hc_ret ?_
    have hil : i = ys.length := by omega
    have hds : Dl true gs s ((ys.getD 0 0)).toNat = 0 := Dl_start true gs s _ (by rw [hp.first]; omega)
    exact hq_ans rfl rfl (by rw [ho, hds, hil, hp.last]; simp)
end Go.Proofs.Yteccnnpcigkmhaa
