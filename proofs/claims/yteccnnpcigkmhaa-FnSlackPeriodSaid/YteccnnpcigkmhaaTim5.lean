/- SetupSlacks, HoldSlacks, and the law FnSlackPeriod: the walks. -/
import Derived.Test.YteccnnpcigkmhaaTim4
set_option linter.unusedVariables false
set_option linter.unusedSimpArgs false
namespace Go.Proofs.Yteccnnpcigkmhaa
open Go.RowKit

def Fset (p : Int) (L C : Pnt) (x y : Int) : Int := y * p + C.s - L.s - x
def Fhold (L C : Pnt) (x y : Int) : Int := L.s + x - C.s
theorem mul_rng {y p : Int} (hy : 1 ≤ y ∧ y ≤ 8) (hp : 1 ≤ p ∧ p ≤ 1000) : 0 ≤ y * p ∧ y * p ≤ 8000 := ⟨Int.mul_nonneg (by omega) (by omega), Int.mul_le_mul hy.2 hp.2 (by omega) (by omega)⟩
def optRel (a b : Option Int) : Prop := (a = none ∧ b = none) ∨ ∃ x y, a = some x ∧ b = some y ∧ x + 1 ≤ y
def optAlike (a b : Option Int) : Prop := (a = none ∧ b = none) ∨ ∃ x y, a = some x ∧ b = some y
def optIn (a : Option Int) : Prop := ∀ x, a = some x → -900000 ≤ x ∧ x ≤ 900000
def least (a : Option Int) (v : Int) : Option Int := match a with | none => some v | some y => if v < y then some v else some y
theorem least_rel {a b : Option Int} {v u : Int} (h : optRel a b) (hv : v + 1 ≤ u) : optRel (least a v) (least b u) := by
  rcases h with ⟨rfl, rfl⟩ | ⟨x, y, rfl, rfl, h⟩
  · exact .inr ⟨v, u, rfl, rfl, hv⟩
  · right
    unfold least
    dsimp only
    by_cases h1 : v < x <;> by_cases h2 : u < y
    · rw [if_pos h1, if_pos h2]; exact ⟨_, _, rfl, rfl, hv⟩
    · rw [if_pos h1, if_neg h2]; exact ⟨_, _, rfl, rfl, by omega⟩
    · rw [if_neg h1, if_pos h2]; exact ⟨_, _, rfl, rfl, by omega⟩
    · rw [if_neg h1, if_neg h2]; exact ⟨_, _, rfl, rfl, h⟩
theorem least_alike {a b : Option Int} {v u : Int} (h : optAlike a b) : optAlike (least a v) (least b u) := by
  rcases h with ⟨rfl, rfl⟩ | ⟨x, y, rfl, rfl⟩
  · exact .inr ⟨v, u, rfl, rfl⟩
  · right
    unfold least
    dsimp only
    split <;> split <;> exact ⟨_, _, rfl, rfl⟩
theorem least_in {a : Option Int} {v : Int} (h : optIn a) (hv : -900000 ≤ v ∧ v ≤ 900000) : optIn (least a v) := by
  intro x hx
  unfold least at hx
  cases a with
  | none => simp only [Option.some.injEq] at hx; subst hx; exact hv
  | some y =>
    dsimp only at hx
    split at hx
    · simp only [Option.some.injEq] at hx; subst hx; exact hv
    · simp only [Option.some.injEq] at hx; subst hx; exact h _ rfl
theorem best_all {n : Int} {gs : List Arc} {ls cs : List Pnt} {es : List Exc} {p : Int} {j : Nat} (hg : GOk n gs) (hl : PtsOk n ls) (hc : PtsOk n cs) (he : ExsOk es) (hj : j < cs.length) (hp : 1 ≤ p ∧ p ≤ 999) : ∀ i, i ≤ ls.length →
    optRel (best gs ls cs es true (Fset p) j i) (best gs ls cs es true (Fset (p + 1)) j i) ∧ optAlike (best gs ls cs es true (Fset p) j i) (best gs ls cs es false Fhold j i) ∧ optIn (best gs ls cs es true (Fset p) j i) ∧ optIn (best gs ls cs es true (Fset (p + 1)) j i) ∧ optIn (best gs ls cs es false Fhold j i)
  | 0, _ => ⟨.inl ⟨rfl, rfl⟩, .inl ⟨rfl, rfl⟩, (fun x h => by cases h), (fun x h => by cases h), (fun x h => by cases h)⟩
  | i + 1, hi => by
    obtain ⟨h1, h2, h3, h4, h5⟩ := best_all hg hl hc he hj hp i (by omega)
    have hli := hl i (by omega)
    have hcj := hc j hj
    have hcy := cyc_rng he (i : Int) (j : Int)
    have hsg := Dl_sign hg (ls.getD i pnt0).n ((cs.getD j pnt0).n).toNat
    have hb1 := Dl_bnd hg true (ls.getD i pnt0).n ((cs.getD j pnt0).n).toNat
    have hb2 := Dl_bnd hg false (ls.getD i pnt0).n ((cs.getD j pnt0).n).toNat
    have hn := hg.n1
    by_cases hs : Dl true gs (ls.getD i pnt0).n ((cs.getD j pnt0).n).toNat < 0 ∨ cyc es i j = 0
    · rw [best_skip hs, best_skip hs, best_skip (hs.imp hsg.1 (fun h => h))]
      exact ⟨h1, h2, h3, h4, h5⟩
    · have hs1 : ¬ Dl true gs (ls.getD i pnt0).n ((cs.getD j pnt0).n).toNat < 0 := fun h => hs (.inl h)
      have hs2 : cyc es i j ≠ 0 := fun h => hs (.inr h)
      have hs3 : ¬ Dl false gs (ls.getD i pnt0).n ((cs.getD j pnt0).n).toNat < 0 := fun h => hs1 (hsg.2 h)
      rw [best_new hs1 hs2, best_new hs1 hs2, best_new hs3 hs2]
      have m1 := mul_rng (y := cyc es i j) (p := p) (by omega) (by omega)
      have m2 := mul_rng (y := cyc es i j) (p := p + 1) (by omega) (by omega)
      have m3 : cyc es i j * (p + 1) = cyc es i j * p + cyc es i j := by rw [Int.mul_add, Int.mul_one]
      refine ⟨least_rel h1 (by unfold Fset; omega), least_alike h2, least_in h3 (by unfold Fset; omega), least_in h4 (by unfold Fset; omega), least_in h5 (by unfold Fhold; omega)⟩
theorem slack_rel {a b h : Int} {A B H : Option Int} {s1 s2 s3 : Bool} (ha : Held a s1 A) (hb : Held b s2 B) (hh : Held h s3 H) (h1 : optRel A B) (h2 : optAlike A H) (i1 : optIn A) (i2 : optIn B) (i3 : optIn H) :
    (a = 1000000 ↔ h = 1000000) ∧ (a = 1000000 ↔ b = 1000000) ∧ (a ≠ 1000000 → a + 1 ≤ b) ∧ -1000000 ≤ a ∧ a ≤ 1000000 := by
  obtain ⟨-, rfl⟩ := ha
  obtain ⟨-, rfl⟩ := hb
  obtain ⟨-, rfl⟩ := hh
  rcases h1 with ⟨rfl, rfl⟩ | ⟨x, y, rfl, rfl, hxy⟩
  · rcases h2 with ⟨-, rfl⟩ | ⟨x, y, h, -⟩
    · simp
    · cases h
  · rcases h2 with ⟨h, -⟩ | ⟨x', z, hx, rfl⟩
    · cases h
    · have j1 := i1 x rfl
      have j2 := i2 y rfl
      have j3 := i3 z rfl
      simp only [Option.getD_some]
      omega
set_option maxHeartbeats 4000000 in
set_option maxRecDepth 100000 in
theorem setup1_ans (b : Nat) (per : Int) (L C : Pnt) (x y : Int) (w : World) (hlt : b < w.heap.size) (hcell : w.cell? ⟨b, 0, none⟩ = some (.int .i64 per)) (hper : 1 ≤ per ∧ per ≤ 1000) (hL : 0 ≤ L.s ∧ L.s ≤ 50) (hC : 0 ≤ C.s ∧ C.s ≤ 50) (hx : 0 ≤ x ∧ x ≤ 50000) (hy : 1 ≤ y ∧ y ≤ 8) :
    Calls Try.prog 39 #[.agg #[.int .i64 L.n, .int .i64 L.s], .agg #[.int .i64 C.n, .int .i64 C.s], .int .i64 x, .int .i64 y, .pointer (some ⟨b, 0, none⟩)] w (Ans w (.int .i64 (Fset per L C x y))) := by
  have hmr := mul_rng hy hper
  refine calls_hc (N := 21) (args := [.agg #[.int .i64 L.n, .int .i64 L.s], .agg #[.int .i64 C.n, .int .i64 C.s], .int .i64 x, .int .i64 y, .pointer (some ⟨b, 0, none⟩)]) Try.func39 rfl rfl ?_
  refine hc_less _ (sub_cons (d := 0) rfl (sub_cons (d := 1) rfl (sub_cons (d := 2) rfl (sub_cons (d := 3) rfl (sub_cons (d := 4) rfl (sub_nil _)))))) (.refl _) ?_
  refine hc_seq ?_
  refine hc_region ?_
  refine hl_box rfl rfl rfl (rq_box rfl rfl) ?_
  intro b1
  refine hl_box rfl rfl rfl (rq_box rfl rfl) ?_
  intro b2
  refine hl_v rfl rfl rfl (rv_ev rfl) ?_
  refine hl_less (sub_cons (d := 0) rfl (sub_cons (d := 1) rfl (sub_cons (d := 2) rfl (sub_cons (d := 3) rfl (sub_cons (d := 4) rfl (sub_cons (d := 5) rfl (sub_cons (d := 6) rfl (sub_cons (d := 9) rfl (sub_nil _))))))))) (.refl _) ?_
  refine hl_nil ?_
  refine hq_then ?_
  refine hc_seq ?_
  refine hc_region ?_
  refine hl_v rfl rfl rfl (rv_ev rfl) ?_
  refine hl_v rfl rfl rfl (rv_load rfl (by kernel_rfl) rfl (fun w hm => (hm.bel.cell (p := ⟨b, 0, none⟩) hlt).trans hcell)) ?_
  refine hl_v rfl rfl rfl (rv_mul rfl rfl rfl (by constructor <;> omega)) ?_
  refine hl_v rfl rfl rfl (rv_field (k0 := 1) rfl (by kernel_rfl) rfl) ?_
  refine hl_v rfl rfl rfl (rv_load rfl (by kernel_rfl) rfl (box_cell 0 rfl rfl)) ?_
  refine hl_v rfl rfl rfl (rv_add rfl rfl rfl (by constructor <;> omega)) ?_
  refine hl_v rfl rfl rfl (rv_field (k0 := 1) rfl (by kernel_rfl) rfl) ?_
  refine hl_v rfl rfl rfl (rv_load rfl (by kernel_rfl) rfl (box_cell 1 rfl rfl)) ?_
  refine hl_v rfl rfl rfl (rv_sub rfl rfl rfl (by constructor <;> omega)) ?_
  refine hl_v rfl rfl rfl (rv_ev rfl) ?_
  refine hl_v rfl rfl rfl (rv_sub rfl rfl rfl (by constructor <;> omega)) ?_
  refine hl_v rfl rfl rfl (rv_ev rfl) ?_
  refine hl_less (sub_cons (d := 0) rfl (sub_cons (d := 1) rfl (sub_cons (d := 2) rfl (sub_cons (d := 3) rfl (sub_cons (d := 4) rfl (sub_cons (d := 5) rfl (sub_cons (d := 6) rfl (sub_cons (d := 9) rfl (sub_nil _))))))))) (.refl _) ?_
  refine hl_nil ?_
  refine hq_then ?_
  refine hc_ret ?_
  exact hq_ans rfl rfl rfl
set_option maxHeartbeats 4000000 in
set_option maxRecDepth 100000 in
theorem hold1_ans (L C : Pnt) (x y : Int) (w : World) (hL : 0 ≤ L.s ∧ L.s ≤ 50) (hC : 0 ≤ C.s ∧ C.s ≤ 50) (hx : 0 ≤ x ∧ x ≤ 50000) (hy : 1 ≤ y ∧ y ≤ 8) :
    Calls Try.prog 40 #[.agg #[.int .i64 L.n, .int .i64 L.s], .agg #[.int .i64 C.n, .int .i64 C.s], .int .i64 x, .int .i64 y] w (Ans w (.int .i64 (Fhold L C x y))) := by
  refine calls_hc (N := 16) (args := [.agg #[.int .i64 L.n, .int .i64 L.s], .agg #[.int .i64 C.n, .int .i64 C.s], .int .i64 x, .int .i64 y]) Try.func40 rfl rfl ?_
  refine hc_less _ (sub_cons (d := 0) rfl (sub_cons (d := 1) rfl (sub_cons (d := 2) rfl (sub_cons (d := 3) rfl (sub_nil _))))) (.refl _) ?_
  refine hc_seq ?_
  refine hc_region ?_
  refine hl_box rfl rfl rfl (rq_box rfl rfl) ?_
  intro b1
  refine hl_box rfl rfl rfl (rq_box rfl rfl) ?_
  intro b2
  refine hl_v rfl rfl rfl (rv_ev rfl) ?_
  refine hl_less (sub_cons (d := 0) rfl (sub_cons (d := 1) rfl (sub_cons (d := 2) rfl (sub_cons (d := 4) rfl (sub_cons (d := 5) rfl (sub_cons (d := 8) rfl (sub_nil _))))))) (.refl _) ?_
  refine hl_nil ?_
  refine hq_then ?_
  refine hc_seq ?_
  refine hc_region ?_
  refine hl_v rfl rfl rfl (rv_field (k0 := 1) rfl (by kernel_rfl) rfl) ?_
  refine hl_v rfl rfl rfl (rv_load rfl (by kernel_rfl) rfl (box_cell 1 rfl rfl)) ?_
  refine hl_v rfl rfl rfl (rv_ev rfl) ?_
  refine hl_v rfl rfl rfl (rv_add rfl rfl rfl (by constructor <;> omega)) ?_
  refine hl_v rfl rfl rfl (rv_field (k0 := 1) rfl (by kernel_rfl) rfl) ?_
  refine hl_v rfl rfl rfl (rv_load rfl (by kernel_rfl) rfl (box_cell 0 rfl rfl)) ?_
  refine hl_v rfl rfl rfl (rv_sub rfl rfl rfl (by constructor <;> omega)) ?_
  refine hl_v rfl rfl rfl (rv_ev rfl) ?_
  refine hl_less (sub_cons (d := 0) rfl (sub_cons (d := 1) rfl (sub_cons (d := 2) rfl (sub_cons (d := 4) rfl (sub_cons (d := 5) rfl (sub_cons (d := 8) rfl (sub_nil _))))))) (.refl _) ?_
  refine hl_nil ?_
  refine hq_then ?_
  refine hc_ret ?_
  exact hq_ans rfl rfl rfl
set_option maxHeartbeats 4000000 in
set_option maxRecDepth 100000 in
theorem SetupSlacks_ret (n : Int) (gs : List Arc) (v : Value) (pl pc : List Pnt) (pe : List Exc) (lv cv ev_ : Value) (per : Int) (w : World) (hg : GOk n gs) (hv : RdsW w v 3 gs.length (gs.flatMap arcC)) (hpl : PtsOk n pl) (hll : pl.length ≤ 100) (hlv : RdsW w lv 2 pl.length (pl.flatMap pntC)) (hpc : PtsOk n pc) (hcl : pc.length ≤ 100) (hcv : RdsW w cv 2 pc.length (pc.flatMap pntC)) (hpe : ExsOk pe) (hel : pe.length ≤ 50) (hev : RdsW w ev_ 3 pe.length (pe.flatMap excC)) (hper : 1 ≤ per ∧ per ≤ 1000) :
    Calls Try.prog 15 #[.agg #[.int .i64 n, v], lv, cv, ev_, .int .i64 per] w (Ret w (fun v' post => ∃ ys : List Int, post = [rowE 3 1 v' ys.length (ys.map (Value.int .i64))] ∧ ys.length = pc.length ∧ ∀ r, r < pc.length → ∃ s, Held (ys.getD r 0) s (best gs pl pc pe true (Fset per) r pl.length))) := by
  obtain ⟨hn0, hn1, hgl, -⟩ := id hg
  refine calls_hc (N := 37) (args := [.agg #[.int .i64 n, v], lv, cv, ev_, .int .i64 per]) Try.func15 rfl rfl ?_
  refine hc_less _ (sub_cons (d := 0) rfl (sub_cons (d := 1) rfl (sub_cons (d := 2) rfl (sub_cons (d := 3) rfl (sub_cons (d := 4) rfl (sub_nil _)))))) (.refl _) ?_
  refine hc_seq ?_
  refine hc_region ?_
  refine hl_box rfl rfl rfl (rq_box rfl rfl) ?_
  intro b1
  refine hl_box rfl rfl rfl (rq_box rfl rfl) ?_
  intro b2
  refine hl_v rfl rfl rfl (rv_ev rfl) ?_
  refine hl_less (sub_cons (d := 0) rfl (sub_cons (d := 1) rfl (sub_cons (d := 2) rfl (sub_cons (d := 3) rfl (sub_cons (d := 4) rfl (sub_cons (d := 5) rfl (sub_cons (d := 9) rfl (sub_cons (d := 10) rfl (sub_nil _))))))))) (.refl _) ?_
  refine hl_nil ?_
  refine hq_then ?_
  refine hc_seq ?_
  refine hc_seq ?_
  refine hc_region ?_
  refine hl_v rfl rfl rfl (rv_loadN (cs := [.int .i64 n, v]) rfl (by kernel_rfl) (by kernel_rfl) rfl rfl (box_part 1 rfl 0 rfl)) ?_
  refine hl_v rfl rfl rfl (rv_ev rfl) ?_
  refine hl_callV rfl rfl rfl (rq_call (by kernel_rfl) rfl (fun w hm => ret_ans (PointsOk_yes n gs v pl lv w hg (hv.below hm.bel) hpl hll (hlv.below hm.bel)))) ?_
  refine hl_v rfl rfl rfl (rv_ev rfl) ?_
  refine hl_v rfl rfl rfl (rv_ev rfl) ?_
  refine hl_v rfl rfl rfl (rv_loadN (cs := [.int .i64 n, v]) rfl (by kernel_rfl) (by kernel_rfl) rfl rfl (box_part 1 rfl 0 rfl)) ?_
  refine hl_v rfl rfl rfl (rv_ev rfl) ?_
  refine hl_callV rfl rfl rfl (rq_call (by kernel_rfl) rfl (fun w hm => ret_ans (PointsOk_yes n gs v pc cv w hg (hv.below hm.bel) hpc hcl (hcv.below hm.bel)))) ?_
  refine hl_v rfl rfl rfl (rv_ev rfl) ?_
  refine hl_v rfl rfl rfl (rv_ev rfl) ?_
  refine hl_v rfl rfl rfl (rv_ev rfl) ?_
  refine hl_v rfl rfl rfl (rv_ev rfl) ?_
  refine hl_callV rfl rfl rfl (rq_call (by kernel_rfl) rfl (fun w hm => ret_ans (exceptionsOk_yes pe ev_ w hpe hel (hev.below hm.bel)))) ?_
  refine hl_v rfl rfl rfl (rv_ev rfl) ?_
  refine hl_v rfl rfl rfl (rv_ev rfl) ?_
  refine hl_v rfl rfl rfl (rv_ev rfl) ?_
  refine hl_v rfl rfl rfl (rv_load rfl (by kernel_rfl) rfl (box_cell 0 rfl rfl)) ?_
  refine hl_callV rfl rfl rfl (rq_call (by kernel_rfl) rfl (fun w hm => ret_ans (inr_yes2 (by omega) (by omega) w))) ?_
  refine hl_v rfl rfl rfl (rv_ev rfl) ?_
  refine hl_v rfl rfl rfl (rv_ev rfl) ?_
  refine hl_less (sub_cons (d := 0) rfl (sub_cons (d := 1) rfl (sub_cons (d := 2) rfl (sub_cons (d := 3) rfl (sub_cons (d := 4) rfl (sub_cons (d := 5) rfl (sub_cons (d := 9) rfl (sub_cons (d := 10) rfl (sub_cons (d := 30) rfl (sub_nil _)))))))))) (.refl _) ?_
  refine hl_nil ?_
  refine hq_then ?_
  refine hc_false rfl ?_
  refine hc_skip ?_
  refine hq_then ?_
  refine hc_seq ?_
  refine hc_region ?_
  refine hl_v rfl rfl rfl (rv_loadN (cs := [.int .i64 n, v]) rfl (by kernel_rfl) (by kernel_rfl) rfl rfl (box_part 1 rfl 0 rfl)) ?_
  refine hl_v rfl rfl rfl (rv_ev rfl) ?_
  refine hl_v rfl rfl rfl (rv_ev rfl) ?_
  refine hl_v rfl rfl rfl (rv_ev rfl) ?_
  refine hl_v rfl rfl rfl (rv_makeFunc (us := []) (vs := [.pointer (some ⟨b2, 0, none⟩)]) rfl rfl rfl) ?_
  refine hl_q rfl rfl rfl (rq_call (by kernel_rfl) rfl (fun w hm => by
        have hc : w.cell? ⟨b2, 0, none⟩ = some (.int .i64 per) := box_cell (l := [boxE b2 #[.int .i64 per] 3, boxE b1 #[.int .i64 n, v] 38]) (o := 0) 0 rfl rfl w hm
        exact slacks_ret n gs v pl pc pe lv cv ev_ true 39 [.pointer (some ⟨b2, 0, none⟩)] (Fset per) w hg (hv.below hm.bel) hpl hll (hlv.below hm.bel) hpc hcl (hcv.below hm.bel) hpe hel (hev.below hm.bel) (by kernel_rfl) (fun w' hb L C x y h1 h2 h3 h4 => setup1_ans b2 per L C x y w' (Nat.lt_of_lt_of_le (World.block_lt_of_cell? _ _ hc) hb.size) ((hb.cell (p := ⟨b2, 0, none⟩) (World.block_lt_of_cell? _ _ hc)).trans hc) hper h1 h2 h3 h4))) ?_
  intro v3 p4 hR5
  obtain ⟨ys, rfl, hyl, hys⟩ := hR5
  refine hl_v rfl rfl rfl (rv_ev rfl) ?_
  refine hl_less (sub_cons (d := 0) rfl (sub_cons (d := 1) rfl (sub_cons (d := 2) rfl (sub_cons (d := 3) rfl (sub_cons (d := 4) rfl (sub_cons (d := 5) rfl (sub_cons (d := 9) rfl (sub_cons (d := 10) rfl (sub_cons (d := 30) rfl (sub_nil _)))))))))) (.refl _) ?_
  refine hl_nil ?_
  refine hq_then ?_
  refine hc_ret ?_
  exact hq_retR (post := [rowE 3 1 v3 ys.length (ys.map (Value.int .i64))]) rfl rfl ((.cons_cons _ (.cons _ (.cons _ .slnil)))) ⟨ys, rfl, hyl, hys⟩
set_option maxHeartbeats 4000000 in
set_option maxRecDepth 100000 in
theorem HoldSlacks_ret (n : Int) (gs : List Arc) (v : Value) (pl pc : List Pnt) (pe : List Exc) (lv cv ev_ : Value) (w : World) (hg : GOk n gs) (hv : RdsW w v 3 gs.length (gs.flatMap arcC)) (hpl : PtsOk n pl) (hll : pl.length ≤ 100) (hlv : RdsW w lv 2 pl.length (pl.flatMap pntC)) (hpc : PtsOk n pc) (hcl : pc.length ≤ 100) (hcv : RdsW w cv 2 pc.length (pc.flatMap pntC)) (hpe : ExsOk pe) (hel : pe.length ≤ 50) (hev : RdsW w ev_ 3 pe.length (pe.flatMap excC)) :
    Calls Try.prog 16 #[.agg #[.int .i64 n, v], lv, cv, ev_] w (Ret w (fun v' post => ∃ ys : List Int, post = [rowE 3 1 v' ys.length (ys.map (Value.int .i64))] ∧ ys.length = pc.length ∧ ∀ r, r < pc.length → ∃ s, Held (ys.getD r 0) s (best gs pl pc pe false Fhold r pl.length))) := by
  obtain ⟨hn0, hn1, hgl, -⟩ := id hg
  refine calls_hc (N := 29) (args := [.agg #[.int .i64 n, v], lv, cv, ev_]) Try.func16 rfl rfl ?_
  refine hc_less _ (sub_cons (d := 0) rfl (sub_cons (d := 1) rfl (sub_cons (d := 2) rfl (sub_cons (d := 3) rfl (sub_nil _))))) (.refl _) ?_
  refine hc_seq ?_
  refine hc_region ?_
  refine hl_box rfl rfl rfl (rq_box rfl rfl) ?_
  intro b1
  refine hl_v rfl rfl rfl (rv_ev rfl) ?_
  refine hl_less (sub_cons (d := 0) rfl (sub_cons (d := 1) rfl (sub_cons (d := 2) rfl (sub_cons (d := 3) rfl (sub_cons (d := 4) rfl (sub_cons (d := 8) rfl (sub_nil _))))))) (.refl _) ?_
  refine hl_nil ?_
  refine hq_then ?_
  refine hc_seq ?_
  refine hc_seq ?_
  refine hc_region ?_
  refine hl_v rfl rfl rfl (rv_loadN (cs := [.int .i64 n, v]) rfl (by kernel_rfl) (by kernel_rfl) rfl rfl (box_part 0 rfl 0 rfl)) ?_
  refine hl_v rfl rfl rfl (rv_ev rfl) ?_
  refine hl_callV rfl rfl rfl (rq_call (by kernel_rfl) rfl (fun w hm => ret_ans (PointsOk_yes n gs v pl lv w hg (hv.below hm.bel) hpl hll (hlv.below hm.bel)))) ?_
  refine hl_v rfl rfl rfl (rv_ev rfl) ?_
  refine hl_v rfl rfl rfl (rv_ev rfl) ?_
  refine hl_v rfl rfl rfl (rv_loadN (cs := [.int .i64 n, v]) rfl (by kernel_rfl) (by kernel_rfl) rfl rfl (box_part 0 rfl 0 rfl)) ?_
  refine hl_v rfl rfl rfl (rv_ev rfl) ?_
  refine hl_callV rfl rfl rfl (rq_call (by kernel_rfl) rfl (fun w hm => ret_ans (PointsOk_yes n gs v pc cv w hg (hv.below hm.bel) hpc hcl (hcv.below hm.bel)))) ?_
  refine hl_v rfl rfl rfl (rv_ev rfl) ?_
  refine hl_v rfl rfl rfl (rv_ev rfl) ?_
  refine hl_v rfl rfl rfl (rv_ev rfl) ?_
  refine hl_v rfl rfl rfl (rv_ev rfl) ?_
  refine hl_callV rfl rfl rfl (rq_call (by kernel_rfl) rfl (fun w hm => ret_ans (exceptionsOk_yes pe ev_ w hpe hel (hev.below hm.bel)))) ?_
  refine hl_v rfl rfl rfl (rv_ev rfl) ?_
  refine hl_v rfl rfl rfl (rv_ev rfl) ?_
  refine hl_less (sub_cons (d := 0) rfl (sub_cons (d := 1) rfl (sub_cons (d := 2) rfl (sub_cons (d := 3) rfl (sub_cons (d := 4) rfl (sub_cons (d := 8) rfl (sub_cons (d := 23) rfl (sub_nil _)))))))) (.refl _) ?_
  refine hl_nil ?_
  refine hq_then ?_
  refine hc_false rfl ?_
  refine hc_skip ?_
  refine hq_then ?_
  refine hc_seq ?_
  refine hc_region ?_
  refine hl_v rfl rfl rfl (rv_loadN (cs := [.int .i64 n, v]) rfl (by kernel_rfl) (by kernel_rfl) rfl rfl (box_part 0 rfl 0 rfl)) ?_
  refine hl_v rfl rfl rfl (rv_ev rfl) ?_
  refine hl_v rfl rfl rfl (rv_ev rfl) ?_
  refine hl_v rfl rfl rfl (rv_ev rfl) ?_
  refine hl_q rfl rfl rfl (rq_call (by kernel_rfl) rfl (fun w hm => slacks_ret n gs v pl pc pe lv cv ev_ false 40 [] Fhold w hg (hv.below hm.bel) hpl hll (hlv.below hm.bel) hpc hcl (hcv.below hm.bel) hpe hel (hev.below hm.bel) (by kernel_rfl) (fun w' hb L C x y h1 h2 h3 h4 => hold1_ans L C x y w' h1 h2 h3 h4))) ?_
  intro v2 p3 hR4
  obtain ⟨ys, rfl, hyl, hys⟩ := hR4
  refine hl_v rfl rfl rfl (rv_ev rfl) ?_
  refine hl_less (sub_cons (d := 0) rfl (sub_cons (d := 1) rfl (sub_cons (d := 2) rfl (sub_cons (d := 3) rfl (sub_cons (d := 4) rfl (sub_cons (d := 8) rfl (sub_cons (d := 23) rfl (sub_nil _)))))))) (.refl _) ?_
  refine hl_nil ?_
  refine hq_then ?_
  refine hc_ret ?_
  exact hq_retR (post := [rowE 3 1 v2 ys.length (ys.map (Value.int .i64))]) rfl rfl ((.cons_cons _ (.cons _ .slnil))) ⟨ys, rfl, hyl, hys⟩
end Go.Proofs.Yteccnnpcigkmhaa
