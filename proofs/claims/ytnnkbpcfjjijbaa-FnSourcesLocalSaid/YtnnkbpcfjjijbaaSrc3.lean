/- The sources of a routing node, in the program: the walks of OutPin, wireSources, Sources. -/
import Derived.Test.YtnnkbpcfjjijbaaSrc
set_option linter.unusedVariables false
set_option linter.unusedSimpArgs false
namespace Go.Proofs.Ytnnkbpcfjjijbaa
open Go.RowKit

theorem inR_not {a b c : Int} (h : inR a b c = false) : a < b ∨ c < a := by
  rcases Int.lt_or_le a b with h1 | h1
  · exact .inl h1
  · rcases Int.lt_or_le c a with h2 | h2
    · exact .inr h2
    · rw [inR_true h1 h2] at h; cases h
def outPinI (d : Dev) (t p : Int) : Int := if tOk d t = true ∧ 0 ≤ p ∧ p ≤ outPinsI (kindI d t) - 1 then t * perI d + 5 + p else -1
theorem outPins_rng (d : Dev) (t : Int) : 1 ≤ outPinsI (kindI d t) ∧ outPinsI (kindI d t) ≤ 2 := by
  rcases kind_cases d t with h | h | h <;> rw [h] <;> simp [outPinsI]
theorem per_mul {d : Dev} {t : Int} (hv : devB d = true) (t0 : 0 ≤ t) (t1 : t ≤ d.W * d.H - 1) : 0 ≤ t * perI d ∧ t * perI d ≤ 805 := by
  obtain ⟨h1, h2⟩ := per_rng hv
  obtain ⟨m1, m2⟩ := area_le hv
  exact ⟨Int.mul_nonneg t0 (by omega), Int.le_trans (Int.mul_le_mul (show t ≤ 35 by omega) h2 (by omega) (by omega)) (by omega)⟩
theorem tile_35 {d : Dev} {t : Int} (hv : devB d = true) (t1 : t ≤ d.W * d.H - 1) : t ≤ 35 := by
  obtain ⟨m1, m2⟩ := area_le hv; omega
set_option maxHeartbeats 4000000 in
set_option maxRecDepth 100000 in
theorem outPin_ans (d : Dev) (t p : Int) (w : World) (p0 : -1000 ≤ p) (p1 : p ≤ 1000) :
    Calls Try.prog 46 #[.agg #[.int .i64 d.W, .int .i64 d.H, .int .i64 d.T, .int .i64 d.R], .int .i64 t, .int .i64 p] w (Ans w (.int .i64 (outPinI d t p))) := by
  refine calls_hc (N := 28) (args := [.agg #[.int .i64 d.W, .int .i64 d.H, .int .i64 d.T, .int .i64 d.R], .int .i64 t, .int .i64 p]) Try.func46 rfl rfl ?_
  refine hc_less _ (sub_cons (d := 0) rfl (sub_cons (d := 1) rfl (sub_cons (d := 2) rfl (sub_nil _)))) (.refl _) ?_
  refine hc_seq ?_
  refine hc_region ?_
  refine hl_box rfl rfl rfl (rq_box rfl rfl) ?_
  intro b1
  refine hl_v rfl rfl rfl (rv_ev rfl) ?_
  refine hl_less (sub_cons (d := 0) rfl (sub_cons (d := 1) rfl (sub_cons (d := 2) rfl (sub_cons (d := 3) rfl (sub_cons (d := 6) rfl (sub_nil _)))))) (.refl _) ?_
  refine hl_nil ?_
  refine hq_then ?_
  refine hc_seq ?_
  refine hc_seq ?_
  refine hc_region ?_
  refine hl_v rfl rfl rfl (rv_loadN (cs := [.int .i64 d.W, .int .i64 d.H, .int .i64 d.T, .int .i64 d.R]) rfl (by kernel_rfl) (by kernel_rfl) rfl rfl (box_part 0 rfl 0 rfl)) ?_
  refine hl_v rfl rfl rfl (rv_ev rfl) ?_
  refine hl_callV rfl rfl rfl (rq_call (by kernel_rfl) rfl (fun w hm => ret_ans (implTileOk_any d _ w))) ?_
  refine hl_bool (fun h2 => ?_) (fun h2 => ?_)
  ·
    obtain ⟨hv, h2a, h2b⟩ := (tOk_iff _ _).1 h2
    have hor := outPins_rng d t
    have hpm := per_mul hv h2a h2b
    have h35 := tile_35 hv h2b
    refine hl_v rfl rfl rfl (rv_ev rfl) ?_
    refine hl_v rfl rfl rfl (rv_ev rfl) ?_
    refine hl_v rfl rfl rfl (rv_ev rfl) ?_
    refine hl_v rfl rfl rfl (rv_loadN (cs := [.int .i64 d.W, .int .i64 d.H, .int .i64 d.T, .int .i64 d.R]) rfl (by kernel_rfl) (by kernel_rfl) rfl rfl (box_part 0 rfl 0 rfl)) ?_
    refine hl_v rfl rfl rfl (rv_ev rfl) ?_
    refine hl_callV rfl rfl rfl (rq_call (by kernel_rfl) rfl (fun w hm => ret_ans (implTileKind0_any d _ hv (by omega) (by omega) w))) ?_
    refine hl_callV rfl rfl rfl (rq_call (by kernel_rfl) rfl (fun w hm => ret_ans (ans_of (outPins_any _ (kind_cases d _) w)))) ?_
    refine hl_v rfl rfl rfl (rv_sub rfl rfl rfl (by constructor <;> omega)) ?_
    refine hl_callV rfl rfl rfl (rq_call (by kernel_rfl) rfl (fun w hm => ret_ans (ans_of (inRange_any _ _ _ w)))) ?_
    refine hl_bool (fun h3 => ?_) (fun h3 => ?_)
    ·
      obtain ⟨h3a, h3b⟩ := (inR_iff _ _ _).1 h3
      refine hl_v rfl rfl rfl (rv_ev rfl) ?_
      refine hl_v rfl rfl rfl (rv_ev rfl) ?_
      refine hl_less (sub_cons (d := 0) rfl (sub_cons (d := 1) rfl (sub_cons (d := 2) rfl (sub_cons (d := 3) rfl (sub_cons (d := 6) rfl (sub_cons (d := 20) rfl (sub_nil _))))))) (.refl _) ?_
      refine hl_nil ?_
      refine hq_then ?_
      refine hc_false rfl ?_
      refine hc_skip ?_
      refine hq_then ?_
      refine hc_seq ?_
      refine hc_region ?_
      refine hl_v rfl rfl rfl (rv_ev rfl) ?_
      refine hl_v rfl rfl rfl (rv_loadN (cs := [.int .i64 d.W, .int .i64 d.H, .int .i64 d.T, .int .i64 d.R]) rfl (by kernel_rfl) (by kernel_rfl) rfl rfl (box_part 0 rfl 0 rfl)) ?_
      refine hl_callV rfl rfl rfl (rq_call (by kernel_rfl) rfl (fun w hm => ret_ans (implPer_any d hv w))) ?_
      refine hl_v rfl rfl rfl (rv_mul rfl rfl rfl (by constructor <;> omega)) ?_
      refine hl_v rfl rfl rfl (rv_add rfl rfl rfl (by constructor <;> omega)) ?_
      refine hl_v rfl rfl rfl (rv_ev rfl) ?_
      refine hl_v rfl rfl rfl (rv_add rfl rfl rfl (by constructor <;> omega)) ?_
      refine hl_v rfl rfl rfl (rv_ev rfl) ?_
      refine hl_less (sub_cons (d := 0) rfl (sub_cons (d := 1) rfl (sub_cons (d := 2) rfl (sub_cons (d := 3) rfl (sub_cons (d := 6) rfl (sub_cons (d := 20) rfl (sub_nil _))))))) (.refl _) ?_
      refine hl_nil ?_
      refine hq_then ?_
      refine hc_ret ?_
      exact hq_ans rfl rfl (by unfold outPinI; rw [if_pos ⟨by assumption, by omega, by omega⟩])
    ·
      have h3a := inR_not h3
      refine hl_v rfl rfl rfl (rv_ev rfl) ?_
      refine hl_v rfl rfl rfl (rv_ev rfl) ?_
      refine hl_less (sub_cons (d := 0) rfl (sub_cons (d := 1) rfl (sub_cons (d := 2) rfl (sub_cons (d := 3) rfl (sub_cons (d := 6) rfl (sub_cons (d := 20) rfl (sub_nil _))))))) (.refl _) ?_
      refine hl_nil ?_
      refine hq_then ?_
      refine hc_true rfl ?_
      refine hc_seq ?_
      refine hc_region ?_
      refine hl_v rfl rfl rfl (rv_ev rfl) ?_
      refine hl_less (sub_cons (d := 0) rfl (sub_cons (d := 1) rfl (sub_cons (d := 2) rfl (sub_cons (d := 3) rfl (sub_cons (d := 6) rfl (sub_cons (d := 20) rfl (sub_nil _))))))) (.refl _) ?_
      refine hl_nil ?_
      refine hq_then ?_
      refine hc_ret ?_
      refine hq_then_ret ?_
      exact hq_ans rfl rfl (by unfold outPinI; rw [if_neg (by rintro ⟨q1, q2, q3⟩; first | omega | simp_all)])
  ·
    refine hl_v rfl rfl rfl (rv_ev rfl) ?_
    refine hl_v rfl rfl rfl (rv_ev rfl) ?_
    refine hl_skip rfl rfl rfl ?_
    refine hl_skip rfl rfl rfl ?_
    refine hl_skip rfl rfl rfl ?_
    refine hl_skip rfl rfl rfl ?_
    refine hl_skip rfl rfl rfl ?_
    refine hl_skip rfl rfl rfl ?_
    refine hl_skip rfl rfl rfl ?_
    refine hl_skip rfl rfl rfl ?_
    refine hl_v rfl rfl rfl (rv_ev rfl) ?_
    refine hl_less (sub_cons (d := 0) rfl (sub_cons (d := 1) rfl (sub_cons (d := 2) rfl (sub_cons (d := 3) rfl (sub_cons (d := 6) rfl (sub_cons (d := 20) rfl (sub_nil _))))))) (.refl _) ?_
    refine hl_nil ?_
    refine hq_then ?_
    refine hc_true rfl ?_
    refine hc_seq ?_
    refine hc_region ?_
    refine hl_v rfl rfl rfl (rv_ev rfl) ?_
    refine hl_less (sub_cons (d := 0) rfl (sub_cons (d := 1) rfl (sub_cons (d := 2) rfl (sub_cons (d := 3) rfl (sub_cons (d := 6) rfl (sub_cons (d := 20) rfl (sub_nil _))))))) (.refl _) ?_
    refine hl_nil ?_
    refine hq_then ?_
    refine hc_ret ?_
    refine hq_then_ret ?_
    exact hq_ans rfl rfl (by unfold outPinI; rw [if_neg (by rintro ⟨q1, q2, q3⟩; first | omega | simp_all)])

def outS (d : Dev) (t : Int) (xs : List Int) (p : Nat) : List Int := if 0 ≤ outPinI d t p then insI xs (outPinI d t p) else xs
def outO (d : Dev) (t : Int) (j : Nat) : List Int := (List.range j).foldl (outS d t) []
theorem outO_succ (d : Dev) (t : Int) (j : Nat) : outO d t (j + 1) = outS d t (outO d t j) j := by unfold outO; rw [List.range_succ, List.foldl_append]; rfl
def wireW (d : Dev) (t r : Int) (xs : List Int) (k : Int) : List Int := if 0 ≤ stepI d t ((r + 2) % 4) (1 + k % 2) then insI xs (wireNodeI d (stepI d t ((r + 2) % 4) (1 + k % 2)) r k) else xs
def wireK (d : Dev) (t r : Int) (ks : List Int) (xs : List Int) (j : Nat) : List Int := (ks.take j).foldl (wireW d t r) xs
theorem wireK_succ (d : Dev) (t r : Int) (ks xs : List Int) (j : Nat) (h : j < ks.length) : wireK d t r ks xs (j + 1) = wireW d t r (wireK d t r ks xs j) (ks.getD j 0) := by
  unfold wireK; rw [List.take_succ_eq_append_getElem h, List.foldl_append, List.getD_eq_getElem?_getD, List.getElem?_eq_getElem h]; rfl
def wireR (d : Dev) (t dir track : Int) (xs : List Int) (r : Nat) : List Int := if (r : Int) = (dir + 2) % 4 then xs else wireK d t r [track, (track + 1) % d.T] xs 2
def wireO (d : Dev) (t dir track : Int) (j : Nat) : List Int := (List.range j).foldl (wireR d t dir track) (outO d t 2)
theorem wireO_succ (d : Dev) (t dir track : Int) (j : Nat) : wireO d t dir track (j + 1) = wireR d t dir track (wireO d t dir track j) j := by unfold wireO; rw [List.range_succ, List.foldl_append]; rfl
theorem two_rng {a b T : Int} (h1 : 0 ≤ a ∧ a ≤ T - 1) (h2 : 0 ≤ b ∧ b ≤ T - 1) (j : Nat) (hj : j < 2) : 0 ≤ [a, b].getD j 0 ∧ [a, b].getD j 0 ≤ T - 1 := by
  rcases j with _ | _ | j
  · exact h1
  · exact h2
  · omega
theorem mod_rng {a T : Int} (hT : 1 ≤ T) : 0 ≤ a % T ∧ a % T ≤ T - 1 := ⟨Int.emod_nonneg _ (by omega), by have := Int.emod_lt_of_pos a (show 0 < T by omega); omega⟩
set_option maxHeartbeats 4000000 in
set_option maxRecDepth 100000 in
theorem wireSources_ret (d : Dev) (t dir track : Int) (w : World) (hv : devB d = true) (t0 : 0 ≤ t) (t1 : t ≤ d.W * d.H - 1) (r0 : 0 ≤ dir) (r1 : dir ≤ 3) (k0 : 0 ≤ track) (k1 : track ≤ d.T - 1) :
    Calls Try.prog 99 #[.agg #[.int .i64 d.W, .int .i64 d.H, .int .i64 d.T, .int .i64 d.R], .int .i64 t, .int .i64 dir, .int .i64 track] w (Ret w (fun v' post => post = [rowE 3 1 v' (wireO d t dir track 4).length ((wireO d t dir track 4).map (Value.int .i64))])) := by
  obtain ⟨-, -, ⟨l1, l2⟩, -⟩ := (devB_iff d).1 hv
  have hmr := mod_rng (a := track + 1) l1
  refine calls_hc (N := 69) (args := [.agg #[.int .i64 d.W, .int .i64 d.H, .int .i64 d.T, .int .i64 d.R], .int .i64 t, .int .i64 dir, .int .i64 track]) Try.func99 rfl rfl ?_
  refine hc_less _ (sub_cons (d := 0) rfl (sub_cons (d := 1) rfl (sub_cons (d := 2) rfl (sub_cons (d := 3) rfl (sub_nil _))))) (.refl _) ?_
  refine hc_seq ?_
  refine hc_region ?_
  refine hl_box rfl rfl rfl (rq_box rfl rfl) ?_
  intro b1
  refine hl_v rfl rfl rfl (rv_ev rfl) ?_
  refine hl_less (sub_cons (d := 0) rfl (sub_cons (d := 1) rfl (sub_cons (d := 2) rfl (sub_cons (d := 3) rfl (sub_cons (d := 4) rfl (sub_cons (d := 8) rfl (sub_nil _))))))) (.refl _) ?_
  refine hl_nil ?_
  refine hq_then ?_
  refine hc_seq ?_
  refine hc_region ?_
  refine hl_nilRow 3 1 ?_
  refine hl_v rfl rfl rfl (rv_ev rfl) ?_
  refine hl_less (sub_cons (d := 0) rfl (sub_cons (d := 1) rfl (sub_cons (d := 2) rfl (sub_cons (d := 3) rfl (sub_cons (d := 4) rfl (sub_cons (d := 8) rfl (sub_cons (d := 9) rfl (sub_nil _)))))))) (.refl _) ?_
  refine hl_nil ?_
  refine hq_then ?_
  refine hc_seq ?_
  refine hc_seq ?_
  refine hc_region ?_
  refine hl_v rfl rfl rfl (rv_ev rfl) ?_
  refine hl_less (sub_cons (d := 0) rfl (sub_cons (d := 1) rfl (sub_cons (d := 2) rfl (sub_cons (d := 3) rfl (sub_cons (d := 4) rfl (sub_cons (d := 8) rfl (sub_cons (d := 9) rfl (sub_cons (d := 10) rfl (sub_nil _))))))))) (.refl _) ?_
  refine hl_nil ?_
  refine hq_then ?_
  refine hc_block ?_
  refine hc_loop3 (α := Nat) (β := Value) (γ := List Int) (fun p v xs => [rowE 3 1 v xs.length (xs.map (Value.int .i64)), boxE b1 #[.int .i64 d.W, .int .i64 d.H, .int .i64 d.T, .int .i64 d.R] 25]) (fun p v xs => [(0, .agg #[.int .i64 d.W, .int .i64 d.H, .int .i64 d.T, .int .i64 d.R]), (1, .int .i64 t), (2, .int .i64 dir), (3, .int .i64 track), (4, .pointer (some ⟨b1, 0, none⟩)), (8, .slice none 0 0), (9, v), (10, .int .i64 (p : Int))]) (fun p v xs => p ≤ 2 ∧ xs = outO d t p ∧ xs.length ≤ p) (fun p v xs => 3 - p) 0 _ [] ⟨by omega, rfl, by simp⟩ (sub_cons (d := 0) rfl (sub_cons (d := 1) rfl (sub_cons (d := 2) rfl (sub_cons (d := 3) rfl (sub_cons (d := 4) rfl (sub_cons (d := 8) rfl (sub_cons (d := 9) rfl (sub_cons (d := 10) rfl (sub_nil _))))))))) ((.cons_cons _ (.cons_cons _ .slnil))) ?_
  intro p v xs hi3
  obtain ⟨hp, hx, hxl⟩ := hi3
  refine hc_seq ?_
  refine hc_seq ?_
  refine hc_region ?_
  refine hl_v rfl rfl rfl (rv_ev rfl) ?_
  refine hl_lss rfl rfl rfl rfl rfl rfl (fun h4 => ?_) (fun h4 => ?_)
  ·
    refine hl_less (sub_cons (d := 0) rfl (sub_cons (d := 1) rfl (sub_cons (d := 2) rfl (sub_cons (d := 3) rfl (sub_cons (d := 4) rfl (sub_cons (d := 8) rfl (sub_cons (d := 9) rfl (sub_cons (d := 10) rfl (sub_cons (d := 17) rfl (sub_nil _)))))))))) (.refl _) ?_
    refine hl_nil ?_
    refine hq_then ?_
    refine hc_true rfl ?_
    refine hc_skip ?_
    refine hq_then ?_
    refine hc_seq ?_
    refine hc_block ?_
    refine hc_seq ?_
    refine hc_region ?_
    refine hl_v rfl rfl rfl (rv_loadN (cs := [.int .i64 d.W, .int .i64 d.H, .int .i64 d.T, .int .i64 d.R]) rfl (by kernel_rfl) (by kernel_rfl) rfl rfl (box_part 1 rfl 0 rfl)) ?_
    refine hl_v rfl rfl rfl (rv_ev rfl) ?_
    refine hl_v rfl rfl rfl (rv_ev rfl) ?_
    refine hl_callV rfl rfl rfl (rq_call (by kernel_rfl) rfl (fun w hm => ret_ans (outPin_ans d _ _ w (by omega) (by omega)))) ?_
    refine hl_v rfl rfl rfl (rv_ev rfl) ?_
    refine hl_less (sub_cons (d := 0) rfl (sub_cons (d := 1) rfl (sub_cons (d := 2) rfl (sub_cons (d := 3) rfl (sub_cons (d := 4) rfl (sub_cons (d := 8) rfl (sub_cons (d := 9) rfl (sub_cons (d := 10) rfl (sub_cons (d := 11) rfl (sub_cons (d := 17) rfl (sub_nil _))))))))))) (.refl _) ?_
    refine hl_nil ?_
    refine hq_then ?_
    refine hc_seq ?_
    refine hc_region ?_
    refine hl_v rfl rfl rfl (rv_ev rfl) ?_
    refine hl_geq rfl rfl rfl rfl rfl rfl (fun h5 => ?_) (fun h5 => ?_)
    ·
      refine hl_less (sub_cons (d := 0) rfl (sub_cons (d := 1) rfl (sub_cons (d := 2) rfl (sub_cons (d := 3) rfl (sub_cons (d := 4) rfl (sub_cons (d := 8) rfl (sub_cons (d := 9) rfl (sub_cons (d := 10) rfl (sub_cons (d := 11) rfl (sub_cons (d := 17) rfl (sub_cons (d := 25) rfl (sub_nil _)))))))))))) (.refl _) ?_
      refine hl_nil ?_
      refine hq_then ?_
      refine hc_true rfl ?_
      refine hc_region ?_
      refine hl_v rfl rfl rfl (rv_ev rfl) ?_
      refine hl_v rfl rfl rfl (rv_ev rfl) ?_
      refine hl_callM (R := (fun v' p' => p' = rowE 3 1 v' (insI xs (outPinI d t (p : Int))).length ((insI xs (outPinI d t (p : Int))).map (Value.int .i64)))) 0 rfl rfl (by kernel_rfl) rfl rfl (fun l' w hm => insertInt_mut _ xs _ (by omega) w hm) ?_
      intro v6 p7 hR8
      subst hR8
      refine hl_eqL (l' := [rowE 3 1 v6 ((insI xs (outPinI d t (p : Int))).length) ((insI xs (outPinI d t (p : Int))).map (Value.int .i64)), boxE b1 #[.int .i64 d.W, .int .i64 d.H, .int .i64 d.T, .int .i64 d.R] 25]) rfl ?_
      refine hl_v rfl rfl rfl (rv_ev rfl) ?_
      refine hl_less (sub_cons (d := 0) rfl (sub_cons (d := 1) rfl (sub_cons (d := 2) rfl (sub_cons (d := 3) rfl (sub_cons (d := 4) rfl (sub_cons (d := 8) rfl (sub_cons (d := 9) rfl (sub_cons (d := 10) rfl (sub_cons (d := 11) rfl (sub_cons (d := 17) rfl (sub_cons (d := 25) rfl (sub_nil _)))))))))))) (.refl _) ?_
      refine hl_nil ?_
      refine hq_block_normal ?_
      refine hq_then ?_
      refine hc_region ?_
      refine hl_v rfl rfl rfl (rv_ev rfl) ?_
      refine hl_v rfl rfl rfl (rv_add rfl rfl rfl (by constructor <;> omega)) ?_
      refine hl_v rfl rfl rfl (rv_ev rfl) ?_
      refine hl_less (sub_cons (d := 0) rfl (sub_cons (d := 1) rfl (sub_cons (d := 2) rfl (sub_cons (d := 3) rfl (sub_cons (d := 4) rfl (sub_cons (d := 8) rfl (sub_cons (d := 9) rfl (sub_cons (d := 10) rfl (sub_cons (d := 11) rfl (sub_cons (d := 17) rfl (sub_cons (d := 25) rfl (sub_nil _)))))))))))) (.refl _) ?_
      refine hl_nil ?_
      have hil := insI_len xs (outPinI d t (p : Int))
      exact hq_round3 (p + 1) _ _ ⟨by omega, by rw [outO_succ, ← hx]; unfold outS; first | rw [if_pos (by assumption)] | rw [if_neg (by omega)], by omega⟩ (by omega) (sub_cons (d := 0) rfl (sub_cons (d := 1) rfl (sub_cons (d := 2) rfl (sub_cons (d := 3) rfl (sub_cons (d := 4) rfl (sub_cons (d := 8) rfl (sub_cons (d := 9) rfl (sub_cons (d := 10) rfl (sub_nil _))))))))) ((.cons_cons _ (.cons_cons _ .slnil)))
    ·
      refine hl_less (sub_cons (d := 0) rfl (sub_cons (d := 1) rfl (sub_cons (d := 2) rfl (sub_cons (d := 3) rfl (sub_cons (d := 4) rfl (sub_cons (d := 8) rfl (sub_cons (d := 9) rfl (sub_cons (d := 10) rfl (sub_cons (d := 11) rfl (sub_cons (d := 17) rfl (sub_cons (d := 25) rfl (sub_nil _)))))))))))) (.refl _) ?_
      refine hl_nil ?_
      refine hq_then ?_
      refine hc_false rfl ?_
      refine hc_skip ?_
      refine hq_block_normal ?_
      refine hq_then ?_
      refine hc_region ?_
      refine hl_v rfl rfl rfl (rv_ev rfl) ?_
      refine hl_v rfl rfl rfl (rv_add rfl rfl rfl (by constructor <;> omega)) ?_
      refine hl_v rfl rfl rfl (rv_ev rfl) ?_
      refine hl_less (sub_cons (d := 0) rfl (sub_cons (d := 1) rfl (sub_cons (d := 2) rfl (sub_cons (d := 3) rfl (sub_cons (d := 4) rfl (sub_cons (d := 8) rfl (sub_cons (d := 9) rfl (sub_cons (d := 10) rfl (sub_cons (d := 11) rfl (sub_cons (d := 17) rfl (sub_cons (d := 25) rfl (sub_nil _)))))))))))) (.refl _) ?_
      refine hl_nil ?_
      have hil := insI_len xs (outPinI d t (p : Int))
      exact hq_round3 (p + 1) _ _ ⟨by omega, by rw [outO_succ, ← hx]; unfold outS; first | rw [if_pos (by assumption)] | rw [if_neg (by omega)], by omega⟩ (by omega) (sub_cons (d := 0) rfl (sub_cons (d := 1) rfl (sub_cons (d := 2) rfl (sub_cons (d := 3) rfl (sub_cons (d := 4) rfl (sub_cons (d := 8) rfl (sub_cons (d := 9) rfl (sub_cons (d := 10) rfl (sub_nil _))))))))) ((.cons_cons _ (.cons_cons _ .slnil)))
  ·
    refine hl_less (sub_cons (d := 0) rfl (sub_cons (d := 1) rfl (sub_cons (d := 2) rfl (sub_cons (d := 3) rfl (sub_cons (d := 4) rfl (sub_cons (d := 8) rfl (sub_cons (d := 9) rfl (sub_cons (d := 10) rfl (sub_cons (d := 17) rfl (sub_nil _)))))))))) (.refl _) ?_
    refine hl_nil ?_
    refine hq_then ?_
    refine hc_false rfl ?_
    refine hc_exit ?_
    refine hq_then_exit ?_
    refine hq_then_exit ?_
    refine hq_block_exit ?_
    refine hq_then ?_
    refine hc_seq ?_
    refine hc_seq ?_
    refine hc_region ?_
    refine hl_v rfl rfl rfl (rv_ev rfl) ?_
    refine hl_less (sub_cons (d := 0) rfl (sub_cons (d := 1) rfl (sub_cons (d := 2) rfl (sub_cons (d := 3) rfl (sub_cons (d := 4) rfl (sub_cons (d := 8) rfl (sub_cons (d := 9) rfl (sub_cons (d := 10) rfl (sub_cons (d := 12) rfl (sub_cons (d := 17) rfl (sub_nil _))))))))))) (.refl _) ?_
    refine hl_nil ?_
    refine hq_then ?_
    refine hc_block ?_
    refine hc_loop3 (α := Nat) (β := Value) (γ := List Int) (fun r u ys => [rowE 3 1 u ys.length (ys.map (Value.int .i64)), boxE b1 #[.int .i64 d.W, .int .i64 d.H, .int .i64 d.T, .int .i64 d.R] 25]) (fun r u ys => [(0, .agg #[.int .i64 d.W, .int .i64 d.H, .int .i64 d.T, .int .i64 d.R]), (1, .int .i64 t), (2, .int .i64 dir), (3, .int .i64 track), (4, .pointer (some ⟨b1, 0, none⟩)), (8, .slice none 0 0), (9, u), (10, .int .i64 (p : Int)), (12, .int .i64 (r : Int)), (17, .bool false)]) (fun r u ys => r ≤ 4 ∧ ys = wireO d t dir track r ∧ ys.length ≤ 2 + 2 * r) (fun r u ys => 5 - r) 0 _ xs ⟨by omega, by rw [hx, show p = 2 by omega]; rfl, by omega⟩ (sub_cons (d := 0) rfl (sub_cons (d := 1) rfl (sub_cons (d := 2) rfl (sub_cons (d := 3) rfl (sub_cons (d := 4) rfl (sub_cons (d := 8) rfl (sub_cons (d := 9) rfl (sub_cons (d := 10) rfl (sub_cons (d := 12) rfl (sub_cons (d := 17) rfl (sub_nil _))))))))))) ((.cons_cons _ (.cons_cons _ .slnil))) ?_
    intro r u ys hi9
    obtain ⟨hr, hy, hyl⟩ := hi9
    refine hc_seq ?_
    refine hc_seq ?_
    refine hc_region ?_
    refine hl_v rfl rfl rfl (rv_ev rfl) ?_
    refine hl_lss rfl rfl rfl rfl rfl rfl (fun h10 => ?_) (fun h10 => ?_)
    ·
      refine hl_less (sub_cons (d := 0) rfl (sub_cons (d := 1) rfl (sub_cons (d := 2) rfl (sub_cons (d := 3) rfl (sub_cons (d := 4) rfl (sub_cons (d := 8) rfl (sub_cons (d := 9) rfl (sub_cons (d := 10) rfl (sub_cons (d := 12) rfl (sub_cons (d := 17) rfl (sub_cons (d := 30) rfl (sub_nil _)))))))))))) (.refl _) ?_
      refine hl_nil ?_
      refine hq_then ?_
      refine hc_true rfl ?_
      refine hc_skip ?_
      refine hq_then ?_
      refine hc_seq ?_
      refine hc_block ?_
      refine hc_seq ?_
      refine hc_seq ?_
      refine hc_region ?_
      refine hl_v rfl rfl rfl (rv_ev rfl) ?_
      refine hl_v rfl rfl rfl (rv_ev rfl) ?_
      refine hl_v rfl rfl rfl (rv_add rfl rfl rfl (by constructor <;> omega)) ?_
      refine hl_v rfl rfl rfl (rv_rem rfl rfl rfl (by constructor <;> omega)) ?_
      refine hl_eql rfl rfl rfl rfl rfl rfl (fun h11 => ?_) (fun h11 => ?_)
      ·
        refine hl_less (sub_cons (d := 0) rfl (sub_cons (d := 1) rfl (sub_cons (d := 2) rfl (sub_cons (d := 3) rfl (sub_cons (d := 4) rfl (sub_cons (d := 8) rfl (sub_cons (d := 9) rfl (sub_cons (d := 10) rfl (sub_cons (d := 12) rfl (sub_cons (d := 17) rfl (sub_cons (d := 30) rfl (sub_cons (d := 37) rfl (sub_nil _))))))))))))) (.refl _) ?_
        refine hl_nil ?_
        refine hq_then ?_
        refine hc_true rfl ?_
        refine hc_exit ?_
        refine hq_then_exit ?_
        refine hq_block_exit ?_
        refine hq_then ?_
        refine hc_region ?_
        refine hl_v rfl rfl rfl (rv_ev rfl) ?_
        refine hl_v rfl rfl rfl (rv_add rfl rfl rfl (by constructor <;> omega)) ?_
        refine hl_v rfl rfl rfl (rv_ev rfl) ?_
        refine hl_less (sub_cons (d := 0) rfl (sub_cons (d := 1) rfl (sub_cons (d := 2) rfl (sub_cons (d := 3) rfl (sub_cons (d := 4) rfl (sub_cons (d := 8) rfl (sub_cons (d := 9) rfl (sub_cons (d := 10) rfl (sub_cons (d := 12) rfl (sub_cons (d := 17) rfl (sub_cons (d := 30) rfl (sub_cons (d := 37) rfl (sub_nil _))))))))))))) (.refl _) ?_
        refine hl_nil ?_
        exact hq_round3 (r + 1) _ _ ⟨by omega, by rw [wireO_succ, ← hy]; unfold wireR; rw [if_pos (by omega)], by omega⟩ (by omega) (sub_cons (d := 0) rfl (sub_cons (d := 1) rfl (sub_cons (d := 2) rfl (sub_cons (d := 3) rfl (sub_cons (d := 4) rfl (sub_cons (d := 8) rfl (sub_cons (d := 9) rfl (sub_cons (d := 10) rfl (sub_cons (d := 12) rfl (sub_cons (d := 17) rfl (sub_nil _))))))))))) ((.cons_cons _ (.cons_cons _ .slnil)))
      ·
        refine hl_less (sub_cons (d := 0) rfl (sub_cons (d := 1) rfl (sub_cons (d := 2) rfl (sub_cons (d := 3) rfl (sub_cons (d := 4) rfl (sub_cons (d := 8) rfl (sub_cons (d := 9) rfl (sub_cons (d := 10) rfl (sub_cons (d := 12) rfl (sub_cons (d := 17) rfl (sub_cons (d := 30) rfl (sub_cons (d := 37) rfl (sub_nil _))))))))))))) (.refl _) ?_
        refine hl_nil ?_
        refine hq_then ?_
        refine hc_false rfl ?_
        refine hc_skip ?_
        refine hq_then ?_
        refine hc_seq ?_
        refine hc_region ?_
        refine hl_v rfl rfl rfl (rv_ev rfl) ?_
        refine hl_v rfl rfl rfl (rv_ev rfl) ?_
        refine hl_v rfl rfl rfl (rv_add rfl rfl rfl (by constructor <;> omega)) ?_
        refine hl_v rfl rfl rfl (rv_field (k0 := 2) rfl (by kernel_rfl) rfl) ?_
        refine hl_v rfl rfl rfl (rv_load rfl (by kernel_rfl) rfl (box_cell 1 rfl rfl)) ?_
        refine hl_v rfl rfl rfl (rv_rem rfl rfl rfl (by constructor <;> omega)) ?_
        refine hl_row rfl rfl rfl (rq_buildSlice (z := .int .i64 0) (s := 1) (cs := ([track, (track + 1) % d.T].map (Value.int .i64))) rfl Try.underlying30 (by kernel_rfl) (by decide) rfl (by kernel_rfl) rfl) ?_
        intro g12
        refine hl_v rfl rfl rfl (rv_len rfl Try.underlying30 rfl (rd_row 0 rfl)) ?_
        refine hl_v rfl rfl rfl (rv_ev rfl) ?_
        refine hl_less (sub_cons (d := 0) rfl (sub_cons (d := 1) rfl (sub_cons (d := 2) rfl (sub_cons (d := 3) rfl (sub_cons (d := 4) rfl (sub_cons (d := 8) rfl (sub_cons (d := 9) rfl (sub_cons (d := 10) rfl (sub_cons (d := 12) rfl (sub_cons (d := 17) rfl (sub_cons (d := 30) rfl (sub_cons (d := 37) rfl (sub_cons (d := 44) rfl (sub_cons (d := 45) rfl (sub_cons (d := 46) rfl (sub_nil _)))))))))))))))) (.refl _) ?_
        refine hl_nil ?_
        refine hq_then ?_
        refine hc_block ?_
        refine hc_loop3 (α := Nat) (β := Value) (γ := List Int) (fun j q zs => [rowE 3 1 (.slice (some ⟨g12, 0, none⟩) 2 2) 2 ([track, (track + 1) % d.T].map (Value.int .i64)), rowE 3 1 q zs.length (zs.map (Value.int .i64)), boxE b1 #[.int .i64 d.W, .int .i64 d.H, .int .i64 d.T, .int .i64 d.R] 25]) (fun j q zs => [(0, .agg #[.int .i64 d.W, .int .i64 d.H, .int .i64 d.T, .int .i64 d.R]), (1, .int .i64 t), (2, .int .i64 dir), (3, .int .i64 track), (4, .pointer (some ⟨b1, 0, none⟩)), (8, .slice none 0 0), (9, q), (10, .int .i64 (p : Int)), (12, .int .i64 (r : Int)), (17, .bool false), (30, .bool true), (37, .bool false), (44, .slice (some ⟨g12, 0, none⟩) 2 2), (45, .int .i64 (2 : Int)), (46, .int .i64 (j : Int))]) (fun j q zs => j ≤ 2 ∧ zs = wireK d t r [track, (track + 1) % d.T] ys j ∧ zs.length ≤ ys.length + j) (fun j q zs => 3 - j) 0 _ ys ⟨by omega, rfl, by simp⟩ (sub_cons (d := 0) rfl (sub_cons (d := 1) rfl (sub_cons (d := 2) rfl (sub_cons (d := 3) rfl (sub_cons (d := 4) rfl (sub_cons (d := 8) rfl (sub_cons (d := 9) rfl (sub_cons (d := 10) rfl (sub_cons (d := 12) rfl (sub_cons (d := 17) rfl (sub_cons (d := 30) rfl (sub_cons (d := 37) rfl (sub_cons (d := 44) rfl (sub_cons (d := 45) rfl (sub_cons (d := 46) rfl (sub_nil _)))))))))))))))) ((.cons_cons _ (.cons_cons _ (.cons_cons _ .slnil)))) ?_
        intro j q zs hi13
        obtain ⟨hj, hz, hzl⟩ := hi13
        refine hc_seq ?_
        refine hc_region ?_
        refine hl_lss rfl rfl rfl rfl rfl rfl (fun h14 => ?_) (fun h14 => ?_)
        ·
          refine hl_less (sub_cons (d := 0) rfl (sub_cons (d := 1) rfl (sub_cons (d := 2) rfl (sub_cons (d := 3) rfl (sub_cons (d := 4) rfl (sub_cons (d := 8) rfl (sub_cons (d := 9) rfl (sub_cons (d := 10) rfl (sub_cons (d := 12) rfl (sub_cons (d := 17) rfl (sub_cons (d := 30) rfl (sub_cons (d := 37) rfl (sub_cons (d := 44) rfl (sub_cons (d := 45) rfl (sub_cons (d := 46) rfl (sub_cons (d := 47) rfl (sub_nil _))))))))))))))))) (.refl _) ?_
          refine hl_nil ?_
          refine hq_then ?_
          refine hc_seq ?_
          refine hc_true rfl ?_
          refine hc_skip ?_
          refine hq_then ?_
          refine hc_seq ?_
          refine hc_block ?_
          refine hc_seq ?_
          refine hc_region ?_
          refine hl_v rfl rfl rfl (rv_index (s := 1) rfl Try.underlying30 (by kernel_rfl) rfl rfl (rd_row 0 rfl) (by omega) (by first | omega | (simp only [List.length_set]; omega))) ?_
          refine hl_v rfl rfl rfl (rv_loadEl (u := .int .i64 (([track, (track + 1) % d.T]).getD j 0)) rfl (by kernel_rfl) rfl (rd_row 0 rfl) (ints_at1 (show _ < 2 by first | omega | (simp only [List.length_set]; omega)))) ?_
          have hkr := two_rng (T := d.T) ⟨k0, k1⟩ hmr j (by omega)
          refine hl_v rfl rfl rfl (rv_ev rfl) ?_
          refine hl_less (sub_cons (d := 0) rfl (sub_cons (d := 1) rfl (sub_cons (d := 2) rfl (sub_cons (d := 3) rfl (sub_cons (d := 4) rfl (sub_cons (d := 8) rfl (sub_cons (d := 9) rfl (sub_cons (d := 10) rfl (sub_cons (d := 12) rfl (sub_cons (d := 14) rfl (sub_cons (d := 17) rfl (sub_cons (d := 30) rfl (sub_cons (d := 37) rfl (sub_cons (d := 44) rfl (sub_cons (d := 45) rfl (sub_cons (d := 46) rfl (sub_cons (d := 47) rfl (sub_nil _)))))))))))))))))) (.refl _) ?_
          refine hl_nil ?_
          refine hq_then ?_
          refine hc_seq ?_
          refine hc_draw (by kernel_rfl) 8 [0, 1, 2, 3, 4, 5, 6, 7] (List.take 8 _) (List.drop 8 _) [[], [], [], [2], [3], [], [5], [0, 1, 4, 6]] [50, 51, 52, 53, 54, 55, 56, 57] (fun i v p => match i with | 0 => v = .agg #[.int .i64 d.W, .int .i64 d.H, .int .i64 d.T, .int .i64 d.R] ∧ p = [] | 1 => v = .int .i64 t ∧ p = [] | 2 => v = .int .i64 (r : Int) ∧ p = [] | 3 => v = .int .i64 ((r : Int) + 2) ∧ p = [] | 4 => v = .int .i64 (((r : Int) + 2) % 4) ∧ p = [] | 5 => v = .int .i64 (([track, (track + 1) % d.T]).getD j 0) ∧ p = [] | 6 => v = .int .i64 (1 + (([track, (track + 1) % d.T]).getD j 0) % 2) ∧ p = [] | 7 => v = .int .i64 (stepI d t (((r : Int) + 2) % 4) (1 + (([track, (track + 1) % d.T]).getD j 0) % 2)) ∧ p = [] | _ => True) (List.take_append_drop 8 _).symm (by kernel_rfl) (by kernel_rfl) rfl rfl ?_ ?_
          ·
            refine ⟨?_, ?_, ?_, ?_, ?_, ?_, ?_, ?_, trivial⟩
            ·
              intro vf pf hR
              refine Or.inl ⟨rfl, ?_⟩
              refine rq_less (l' := [rowE 3 1 (.slice (some ⟨g12, 0, none⟩) 2 2) 2 ([track, (track + 1) % d.T].map (Value.int .i64)), rowE 3 1 q zs.length (zs.map (Value.int .i64)), boxE b1 #[.int .i64 d.W, .int .i64 d.H, .int .i64 d.T, .int .i64 d.R] 25]) (sub_cons (d := 4) rfl (sub_nil _)) (List.sublist_append_right _ _) ?_
              exact rq_v (rv_loadN (cs := [.int .i64 d.W, .int .i64 d.H, .int .i64 d.T, .int .i64 d.R]) rfl (by kernel_rfl) (by kernel_rfl) rfl rfl (box_part 2 rfl 0 rfl))
            ·
              intro vf pf hR
              refine Or.inl ⟨rfl, ?_⟩
              refine rq_less (l' := [rowE 3 1 (.slice (some ⟨g12, 0, none⟩) 2 2) 2 ([track, (track + 1) % d.T].map (Value.int .i64)), rowE 3 1 q zs.length (zs.map (Value.int .i64)), boxE b1 #[.int .i64 d.W, .int .i64 d.H, .int .i64 d.T, .int .i64 d.R] 25]) (sub_cons (d := 1) rfl (sub_nil _)) (List.sublist_append_right _ _) ?_
              exact rq_v (rv_ev rfl)
            ·
              intro vf pf hR
              refine Or.inl ⟨rfl, ?_⟩
              refine rq_less (l' := [rowE 3 1 (.slice (some ⟨g12, 0, none⟩) 2 2) 2 ([track, (track + 1) % d.T].map (Value.int .i64)), rowE 3 1 q zs.length (zs.map (Value.int .i64)), boxE b1 #[.int .i64 d.W, .int .i64 d.H, .int .i64 d.T, .int .i64 d.R] 25]) (sub_cons (d := 12) rfl (sub_nil _)) (List.sublist_append_right _ _) ?_
              exact rq_v (rv_ev rfl)
            ·
              intro vf pf hR
              have e2 : vf 2 = .int .i64 (r : Int) ∧ pf 2 = [] := hR 2 (by decide)
              refine Or.inl ⟨rfl, ?_⟩
              refine rq_less (l' := [rowE 3 1 (.slice (some ⟨g12, 0, none⟩) 2 2) 2 ([track, (track + 1) % d.T].map (Value.int .i64)), rowE 3 1 q zs.length (zs.map (Value.int .i64)), boxE b1 #[.int .i64 d.W, .int .i64 d.H, .int .i64 d.T, .int .i64 d.R] 25]) (sub_cons (d := 52) (congrArg some e2.1) (sub_nil _)) (List.sublist_append_right _ _) ?_
              exact rq_v (rv_add rfl rfl rfl (by constructor <;> omega))
            ·
              intro vf pf hR
              have e3 : vf 3 = .int .i64 ((r : Int) + 2) ∧ pf 3 = [] := hR 3 (by decide)
              refine Or.inl ⟨rfl, ?_⟩
              refine rq_less (l' := [rowE 3 1 (.slice (some ⟨g12, 0, none⟩) 2 2) 2 ([track, (track + 1) % d.T].map (Value.int .i64)), rowE 3 1 q zs.length (zs.map (Value.int .i64)), boxE b1 #[.int .i64 d.W, .int .i64 d.H, .int .i64 d.T, .int .i64 d.R] 25]) (sub_cons (d := 53) (congrArg some e3.1) (sub_nil _)) (List.sublist_append_right _ _) ?_
              exact rq_v (rv_rem rfl rfl rfl (by constructor <;> omega))
            ·
              intro vf pf hR
              refine Or.inl ⟨rfl, ?_⟩
              refine rq_less (l' := [rowE 3 1 (.slice (some ⟨g12, 0, none⟩) 2 2) 2 ([track, (track + 1) % d.T].map (Value.int .i64)), rowE 3 1 q zs.length (zs.map (Value.int .i64)), boxE b1 #[.int .i64 d.W, .int .i64 d.H, .int .i64 d.T, .int .i64 d.R] 25]) (sub_cons (d := 14) rfl (sub_nil _)) (List.sublist_append_right _ _) ?_
              exact rq_v (rv_ev rfl)
            ·
              intro vf pf hR
              have e5 : vf 5 = .int .i64 (([track, (track + 1) % d.T]).getD j 0) ∧ pf 5 = [] := hR 5 (by decide)
              refine Or.inl ⟨rfl, ?_⟩
              refine rq_less (l' := [rowE 3 1 (.slice (some ⟨g12, 0, none⟩) 2 2) 2 ([track, (track + 1) % d.T].map (Value.int .i64)), rowE 3 1 q zs.length (zs.map (Value.int .i64)), boxE b1 #[.int .i64 d.W, .int .i64 d.H, .int .i64 d.T, .int .i64 d.R] 25]) (sub_cons (d := 55) (congrArg some e5.1) (sub_nil _)) (List.sublist_append_right _ _) ?_
              exact (rq_call (by kernel_rfl) rfl (fun w hm => ret_ans (ans_of (wireLen_any _ (by omega) (by omega) w))))
            ·
              intro vf pf hR
              have e0 : vf 0 = .agg #[.int .i64 d.W, .int .i64 d.H, .int .i64 d.T, .int .i64 d.R] ∧ pf 0 = [] := hR 0 (by decide)
              have e1 : vf 1 = .int .i64 t ∧ pf 1 = [] := hR 1 (by decide)
              have e4 : vf 4 = .int .i64 (((r : Int) + 2) % 4) ∧ pf 4 = [] := hR 4 (by decide)
              have e6 : vf 6 = .int .i64 (1 + (([track, (track + 1) % d.T]).getD j 0) % 2) ∧ pf 6 = [] := hR 6 (by decide)
              refine Or.inl ⟨rfl, ?_⟩
              refine rq_less (l' := [rowE 3 1 (.slice (some ⟨g12, 0, none⟩) 2 2) 2 ([track, (track + 1) % d.T].map (Value.int .i64)), rowE 3 1 q zs.length (zs.map (Value.int .i64)), boxE b1 #[.int .i64 d.W, .int .i64 d.H, .int .i64 d.T, .int .i64 d.R] 25]) (sub_cons (d := 50) (congrArg some e0.1) (sub_cons (d := 51) (congrArg some e1.1) (sub_cons (d := 54) (congrArg some e4.1) (sub_cons (d := 56) (congrArg some e6.1) (sub_nil _))))) (List.sublist_append_right _ _) ?_
              exact (rq_call (by kernel_rfl) rfl (fun w hm => ret_ans (tileStep_any d _ _ _ hv (by omega) (by omega) (by omega) (by omega) (by omega) (by omega) w)))
          ·
            intro vf pf hR
            have e7 : vf 7 = .int .i64 (stepI d t (((r : Int) + 2) % 4) (1 + (([track, (track + 1) % d.T]).getD j 0) % 2)) ∧ pf 7 = [] := hR 7 (by decide)
            refine hl_less (l' := [rowE 3 1 (.slice (some ⟨g12, 0, none⟩) 2 2) 2 ([track, (track + 1) % d.T].map (Value.int .i64)), rowE 3 1 q zs.length (zs.map (Value.int .i64)), boxE b1 #[.int .i64 d.W, .int .i64 d.H, .int .i64 d.T, .int .i64 d.R] 25]) (sub_cons (d := 0) rfl (sub_cons (d := 1) rfl (sub_cons (d := 2) rfl (sub_cons (d := 3) rfl (sub_cons (d := 4) rfl (sub_cons (d := 8) rfl (sub_cons (d := 9) rfl (sub_cons (d := 10) rfl (sub_cons (d := 12) rfl (sub_cons (d := 14) rfl (sub_cons (d := 17) rfl (sub_cons (d := 30) rfl (sub_cons (d := 37) rfl (sub_cons (d := 44) rfl (sub_cons (d := 45) rfl (sub_cons (d := 46) rfl (sub_cons (d := 47) rfl (sub_cons (d := 57) (congrArg some e7.1) (sub_nil _))))))))))))))))))) (List.sublist_append_right _ _) ?_
            simp only [List.drop_succ_cons, List.drop_zero]
            refine hl_v rfl rfl rfl (rv_ev rfl) ?_
            refine hl_less (sub_cons (d := 0) rfl (sub_cons (d := 1) rfl (sub_cons (d := 2) rfl (sub_cons (d := 3) rfl (sub_cons (d := 4) rfl (sub_cons (d := 8) rfl (sub_cons (d := 9) rfl (sub_cons (d := 10) rfl (sub_cons (d := 12) rfl (sub_cons (d := 14) rfl (sub_cons (d := 15) rfl (sub_cons (d := 17) rfl (sub_cons (d := 30) rfl (sub_cons (d := 37) rfl (sub_cons (d := 44) rfl (sub_cons (d := 45) rfl (sub_cons (d := 46) rfl (sub_cons (d := 47) rfl (sub_nil _))))))))))))))))))) (.refl _) ?_
            refine hl_nil ?_
            refine hq_then ?_
            refine hc_seq ?_
            refine hc_region ?_
            refine hl_v rfl rfl rfl (rv_ev rfl) ?_
            refine hl_geq rfl rfl rfl rfl rfl rfl (fun h15 => ?_) (fun h15 => ?_)
            ·
              refine hl_less (sub_cons (d := 0) rfl (sub_cons (d := 1) rfl (sub_cons (d := 2) rfl (sub_cons (d := 3) rfl (sub_cons (d := 4) rfl (sub_cons (d := 8) rfl (sub_cons (d := 9) rfl (sub_cons (d := 10) rfl (sub_cons (d := 12) rfl (sub_cons (d := 14) rfl (sub_cons (d := 15) rfl (sub_cons (d := 17) rfl (sub_cons (d := 30) rfl (sub_cons (d := 37) rfl (sub_cons (d := 44) rfl (sub_cons (d := 45) rfl (sub_cons (d := 46) rfl (sub_cons (d := 47) rfl (sub_cons (d := 59) rfl (sub_nil _)))))))))))))))))))) (.refl _) ?_
              refine hl_nil ?_
              refine hq_then ?_
              refine hc_true rfl ?_
              refine hc_region ?_
              refine hl_v rfl rfl rfl (rv_ev rfl) ?_
              refine hl_v rfl rfl rfl (rv_loadN (cs := [.int .i64 d.W, .int .i64 d.H, .int .i64 d.T, .int .i64 d.R]) rfl (by kernel_rfl) (by kernel_rfl) rfl rfl (box_part 2 rfl 0 rfl)) ?_
              refine hl_v rfl rfl rfl (rv_ev rfl) ?_
              refine hl_v rfl rfl rfl (rv_ev rfl) ?_
              refine hl_v rfl rfl rfl (rv_ev rfl) ?_
              refine hl_callV rfl rfl rfl (rq_call (by kernel_rfl) rfl (fun w hm => ret_ans (wireNode_at d _ _ _ (step_tOk hv (by omega)) (by omega) (by omega) (by omega) (by omega) w))) ?_
              refine hl_callM (R := (fun v' p' => p' = rowE 3 1 v' (insI zs (wireNodeI d (stepI d t (((r : Int) + 2) % 4) (1 + (([track, (track + 1) % d.T]).getD j 0) % 2)) (r : Int) (([track, (track + 1) % d.T]).getD j 0))).length ((insI zs (wireNodeI d (stepI d t (((r : Int) + 2) % 4) (1 + (([track, (track + 1) % d.T]).getD j 0) % 2)) (r : Int) (([track, (track + 1) % d.T]).getD j 0))).map (Value.int .i64)))) 1 rfl rfl (by kernel_rfl) rfl rfl (fun l' w hm => insertInt_mut _ zs _ (by omega) w hm) ?_
              intro v16 p17 hR18
              subst hR18
              refine hl_eqL (l' := [rowE 3 1 (.slice (some ⟨g12, 0, none⟩) 2 2) 2 ([track, (track + 1) % d.T].map (Value.int .i64)), rowE 3 1 v16 ((insI zs (wireNodeI d (stepI d t (((r : Int) + 2) % 4) (1 + (([track, (track + 1) % d.T]).getD j 0) % 2)) (r : Int) (([track, (track + 1) % d.T]).getD j 0))).length) ((insI zs (wireNodeI d (stepI d t (((r : Int) + 2) % 4) (1 + (([track, (track + 1) % d.T]).getD j 0) % 2)) (r : Int) (([track, (track + 1) % d.T]).getD j 0))).map (Value.int .i64)), boxE b1 #[.int .i64 d.W, .int .i64 d.H, .int .i64 d.T, .int .i64 d.R] 25]) rfl ?_
              refine hl_v rfl rfl rfl (rv_ev rfl) ?_
              refine hl_less (sub_cons (d := 0) rfl (sub_cons (d := 1) rfl (sub_cons (d := 2) rfl (sub_cons (d := 3) rfl (sub_cons (d := 4) rfl (sub_cons (d := 8) rfl (sub_cons (d := 9) rfl (sub_cons (d := 10) rfl (sub_cons (d := 12) rfl (sub_cons (d := 14) rfl (sub_cons (d := 15) rfl (sub_cons (d := 17) rfl (sub_cons (d := 30) rfl (sub_cons (d := 37) rfl (sub_cons (d := 44) rfl (sub_cons (d := 45) rfl (sub_cons (d := 46) rfl (sub_cons (d := 47) rfl (sub_cons (d := 59) rfl (sub_nil _)))))))))))))))))))) (.refl _) ?_
              refine hl_nil ?_
              refine hq_block_normal ?_
              refine hq_then ?_
              refine hc_region ?_
              refine hl_v rfl rfl rfl (rv_add rfl rfl rfl (by constructor <;> omega)) ?_
              refine hl_v rfl rfl rfl (rv_ev rfl) ?_
              refine hl_less (sub_cons (d := 0) rfl (sub_cons (d := 1) rfl (sub_cons (d := 2) rfl (sub_cons (d := 3) rfl (sub_cons (d := 4) rfl (sub_cons (d := 8) rfl (sub_cons (d := 9) rfl (sub_cons (d := 10) rfl (sub_cons (d := 12) rfl (sub_cons (d := 14) rfl (sub_cons (d := 15) rfl (sub_cons (d := 17) rfl (sub_cons (d := 30) rfl (sub_cons (d := 37) rfl (sub_cons (d := 44) rfl (sub_cons (d := 45) rfl (sub_cons (d := 46) rfl (sub_cons (d := 47) rfl (sub_cons (d := 59) rfl (sub_nil _)))))))))))))))))))) (.refl _) ?_
              refine hl_nil ?_
              have hil := insI_len zs (wireNodeI d (stepI d t (((r : Int) + 2) % 4) (1 + [track, (track + 1) % d.T].getD j 0 % 2)) r ([track, (track + 1) % d.T].getD j 0))
              exact hq_round3 (j + 1) _ _ ⟨by omega, by rw [wireK_succ _ _ _ _ _ _ (show j < [track, (track + 1) % d.T].length by simp; omega), ← hz]; unfold wireW; first | rw [if_pos (by assumption)]; done | rw [if_neg (by omega)], by omega⟩ (by omega) (sub_cons (d := 0) rfl (sub_cons (d := 1) rfl (sub_cons (d := 2) rfl (sub_cons (d := 3) rfl (sub_cons (d := 4) rfl (sub_cons (d := 8) rfl (sub_cons (d := 9) rfl (sub_cons (d := 10) rfl (sub_cons (d := 12) rfl (sub_cons (d := 17) rfl (sub_cons (d := 30) rfl (sub_cons (d := 37) rfl (sub_cons (d := 44) rfl (sub_cons (d := 45) rfl (sub_cons (d := 46) rfl (sub_nil _)))))))))))))))) ((.cons_cons _ (.cons_cons _ (.cons_cons _ .slnil))))
            ·
              refine hl_less (sub_cons (d := 0) rfl (sub_cons (d := 1) rfl (sub_cons (d := 2) rfl (sub_cons (d := 3) rfl (sub_cons (d := 4) rfl (sub_cons (d := 8) rfl (sub_cons (d := 9) rfl (sub_cons (d := 10) rfl (sub_cons (d := 12) rfl (sub_cons (d := 14) rfl (sub_cons (d := 15) rfl (sub_cons (d := 17) rfl (sub_cons (d := 30) rfl (sub_cons (d := 37) rfl (sub_cons (d := 44) rfl (sub_cons (d := 45) rfl (sub_cons (d := 46) rfl (sub_cons (d := 47) rfl (sub_cons (d := 59) rfl (sub_nil _)))))))))))))))))))) (.refl _) ?_
              refine hl_nil ?_
              refine hq_then ?_
              refine hc_false rfl ?_
              refine hc_skip ?_
              refine hq_block_normal ?_
              refine hq_then ?_
              refine hc_region ?_
              refine hl_v rfl rfl rfl (rv_add rfl rfl rfl (by constructor <;> omega)) ?_
              refine hl_v rfl rfl rfl (rv_ev rfl) ?_
              refine hl_less (sub_cons (d := 0) rfl (sub_cons (d := 1) rfl (sub_cons (d := 2) rfl (sub_cons (d := 3) rfl (sub_cons (d := 4) rfl (sub_cons (d := 8) rfl (sub_cons (d := 9) rfl (sub_cons (d := 10) rfl (sub_cons (d := 12) rfl (sub_cons (d := 14) rfl (sub_cons (d := 15) rfl (sub_cons (d := 17) rfl (sub_cons (d := 30) rfl (sub_cons (d := 37) rfl (sub_cons (d := 44) rfl (sub_cons (d := 45) rfl (sub_cons (d := 46) rfl (sub_cons (d := 47) rfl (sub_cons (d := 59) rfl (sub_nil _)))))))))))))))))))) (.refl _) ?_
              refine hl_nil ?_
              have hil := insI_len zs (wireNodeI d (stepI d t (((r : Int) + 2) % 4) (1 + [track, (track + 1) % d.T].getD j 0 % 2)) r ([track, (track + 1) % d.T].getD j 0))
              exact hq_round3 (j + 1) _ _ ⟨by omega, by rw [wireK_succ _ _ _ _ _ _ (show j < [track, (track + 1) % d.T].length by simp; omega), ← hz]; unfold wireW; first | rw [if_pos (by assumption)]; done | rw [if_neg (by omega)], by omega⟩ (by omega) (sub_cons (d := 0) rfl (sub_cons (d := 1) rfl (sub_cons (d := 2) rfl (sub_cons (d := 3) rfl (sub_cons (d := 4) rfl (sub_cons (d := 8) rfl (sub_cons (d := 9) rfl (sub_cons (d := 10) rfl (sub_cons (d := 12) rfl (sub_cons (d := 17) rfl (sub_cons (d := 30) rfl (sub_cons (d := 37) rfl (sub_cons (d := 44) rfl (sub_cons (d := 45) rfl (sub_cons (d := 46) rfl (sub_nil _)))))))))))))))) ((.cons_cons _ (.cons_cons _ (.cons_cons _ .slnil))))
        ·
          refine hl_less (sub_cons (d := 0) rfl (sub_cons (d := 1) rfl (sub_cons (d := 2) rfl (sub_cons (d := 3) rfl (sub_cons (d := 4) rfl (sub_cons (d := 8) rfl (sub_cons (d := 9) rfl (sub_cons (d := 10) rfl (sub_cons (d := 12) rfl (sub_cons (d := 17) rfl (sub_cons (d := 30) rfl (sub_cons (d := 37) rfl (sub_cons (d := 44) rfl (sub_cons (d := 45) rfl (sub_cons (d := 46) rfl (sub_cons (d := 47) rfl (sub_nil _))))))))))))))))) (.refl _) ?_
          refine hl_nil ?_
          refine hq_then ?_
          refine hc_seq ?_
          refine hc_false rfl ?_
          refine hc_exit ?_
          refine hq_then_exit ?_
          refine hq_then_exit ?_
          refine hq_block_exit ?_
          refine hq_block_normal ?_
          refine hq_then ?_
          refine hc_region ?_
          refine hl_v rfl rfl rfl (rv_ev rfl) ?_
          refine hl_v rfl rfl rfl (rv_add rfl rfl rfl (by constructor <;> omega)) ?_
          refine hl_v rfl rfl rfl (rv_ev rfl) ?_
          refine hl_less (sub_cons (d := 0) rfl (sub_cons (d := 1) rfl (sub_cons (d := 2) rfl (sub_cons (d := 3) rfl (sub_cons (d := 4) rfl (sub_cons (d := 8) rfl (sub_cons (d := 9) rfl (sub_cons (d := 10) rfl (sub_cons (d := 12) rfl (sub_cons (d := 17) rfl (sub_cons (d := 30) rfl (sub_cons (d := 37) rfl (sub_cons (d := 44) rfl (sub_cons (d := 45) rfl (sub_cons (d := 46) rfl (sub_cons (d := 47) rfl (sub_nil _))))))))))))))))) (.refl _) ?_
          refine hl_nil ?_
          exact hq_round3 (r + 1) _ _ ⟨by omega, by rw [wireO_succ, ← hy]; unfold wireR; rw [if_neg (by omega), hz]; congr 1; omega, by omega⟩ (by omega) (sub_cons (d := 0) rfl (sub_cons (d := 1) rfl (sub_cons (d := 2) rfl (sub_cons (d := 3) rfl (sub_cons (d := 4) rfl (sub_cons (d := 8) rfl (sub_cons (d := 9) rfl (sub_cons (d := 10) rfl (sub_cons (d := 12) rfl (sub_cons (d := 17) rfl (sub_nil _))))))))))) ((.cons _ (.cons_cons _ (.cons_cons _ .slnil))))
    ·
      refine hl_less (sub_cons (d := 0) rfl (sub_cons (d := 1) rfl (sub_cons (d := 2) rfl (sub_cons (d := 3) rfl (sub_cons (d := 4) rfl (sub_cons (d := 8) rfl (sub_cons (d := 9) rfl (sub_cons (d := 10) rfl (sub_cons (d := 12) rfl (sub_cons (d := 17) rfl (sub_cons (d := 30) rfl (sub_nil _)))))))))))) (.refl _) ?_
      refine hl_nil ?_
      refine hq_then ?_
      refine hc_false rfl ?_
      refine hc_exit ?_
      refine hq_then_exit ?_
      refine hq_then_exit ?_
      refine hq_block_exit ?_
      refine hq_then ?_
      refine hc_seq ?_
      refine hc_region ?_
      refine hl_v rfl rfl rfl (rv_ev rfl) ?_
      refine hl_v rfl rfl rfl (rv_ev rfl) ?_
      refine hl_less (sub_cons (d := 0) rfl (sub_cons (d := 1) rfl (sub_cons (d := 2) rfl (sub_cons (d := 3) rfl (sub_cons (d := 4) rfl (sub_cons (d := 8) rfl (sub_cons (d := 9) rfl (sub_cons (d := 10) rfl (sub_cons (d := 12) rfl (sub_cons (d := 17) rfl (sub_cons (d := 30) rfl (sub_nil _)))))))))))) (.refl _) ?_
      refine hl_nil ?_
      refine hq_then ?_
      refine hc_ret ?_
      exact hq_retR (post := [rowE 3 1 u ys.length (ys.map (Value.int .i64))]) rfl rfl ((.cons_cons _ (.cons _ .slnil))) (by rw [hy, show r = 4 by omega])
end Go.Proofs.Ytnnkbpcfjjijbaa
