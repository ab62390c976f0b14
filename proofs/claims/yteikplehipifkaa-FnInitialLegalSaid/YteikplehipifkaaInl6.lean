/- Texts of the law FnInitialLegal, part 6: what it uses. -/
import Derived.Test.YteikplehipifkaaInl5
set_option linter.unusedVariables false
set_option linter.unusedSimpArgs false
set_option maxHeartbeats 4000000
set_option maxRecDepth 100000
namespace Go.Proofs.Yteikplehipifkaa
open Go.RowKit Go.ChangeShapes
open Go.RowKit
theorem NearestFree_ret (d : Dev) (c x y : Int) (tk : List Int) (tv : Value) (w : World) (hdv : devB d = true) (hx : 0 ≤ x ∧ x ≤ 600) (hy : 0 ≤ y ∧ y ≤ 600) (htk : RdsW w tv 1 tk.length (tk.map (Value.int .i64))) (htl : tk.length ≤ 1000) :
   Calls Try.prog 56 #[.agg #[.int .i64 d.W, .int .i64 d.H, .int .i64 d.T, .int .i64 d.R], .int .i64 c, .int .i64 x, .int .i64 y, tv] w (Ret w (fun u_ p_ => ∃ t : Int, u_ = .int .i64 t ∧ p_ = [] ∧ ((t = -1 ∧ ∀ x ∈ tilesK d c, x ∈ tk) ∨ (0 ≤ t ∧ t ∈ tilesK d c ∧ t ∉ tk)))) := by
 obtain ⟨har1, har2⟩ := zfe hdv
 obtain ⟨⟨dw0, dw1⟩, ⟨dh0, dh1⟩, -⟩ := (zeq d).1 hdv
 have htl9 : (tilesK d c).length ≤ (d.W * d.H).toNat := tlL_le d _ _
 refine zbl (N := 74) (args := [.agg #[.int .i64 d.W, .int .i64 d.H, .int .i64 d.T, .int .i64 d.R], .int .i64 c, .int .i64 x, .int .i64 y, tv]) Try.func56 rfl rfl (srQ ?_)
 refine zdt rfl (zcm rfl rfl) ?_
 intro b1
 refine zba 1 rfl (zfc (hvQ rfl (zao (cs := [.int .i64 d.W, .int .i64 d.H, .int .i64 d.T, .int .i64 d.R]) rfl rfl rfl rfl rfl (zaj 0 rfl 0 rfl)) ?_))
 refine zdp rfl (zan rfl rfl (fun w hm => zau (by have h9 := zdm d w; rw [hdv] at h9; exact h9))) (zam 3 rfl ?_)
 refine zdp rfl (zan rfl rfl (fun w hm => zau (ans_of (by have h9 := zdk x 0 600 w; rw [(zde _ _ _).2 (by omega)] at h9; exact h9)))) (zam 4 rfl ?_)
 refine zdp rfl (zan rfl rfl (fun w hm => zau (ans_of (by have h9 := zdk y 0 600 w; rw [(zde _ _ _).2 (by omega)] at h9; exact h9)))) (zba 2 rfl (zal rfl (zcn (zbd 2 rfl (zaa ?_)))))
 refine srQ (hvQ rfl (zao (cs := [.int .i64 d.W, .int .i64 d.H, .int .i64 d.T, .int .i64 d.R]) rfl rfl rfl rfl rfl (zaj 0 rfl 0 rfl)) (zam 1 rfl ?_))
 refine zfu rfl rfl rfl (zan rfl rfl (fun w hm => implTilesOf_ret d c w hdv)) ?_
 intro v2 p3 hR4
 subst hR4
 refine hvQ rfl (lnQ rfl rfl rfl (zac 0 rfl)) (zba 1 rfl (zax ?_))
 refine lkQ3 (α := Nat) (β := Int) (γ := Int) [0, 1, 2, 3, 4, 5, 10, 30, 33, 34] rfl (fun i b_ l_ => [rowE 3 1 v2 ((tilesK d c).length) ((tilesK d c).map (Value.int .i64)), boxE b1 #[.int .i64 d.W, .int .i64 d.H, .int .i64 d.T, .int .i64 d.R] 25]) (fun i b_ l_ => [(11, .int .i64 b_), (12, .int .i64 l_), (35, .int .i64 (i : Int))]) (fun i b_ l_ => i ≤ (tilesK d c).length ∧ (0 ≤ l_ ∧ l_ ≤ 720000) ∧ ((b_ = -1 ∧ ∀ q, q < i → (tilesK d c).getD q 0 ∈ tk) ∨ (0 ≤ b_ ∧ b_ ∈ (tilesK d c) ∧ b_ ∉ tk))) (fun i b_ l_ => (tilesK d c).length - i) 0 _ _ ⟨Nat.zero_le _, by omega, .inl ⟨rfl, fun q hq => absurd hq (by omega)⟩⟩ (saQ rfl) (pfQ rfl) ?_
 intro i b_ l_ hi5
 obtain ⟨hi, hl_, hb_⟩ := hi5
 refine srQ ?_
 refine zbk rfl rfl rfl rfl rfl rfl (fun h6 => ?_) (fun h6 => ?_)
 ·
  refine ntQ (tcQ rfl (zcn (sbQ (srQ (hvQ rfl (riQ 1 rfl rfl rfl rfl (zac 0 rfl)) (hvQ rfl (zar (u := .int .i64 ((tilesK d c).getD i 0)) rfl rfl rfl (zac 0 rfl) (zbu (show _ < (tilesK d c).length by omega))) (zam 1 rfl ?_)))))))
  refine ntQ (zfc ?_)
  have htm : ((tilesK d c).getD i 0) ∈ (tilesK d c) := zeh (by omega)
  have htr := (zel hdv).1 htm
  refine zam 2 rfl (zdp rfl (zan rfl rfl (fun w hm => zau (hasInt9_ans tk ((tilesK d c).getD i 0) _ w (htk.below hm.bel) (by omega)))) ?_)
  refine zbx (fun h7 => ?_) (fun h7 => ?_)
  ·
   refine ntQ (zak rfl ?_)
   refine zaz (zct ?_)
   refine zag (zav (zay (hvQ rfl (vaQ rfl rfl rfl) (enQ 1 rfl ?_))))
   exact zbh (i + 1) b_ l_ ⟨by omega, by omega, by first | exact .inr ⟨htr.1.1, htm, htn⟩ | exact .inr (hb_.resolve_left (fun h9 => by omega)) | (rcases hb_ with ⟨h8, h7⟩ | h8; exact .inl ⟨h8, fun q hq => by by_cases e : q = i; (subst e; exact zfw.1 (by assumption)); exact h7 q (by omega)⟩; exact .inr h8)⟩ (by omega) (saQ rfl) (pfQ rfl)
  refine ntQ (zal rfl (zcn (zaa ?_)))
  have hwp : d.W ≠ 0 := by omega
  have hx0 := Int.emod_nonneg ((tilesK d c).getD i 0) hwp
  have hx1 := Int.emod_lt_of_pos ((tilesK d c).getD i 0) (show 0 < d.W by omega)
  have hy0 : 0 ≤ ((tilesK d c).getD i 0) / d.W := Int.ediv_nonneg htr.1.1 (by omega)
  have hy1 : ((tilesK d c).getD i 0) / d.W < d.H := Int.ediv_lt_of_lt_mul (by omega) (by rw [Int.mul_comm]; exact htr.1.2)
  have htn : ((tilesK d c).getD i 0) ∉ tk := fun h9 => by have h8 := zfw.2 h9; simp_all
  refine zca 15 [[], [], [1], [0, 2], [3], [], [4, 5], [], [], [8], [7, 9], [10], [], [11, 12], [6]] [42, 43, 44, 45, 46, 47, 48, 49, 50, 51, 52, 53, 54, 55, 15] [.int .i64 ((tilesK d c).getD i 0), .pointer (some ⟨b1, 0 + 0, none⟩), .int .i64 d.W, .int .i64 (((tilesK d c).getD i 0) % d.W), .int .i64 (100 * (((tilesK d c).getD i 0) % d.W)), .int .i64 x, .int .i64 ((100 * (((tilesK d c).getD i 0) % d.W)) - x), .int .i64 ((tilesK d c).getD i 0), .pointer (some ⟨b1, 0 + 0, none⟩), .int .i64 d.W, .int .i64 (((tilesK d c).getD i 0) / d.W), .int .i64 (100 * (((tilesK d c).getD i 0) / d.W)), .int .i64 y, .int .i64 ((100 * (((tilesK d c).getD i 0) / d.W)) - y), .int .i64 ((100 * (((tilesK d c).getD i 0) % d.W)) - x)] (by kernel_rfl) rfl ?_ ?_
  ·
   exact ⟨iaQ rfl (zat rfl) rfl, iaQ rfl (fdQ 0 rfl rfl rfl) rfl, iaQ rfl (zaf rfl rfl rfl (zab 1 rfl rfl)) rfl, iaQ rfl (zgi rfl rfl rfl (by constructor <;> omega)) rfl, iaQ rfl (zdu rfl rfl rfl (by constructor <;> omega)) rfl, iaQ rfl (zat rfl) rfl, iaQ rfl (vsQ rfl rfl rfl) rfl, iaQ rfl (zat rfl) rfl, iaQ rfl (fdQ 0 rfl rfl rfl) rfl, iaQ rfl (zaf rfl rfl rfl (zab 1 rfl rfl)) rfl, iaQ rfl (zee rfl rfl rfl (by refine ⟨?_, ?_, ?_⟩ <;> omega)) rfl, iaQ rfl (zdu rfl rfl rfl (by constructor <;> omega)) rfl, iaQ rfl (zat rfl) rfl, iaQ rfl (vsQ rfl rfl rfl) rfl, iaQ rfl (zat rfl) rfl, trivial⟩
  simp only [List.drop_succ_cons, List.drop_zero]
  refine zba 1 rfl (srQ ?_)
  have hsx := sq_rng (x := (100 * (((tilesK d c).getD i 0) % d.W)) - x) (by omega) (by omega)
  have hsy := sq_rng (x := (100 * (((tilesK d c).getD i 0) / d.W)) - y) (by omega) (by omega)
  refine zam 2 rfl (hvQ rfl (zdu rfl rfl rfl (by constructor <;> omega)) (zam 2 rfl (hvQ rfl (zdu rfl rfl rfl (by constructor <;> omega)) (hvQ rfl (vaQ rfl rfl rfl) (zba 1 rfl (zaa (reQ 1 rfl ?_)))))))
  refine zbk rfl rfl rfl rfl rfl rfl (fun h8 => ?_) (fun h8 => ?_)
  ·
   refine zba 5 rfl (zak rfl (zay (enQ 4 rfl (zco (zay ?_)))))
   refine hvQ rfl (vaQ rfl rfl rfl) (enQ 1 rfl ?_)
   exact zbh (i + 1) ((tilesK d c).getD i 0) ((((100 * (((tilesK d c).getD i 0) % d.W)) - x) * ((100 * (((tilesK d c).getD i 0) % d.W)) - x)) + (((100 * (((tilesK d c).getD i 0) / d.W)) - y) * ((100 * (((tilesK d c).getD i 0) / d.W)) - y))) ⟨by omega, by omega, by first | exact .inr ⟨htr.1.1, htm, htn⟩ | exact .inr (hb_.resolve_left (fun h9 => by omega)) | (rcases hb_ with ⟨h8, h7⟩ | h8; exact .inl ⟨h8, fun q hq => by by_cases e : q = i; (subst e; exact zfw.1 (by assumption)); exact h7 q (by omega)⟩; exact .inr h8)⟩ (by omega) (saQ rfl) (pfQ rfl)
  refine zam 3 rfl (zbk rfl rfl rfl rfl rfl rfl (fun h9 => ?_) (fun h9 => ?_))
  ·
   refine zba 1 rfl (zak rfl (zay (enQ 4 rfl (zco (zay (hvQ rfl (vaQ rfl rfl rfl) (zam 1 rfl ?_)))))))
   exact zbr (zbh (i + 1) ((tilesK d c).getD i 0) ((((100 * (((tilesK d c).getD i 0) % d.W)) - x) * ((100 * (((tilesK d c).getD i 0) % d.W)) - x)) + (((100 * (((tilesK d c).getD i 0) / d.W)) - y) * ((100 * (((tilesK d c).getD i 0) / d.W)) - y))) ⟨by omega, by omega, by first | exact .inr ⟨htr.1.1, htm, htn⟩ | exact .inr (hb_.resolve_left (fun h9 => by omega)) | (rcases hb_ with ⟨h8, h7⟩ | h8; exact .inl ⟨h8, fun q hq => by by_cases e : q = i; (subst e; exact zfw.1 (by assumption)); exact h7 q (by omega)⟩; exact .inr h8)⟩ (by omega) (saQ rfl) (pfQ rfl))
  refine zba 1 rfl (fsQ rfl (zco (zay (hvQ rfl (vaQ rfl rfl rfl) (enQ 1 rfl ?_)))))
  exact zbh (i + 1) b_ l_ ⟨by omega, by omega, by first | exact .inr ⟨htr.1.1, htm, htn⟩ | exact .inr (hb_.resolve_left (fun h9 => by omega)) | (rcases hb_ with ⟨h8, h7⟩ | h8; exact .inl ⟨h8, fun q hq => by by_cases e : q = i; (subst e; exact zfw.1 (by assumption)); exact h7 q (by omega)⟩; exact .inr h8)⟩ (by omega) (saQ rfl) (pfQ rfl)
 refine ntQ (fcQ rfl ?_)
 refine zaz (zds ?_)
 refine zag (zav (zbd 2 rfl ?_))
 exact zaw (zdb (rs := [.tmp 10]) (vs := [.int .i64 b_]) (post := []) rfl ⟨rfl, trivial⟩ rfl (slQ [] rfl) ⟨_, rfl, rfl, by rcases hb_ with ⟨h8, h7⟩ | h8; exact .inl ⟨h8, fun x hx => by obtain ⟨q, hq, rfl⟩ := List.mem_iff_getElem.1 hx; have h9 := h7 q (by omega); rwa [List.getD_eq_getElem?_getD, List.getElem?_eq_getElem hq] at h9⟩; exact .inr h8⟩)
theorem Averages_ret (d : Dev) (fx : List Int) (cs : List Cn) (rn : Int) (fv cv : Value) (w : World) (hdv : devB d = true) (hfv : RdsW w fv 1 fx.length (fx.map (Value.int .i64))) (hcn : RdsCn w cv cs) (hfl : fx.length ≤ 64) (hfx : ∀ q, q < fx.length → fx.getD q 0 = -1 ∨ (0 ≤ fx.getD q 0 ∧ fx.getD q 0 < d.W * d.H)) (hci : CnIn fx.length cs) (hco : CoP cs) (hrn : 0 ≤ rn ∧ rn ≤ 20) :
   Calls Try.prog 55 #[.agg #[.int .i64 d.W, .int .i64 d.H, .int .i64 d.T, .int .i64 d.R], fv, cv, .int .i64 rn] w (Ret w (fun u_ p_ => ∃ ws : List Pn, p_ = [rowE 41 2 u_ ws.length (ws.flatMap pnC)] ∧ ws.length = fx.length ∧ WsR ws)) := by
 obtain ⟨har1, har2⟩ := zfe hdv
 obtain ⟨⟨dw0, dw1⟩, ⟨dh0, dh1⟩, -⟩ := (zeq d).1 hdv
 have hco1 := hco.1
 refine zbl (N := 149) (args := [.agg #[.int .i64 d.W, .int .i64 d.H, .int .i64 d.T, .int .i64 d.R], fv, cv, .int .i64 rn]) Try.func55 rfl rfl (srQ ?_)
 refine zdt rfl (zcm rfl rfl) ?_
 intro b1
 refine zba 1 rfl (zfc (hvQ rfl (zao (cs := [.int .i64 d.W, .int .i64 d.H, .int .i64 d.T, .int .i64 d.R]) rfl rfl rfl rfl rfl (zaj 0 rfl 0 rfl)) ?_))
 refine zdp rfl (zan rfl rfl (fun w hm => zau (by have h9 := zdm d w; rw [hdv] at h9; exact h9))) (zam 3 rfl (hvQ rfl (lnQ rfl rfl rfl (zae hfv)) (zam 1 rfl ?_)))
 refine zdp rfl (zan rfl rfl (fun w hm => zau (by have h9 := zgl fx.length cs _ w (hcn.below hm.bel) hci hfl; rw [zed hco] at h9; exact h9))) (zam 4 rfl ?_)
 refine zdp rfl (zan rfl rfl (fun w hm => zau (ans_of (by have h9 := zdk rn 0 20 w; rw [(zde _ _ _).2 (by omega)] at h9; exact h9)))) (zba 2 rfl (zal rfl (zcn (srQ ?_))))
 refine hl_nilRow 41 2 ?_
 refine zdz (l' := [rowE 41 2 (.slice none 0 0) (([] : List Pn).length) (([] : List Pn).flatMap pnC), boxE b1 #[.int .i64 d.W, .int .i64 d.H, .int .i64 d.T, .int .i64 d.R] 25]) rfl ?_
 refine zba 1 rfl (zaa (zaa (reQ 1 rfl (hvQ rfl (lnQ rfl rfl rfl (zae hfv)) (zba 1 rfl (zax ?_))))))
 refine lkQ3 (α := Nat) (β := Value) (γ := List Pn) [0, 1, 2, 3, 4, 8, 36, 37, 38] rfl (fun u gu ws => [rowE 41 2 gu ws.length (ws.flatMap pnC), boxE b1 #[.int .i64 d.W, .int .i64 d.H, .int .i64 d.T, .int .i64 d.R] 25]) (fun u gu ws => [(9, gu), (39, .int .i64 (u : Int))]) (fun u gu ws => u ≤ fx.length ∧ ws.length = u ∧ WsR ws) (fun u gu ws => fx.length - u) 0 _ [] ⟨Nat.zero_le _, rfl, WsR.nil⟩ (saQ rfl) (pfQ rfl) ?_
 intro u gu ws hi3
 obtain ⟨hi, hwl, hwr⟩ := hi3
 refine srQ ?_
 refine zbk rfl rfl rfl rfl rfl rfl (fun h4 => ?_) (fun h4 => ?_)
 ·
  refine ntQ (tcQ rfl (zcn (sbQ (srQ (hvQ rfl (riQ 1 rfl rfl rfl rfl (zae hfv)) (hvQ rfl (liQ rfl rfl rfl (zae hfv)) (zam 1 rfl ?_)))))))
  refine ntQ (zfc ?_)
  have hfi := hfx u (by omega)
  have hwp : d.W ≠ 0 := by omega
  have hx0 := Int.emod_nonneg (fx.getD u 0) hwp
  have hx1 := Int.emod_lt_of_pos (fx.getD u 0) (show 0 < d.W by omega)
  have hy0 : (fx.getD u 0) ≠ -1 → 0 ≤ (fx.getD u 0) / d.W := fun h9 => Int.ediv_nonneg (by omega) (by omega)
  have hy1 : (fx.getD u 0) ≠ -1 → (fx.getD u 0) / d.W < d.H := fun h9 => Int.ediv_lt_of_lt_mul (by omega) (by rw [Int.mul_comm]; omega)
  refine zam 1 rfl (zgw rfl rfl rfl rfl rfl rfl (fun h5 => ?_) (fun h5 => ?_))
  ·
   refine zam 1 rfl (hvQ rfl (zao (cs := [.int .i64 d.W, .int .i64 d.H, .int .i64 d.T, .int .i64 d.R]) rfl rfl rfl rfl rfl (zaj 1 rfl 0 rfl)) (zam 1 rfl ?_))
   refine zdp rfl (zan rfl rfl (fun w hm => zau (by have h9 := zft d (fx.getD u 0) w; rw [(zgo d _).2 ⟨hdv, by omega, by omega⟩] at h9; exact h9))) (zba 2 rfl (zal rfl (zcn (zaa (reQ 1 rfl ?_)))))
   refine zby rfl rfl rfl rfl rfl rfl (fun h6 => ?_) (fun h6 => ?_)
   ·
    refine ntQ (zak rfl (reQ 1 rfl (hvQ rfl (fdQ 0 rfl rfl rfl) (hvQ rfl (zaf rfl rfl rfl (zab 1 rfl rfl)) (hvQ rfl (vsQ rfl rfl rfl) (hvQ rfl (zdu rfl rfl rfl (by constructor <;> omega)) (hvQ rfl (fdQ 1 rfl rfl rfl) (hvQ rfl (zaf rfl rfl rfl (zab 1 rfl rfl)) (hvQ rfl (vsQ rfl rfl rfl) (hvQ rfl (zdu rfl rfl rfl (by constructor <;> omega)) ?_))))))))))
    refine hvQ rfl (zcq (cs := #[.int .i64 (50 * (d.W - 1)), .int .i64 (50 * (d.H - 1))]) rfl rfl rfl) (zdi rfl (zas (z := .agg #[.int .i64 0, .int .i64 0]) (s := 2) (cs := ([50 * (d.W - 1), 50 * (d.H - 1)].map (Value.int .i64))) rfl Try.underlying42 rfl (by decide) rfl (by kernel_rfl) rfl) ?_)
    intro g7
    refine zcf (i := 1) (z := .agg #[.int .i64 0, .int .i64 0]) (bytes := 16) rfl rfl rfl rfl Try.underlying42 (by kernel_rfl) rfl rfl rfl rfl (zac 0 rfl) (zbm _) (by first | omega | (simp only [List.length_append, List.length_cons, List.length_nil]; omega)) (zbt ws [(Pn.mk (50 * (d.W - 1)) (50 * (d.H - 1)))]) (zcp pnC ws (Pn.mk (50 * (d.W - 1)) (50 * (d.H - 1))) _ rfl) (fun _ => rfl) ?_
    intro v8
    refine enQ 1 rfl (zco (zay (hvQ rfl (vaQ rfl rfl rfl) (enQ 1 rfl ?_))))
    exact zbh (u + 1) v8 (ws ++ [(Pn.mk (50 * (d.W - 1)) (50 * (d.H - 1)))]) ⟨by omega, by rw [List.length_append, List.length_singleton]; omega, hwr.app (by omega) (by omega)⟩ (by omega) (saQ rfl) (slQ [1, 0] rfl)
   refine ntQ (zal rfl ?_)
   refine zdg rfl 13 [0, 1, 2, 3, 4, 5, 6, 7, 8, 9, 10, 11, 12] (List.take 13 _) (List.drop 13 _) [[], [], [], [2], [1, 3], [4], [], [], [7], [6, 8], [9], [5, 10], [11]] [65, 66, 67, 68, 69, 70, 71, 72, 73, 74, 75, 76, 77] (fun i_ vs_ v_ p_ => match i_ with | 0 => v_ = gu ∧ p_ = [] | 1 => v_ = .int .i64 (fx.getD u 0) ∧ p_ = [] | 2 => v_ = .pointer (some ⟨b1, 0 + 0, none⟩) ∧ p_ = [] | 3 => v_ = .int .i64 d.W ∧ p_ = [] | 4 => v_ = .int .i64 ((fx.getD u 0) % d.W) ∧ p_ = [] | 5 => v_ = .int .i64 (100 * ((fx.getD u 0) % d.W)) ∧ p_ = [] | 6 => v_ = .int .i64 (fx.getD u 0) ∧ p_ = [] | 7 => v_ = .pointer (some ⟨b1, 0 + 0, none⟩) ∧ p_ = [] | 8 => v_ = .int .i64 d.W ∧ p_ = [] | 9 => v_ = .int .i64 ((fx.getD u 0) / d.W) ∧ p_ = [] | 10 => v_ = .int .i64 (100 * ((fx.getD u 0) / d.W)) ∧ p_ = [] | 11 => v_ = .agg #[.int .i64 (100 * ((fx.getD u 0) % d.W)), .int .i64 (100 * ((fx.getD u 0) / d.W))] ∧ p_ = [] | 12 => IsRow 41 2 1 ([100 * ((fx.getD u 0) % d.W), 100 * ((fx.getD u 0) / d.W)].map (Value.int .i64)) v_ p_ | _ => True) (List.take_append_drop 13 _).symm (by kernel_rfl) (by kernel_rfl) rfl rfl ?_ ?_
   ·
    refine ⟨?_, ?_, ?_, ?_, ?_, ?_, ?_, ?_, ?_, ?_, ?_, ?_, ?_, trivial⟩
    ·
     intro vf pf hR
     exact ovQ rfl (zai [9] rfl) (zbe (zat rfl))
    ·
     intro vf pf hR
     exact ovQ rfl (zai [11] rfl) (zbe (zat rfl))
    ·
     intro vf pf hR
     exact ovQ rfl (zai [4] rfl) (zbe (fdQ 0 rfl rfl rfl))
    ·
     intro vf pf hR
     have e2 := hR 2 (by decide)
     exact olQ rfl (sk 67 (congrArg some e2.1) (zad _)) (zbe (zaf rfl rfl rfl (zab 1 rfl rfl)))
    ·
     intro vf pf hR
     have e1 := hR 1 (by decide)
     have e3 := hR 3 (by decide)
     exact ovQ rfl (sk 66 (congrArg some e1.1) (sk 68 (congrArg some e3.1) (zad _))) (zbe (zgi rfl rfl rfl (by constructor <;> omega)))
    ·
     intro vf pf hR
     have e4 := hR 4 (by decide)
     exact ovQ rfl (sk 69 (congrArg some e4.1) (zad _)) (zbe (zdu rfl rfl rfl (by constructor <;> omega)))
    ·
     intro vf pf hR
     exact ovQ rfl (zai [11] rfl) (zbe (zat rfl))
    ·
     intro vf pf hR
     exact ovQ rfl (zai [4] rfl) (zbe (fdQ 0 rfl rfl rfl))
    ·
     intro vf pf hR
     have e7 := hR 7 (by decide)
     exact olQ rfl (sk 72 (congrArg some e7.1) (zad _)) (zbe (zaf rfl rfl rfl (zab 1 rfl rfl)))
    ·
     intro vf pf hR
     have e6 := hR 6 (by decide)
     have e8 := hR 8 (by decide)
     exact ovQ rfl (sk 71 (congrArg some e6.1) (sk 73 (congrArg some e8.1) (zad _))) (zbe (zee rfl rfl rfl (by refine ⟨?_, ?_, ?_⟩ <;> omega)))
    ·
     intro vf pf hR
     have e9 := hR 9 (by decide)
     exact ovQ rfl (sk 74 (congrArg some e9.1) (zad _)) (zbe (zdu rfl rfl rfl (by constructor <;> omega)))
    ·
     intro vf pf hR
     have e5 := hR 5 (by decide)
     have e10 := hR 10 (by decide)
     exact ovQ rfl (sk 70 (congrArg some e5.1) (sk 75 (congrArg some e10.1) (zad _))) (zbe (zcq (cs := #[.int .i64 (100 * ((fx.getD u 0) % d.W)), .int .i64 (100 * ((fx.getD u 0) / d.W))]) rfl rfl rfl))
    intro vf pf hR
    have e11 := hR 11 (by decide)
    exact olQ rfl (sk 76 (congrArg some e11.1) (zad _)) (zas (z := .agg #[.int .i64 0, .int .i64 0]) (s := 2) (cs := ([100 * ((fx.getD u 0) % d.W), 100 * ((fx.getD u 0) / d.W)].map (Value.int .i64))) rfl Try.underlying42 rfl (by decide) rfl (by kernel_rfl) rfl)
   intro vf pf hR
   have e0 := hR 0 (by decide)
   have e12 : IsRow 41 2 1 ([100 * ((fx.getD u 0) % d.W), 100 * ((fx.getD u 0) / d.W)].map (Value.int .i64)) (vf 12) (pf 12) := hR 12 (by decide)
   obtain ⟨g9, vE12, pE12⟩ := e12
   have q0 := hR 0 (by decide)
   have q1 := hR 1 (by decide)
   have q2 := hR 2 (by decide)
   have q3 := hR 3 (by decide)
   have q4 := hR 4 (by decide)
   have q5 := hR 5 (by decide)
   have q6 := hR 6 (by decide)
   have q7 := hR 7 (by decide)
   have q8 := hR 8 (by decide)
   have q9 := hR 9 (by decide)
   have q10 := hR 10 (by decide)
   have q11 := hR 11 (by decide)
   refine zck (zbj [52, 50, 40, 39, 38, 37, 36, 11, 9, 8, 4, 3, 2, 1, 0] _ (sk 65 (congrArg some e0.1) (sk 77 (congrArg some vE12) (zad _))) rfl) (by simp only [pE12, vE12, q0.2, q1.2, q2.2, q3.2, q4.2, q5.2, q6.2, q7.2, q8.2, q9.2, q10.2, q11.2, fS] <;> rfl) ?_
   simp only [List.drop_succ_cons, List.drop_zero]
   refine zcf (i := 1) (z := .agg #[.int .i64 0, .int .i64 0]) (bytes := 16) rfl rfl rfl rfl Try.underlying42 (by kernel_rfl) rfl rfl rfl rfl (zac 0 rfl) (zbm _) (by first | omega | (simp only [List.length_append, List.length_cons, List.length_nil]; omega)) (zbt ws [(Pn.mk (100 * ((fx.getD u 0) % d.W)) (100 * ((fx.getD u 0) / d.W)))]) (zcp pnC ws (Pn.mk (100 * ((fx.getD u 0) % d.W)) (100 * ((fx.getD u 0) / d.W))) _ rfl) (fun _ => rfl) ?_
   intro v10
   refine enQ 1 rfl (zco (zay (hvQ rfl (vaQ rfl rfl rfl) (enQ 1 rfl ?_))))
   exact zbh (u + 1) v10 (ws ++ [(Pn.mk (100 * ((fx.getD u 0) % d.W)) (100 * ((fx.getD u 0) / d.W)))]) ⟨by omega, by rw [List.length_append, List.length_singleton]; omega, hwr.app (by omega) (by omega)⟩ (by omega) (saQ rfl) (slQ [1, 0] rfl)
  refine zba 6 rfl (zal rfl (zcn (zaa (reQ 1 rfl ?_))))
  refine zby rfl rfl rfl rfl rfl rfl (fun h11 => ?_) (fun h11 => ?_)
  ·
   refine ntQ (zak rfl (reQ 1 rfl (hvQ rfl (fdQ 0 rfl rfl rfl) (hvQ rfl (zaf rfl rfl rfl (zab 1 rfl rfl)) (hvQ rfl (vsQ rfl rfl rfl) (hvQ rfl (zdu rfl rfl rfl (by constructor <;> omega)) (hvQ rfl (fdQ 1 rfl rfl rfl) (hvQ rfl (zaf rfl rfl rfl (zab 1 rfl rfl)) (hvQ rfl (vsQ rfl rfl rfl) (hvQ rfl (zdu rfl rfl rfl (by constructor <;> omega)) ?_))))))))))
   refine hvQ rfl (zcq (cs := #[.int .i64 (50 * (d.W - 1)), .int .i64 (50 * (d.H - 1))]) rfl rfl rfl) (zdi rfl (zas (z := .agg #[.int .i64 0, .int .i64 0]) (s := 2) (cs := ([50 * (d.W - 1), 50 * (d.H - 1)].map (Value.int .i64))) rfl Try.underlying42 rfl (by decide) rfl (by kernel_rfl) rfl) ?_)
   intro g12
   refine zcf (i := 1) (z := .agg #[.int .i64 0, .int .i64 0]) (bytes := 16) rfl rfl rfl rfl Try.underlying42 (by kernel_rfl) rfl rfl rfl rfl (zac 0 rfl) (zbm _) (by first | omega | (simp only [List.length_append, List.length_cons, List.length_nil]; omega)) (zbt ws [(Pn.mk (50 * (d.W - 1)) (50 * (d.H - 1)))]) (zcp pnC ws (Pn.mk (50 * (d.W - 1)) (50 * (d.H - 1))) _ rfl) (fun _ => rfl) ?_
   intro v13
   refine enQ 1 rfl (zco (zay (hvQ rfl (vaQ rfl rfl rfl) (enQ 1 rfl ?_))))
   exact zbh (u + 1) v13 (ws ++ [(Pn.mk (50 * (d.W - 1)) (50 * (d.H - 1)))]) ⟨by omega, by rw [List.length_append, List.length_singleton]; omega, hwr.app (by omega) (by omega)⟩ (by omega) (saQ rfl) (slQ [1, 0] rfl)
  refine ntQ (zal rfl ?_)
  refine zdg rfl 13 [0, 1, 2, 3, 4, 5, 6, 7, 8, 9, 10, 11, 12] (List.take 13 _) (List.drop 13 _) [[], [], [], [2], [1, 3], [4], [], [], [7], [6, 8], [9], [5, 10], [11]] [65, 66, 67, 68, 69, 70, 71, 72, 73, 74, 75, 76, 77] (fun i_ vs_ v_ p_ => match i_ with | 0 => v_ = gu ∧ p_ = [] | 1 => v_ = .int .i64 (fx.getD u 0) ∧ p_ = [] | 2 => v_ = .pointer (some ⟨b1, 0 + 0, none⟩) ∧ p_ = [] | 3 => v_ = .int .i64 d.W ∧ p_ = [] | 4 => v_ = .int .i64 ((fx.getD u 0) % d.W) ∧ p_ = [] | 5 => v_ = .int .i64 (100 * ((fx.getD u 0) % d.W)) ∧ p_ = [] | 6 => v_ = .int .i64 (fx.getD u 0) ∧ p_ = [] | 7 => v_ = .pointer (some ⟨b1, 0 + 0, none⟩) ∧ p_ = [] | 8 => v_ = .int .i64 d.W ∧ p_ = [] | 9 => v_ = .int .i64 ((fx.getD u 0) / d.W) ∧ p_ = [] | 10 => v_ = .int .i64 (100 * ((fx.getD u 0) / d.W)) ∧ p_ = [] | 11 => v_ = .agg #[.int .i64 (100 * ((fx.getD u 0) % d.W)), .int .i64 (100 * ((fx.getD u 0) / d.W))] ∧ p_ = [] | 12 => IsRow 41 2 1 ([100 * ((fx.getD u 0) % d.W), 100 * ((fx.getD u 0) / d.W)].map (Value.int .i64)) v_ p_ | _ => True) (List.take_append_drop 13 _).symm (by kernel_rfl) (by kernel_rfl) rfl rfl ?_ ?_
  ·
   refine ⟨?_, ?_, ?_, ?_, ?_, ?_, ?_, ?_, ?_, ?_, ?_, ?_, ?_, trivial⟩
   ·
    intro vf pf hR
    exact ovQ rfl (zai [9] rfl) (zbe (zat rfl))
   ·
    intro vf pf hR
    exact ovQ rfl (zai [11] rfl) (zbe (zat rfl))
   ·
    intro vf pf hR
    exact ovQ rfl (zai [4] rfl) (zbe (fdQ 0 rfl rfl rfl))
   ·
    intro vf pf hR
    have e2 := hR 2 (by decide)
    exact olQ rfl (sk 67 (congrArg some e2.1) (zad _)) (zbe (zaf rfl rfl rfl (zab 1 rfl rfl)))
   ·
    intro vf pf hR
    have e1 := hR 1 (by decide)
    have e3 := hR 3 (by decide)
    exact ovQ rfl (sk 66 (congrArg some e1.1) (sk 68 (congrArg some e3.1) (zad _))) (zbe (zgi rfl rfl rfl (by constructor <;> omega)))
   ·
    intro vf pf hR
    have e4 := hR 4 (by decide)
    exact ovQ rfl (sk 69 (congrArg some e4.1) (zad _)) (zbe (zdu rfl rfl rfl (by constructor <;> omega)))
   ·
    intro vf pf hR
    exact ovQ rfl (zai [11] rfl) (zbe (zat rfl))
   ·
    intro vf pf hR
    exact ovQ rfl (zai [4] rfl) (zbe (fdQ 0 rfl rfl rfl))
   ·
    intro vf pf hR
    have e7 := hR 7 (by decide)
    exact olQ rfl (sk 72 (congrArg some e7.1) (zad _)) (zbe (zaf rfl rfl rfl (zab 1 rfl rfl)))
   ·
    intro vf pf hR
    have e6 := hR 6 (by decide)
    have e8 := hR 8 (by decide)
    exact ovQ rfl (sk 71 (congrArg some e6.1) (sk 73 (congrArg some e8.1) (zad _))) (zbe (zee rfl rfl rfl (by refine ⟨?_, ?_, ?_⟩ <;> omega)))
   ·
    intro vf pf hR
    have e9 := hR 9 (by decide)
    exact ovQ rfl (sk 74 (congrArg some e9.1) (zad _)) (zbe (zdu rfl rfl rfl (by constructor <;> omega)))
   ·
    intro vf pf hR
    have e5 := hR 5 (by decide)
    have e10 := hR 10 (by decide)
    exact ovQ rfl (sk 70 (congrArg some e5.1) (sk 75 (congrArg some e10.1) (zad _))) (zbe (zcq (cs := #[.int .i64 (100 * ((fx.getD u 0) % d.W)), .int .i64 (100 * ((fx.getD u 0) / d.W))]) rfl rfl rfl))
   intro vf pf hR
   have e11 := hR 11 (by decide)
   exact olQ rfl (sk 76 (congrArg some e11.1) (zad _)) (zas (z := .agg #[.int .i64 0, .int .i64 0]) (s := 2) (cs := ([100 * ((fx.getD u 0) % d.W), 100 * ((fx.getD u 0) / d.W)].map (Value.int .i64))) rfl Try.underlying42 rfl (by decide) rfl (by kernel_rfl) rfl)
  intro vf pf hR
  have e0 := hR 0 (by decide)
  have e12 : IsRow 41 2 1 ([100 * ((fx.getD u 0) % d.W), 100 * ((fx.getD u 0) / d.W)].map (Value.int .i64)) (vf 12) (pf 12) := hR 12 (by decide)
  obtain ⟨g14, vE12, pE12⟩ := e12
  have q0 := hR 0 (by decide)
  have q1 := hR 1 (by decide)
  have q2 := hR 2 (by decide)
  have q3 := hR 3 (by decide)
  have q4 := hR 4 (by decide)
  have q5 := hR 5 (by decide)
  have q6 := hR 6 (by decide)
  have q7 := hR 7 (by decide)
  have q8 := hR 8 (by decide)
  have q9 := hR 9 (by decide)
  have q10 := hR 10 (by decide)
  have q11 := hR 11 (by decide)
  refine zck (zbj [52, 50, 40, 39, 38, 37, 36, 11, 9, 8, 4, 3, 2, 1, 0] _ (sk 65 (congrArg some e0.1) (sk 77 (congrArg some vE12) (zad _))) rfl) (by simp only [pE12, vE12, q0.2, q1.2, q2.2, q3.2, q4.2, q5.2, q6.2, q7.2, q8.2, q9.2, q10.2, q11.2, fS] <;> rfl) ?_
  simp only [List.drop_succ_cons, List.drop_zero]
  refine zcf (i := 1) (z := .agg #[.int .i64 0, .int .i64 0]) (bytes := 16) rfl rfl rfl rfl Try.underlying42 (by kernel_rfl) rfl rfl rfl rfl (zac 0 rfl) (zbm _) (by first | omega | (simp only [List.length_append, List.length_cons, List.length_nil]; omega)) (zbt ws [(Pn.mk (100 * ((fx.getD u 0) % d.W)) (100 * ((fx.getD u 0) / d.W)))]) (zcp pnC ws (Pn.mk (100 * ((fx.getD u 0) % d.W)) (100 * ((fx.getD u 0) / d.W))) _ rfl) (fun _ => rfl) ?_
  intro v15
  refine enQ 1 rfl (zco (zay (hvQ rfl (vaQ rfl rfl rfl) (enQ 1 rfl ?_))))
  exact zbh (u + 1) v15 (ws ++ [(Pn.mk (100 * ((fx.getD u 0) % d.W)) (100 * ((fx.getD u 0) / d.W)))]) ⟨by omega, by rw [List.length_append, List.length_singleton]; omega, hwr.app (by omega) (by omega)⟩ (by omega) (saQ rfl) (slQ [1, 0] rfl)
 refine ntQ (fcQ rfl ?_)
 refine zaz (zds ?_)
 refine zag (zav (zaa (zbd 1 rfl (zax ?_))))
 refine lkQ2 (α := Nat) (β := List Pn) [0, 1, 2, 3, 4, 8, 9, 36, 37, 38, 39, 40] rfl (fun r xs => [rowE 41 2 gu xs.length (xs.flatMap pnC), boxE b1 #[.int .i64 d.W, .int .i64 d.H, .int .i64 d.T, .int .i64 d.R] 25]) (fun r xs => [(12, .int .i64 (r : Int))]) (fun r xs => (r : Int) ≤ rn ∧ xs.length = fx.length ∧ WsR xs) (fun r xs => rn.toNat - r) 0 ws ⟨by omega, by omega, hwr⟩ (saQ rfl) (pfQ rfl) ?_
 intro r xs hi16
 obtain ⟨hr, hxl, hxr⟩ := hi16
 refine zaa (zaa (reQ 2 rfl ?_))
 refine zbk rfl rfl rfl rfl rfl rfl (fun h17 => ?_) (fun h17 => ?_)
 ·
  refine ntQ (zak rfl (zcn (sbQ (zaa (reQ 1 rfl (hvQ rfl (lnQ rfl rfl rfl (zae hfv)) (zam 1 rfl (?_))))))))
  refine ntQ (zax ?_)
  refine lkQ2 (α := Nat) (β := List Pn) [0, 1, 2, 3, 4, 8, 9, 12, 36, 37, 38, 39, 40, 82, 85, 86] rfl (fun i ys => [rowE 41 2 gu ys.length (ys.flatMap pnC), boxE b1 #[.int .i64 d.W, .int .i64 d.H, .int .i64 d.T, .int .i64 d.R] 25]) (fun i ys => [(87, .int .i64 (i : Int))]) (fun i ys => i ≤ fx.length ∧ ys.length = fx.length ∧ WsR ys) (fun i ys => fx.length - i) 0 xs ⟨Nat.zero_le _, hxl, hxr⟩ (saQ rfl) (pfQ rfl) ?_
  intro i ys hi18
  obtain ⟨hi, hyl, hyr⟩ := hi18
  refine srQ ?_
  refine zbk rfl rfl rfl rfl rfl rfl (fun h19 => ?_) (fun h19 => ?_)
  ·
   refine ntQ (tcQ rfl (zcn (sbQ (zaa (reQ 1 rfl (hvQ rfl (riQ 1 rfl rfl rfl rfl (zae hfv)) (hvQ rfl (liQ rfl rfl rfl (zae hfv)) ?_)))))))
   refine zba 2 rfl (zaa (zaa (reQ 1 rfl ?_)))
   refine zgw rfl rfl rfl rfl rfl rfl (fun h20 => ?_) (fun h20 => ?_)
   ·
    refine ntQ (zak rfl ?_)
    refine zaz (zct ?_)
    refine zag (zav (zay (hvQ rfl (vaQ rfl rfl rfl) (enQ 1 rfl ?_))))
    exact zbg (i + 1) ys ⟨by omega, by (try rw [List.length_set]); omega, by first | assumption | exact hyr.set _ (by assumption) (by assumption)⟩ (by omega) (saQ rfl) (pfQ rfl)
   refine ntQ (zal rfl (zcn (zbd 3 rfl (zaa (zaa ?_)))))
   refine reQ 1 rfl (hvQ rfl (lnQ rfl rfl rfl (zae hcn.row)) (zba 1 rfl (zax ?_)))
   refine lkQ4 (α := Nat) (β := Int) (γ := Int) (δ := Int) [0, 1, 2, 3, 4, 8, 9, 12, 13, 14, 36, 37, 38, 39, 40, 82, 85, 86, 87, 88, 93, 94, 95] rfl (fun k x y n => [rowE 41 2 gu ys.length (ys.flatMap pnC), boxE b1 #[.int .i64 d.W, .int .i64 d.H, .int .i64 d.T, .int .i64 d.R] 25]) (fun k x y n => [(15, .int .i64 x), (16, .int .i64 y), (17, .int .i64 n), (96, .int .i64 (k : Int))]) (fun k x y n => k ≤ cs.length ∧ (0 ≤ n ∧ (0 ≤ x ∧ x ≤ 600 * n) ∧ 0 ≤ y ∧ y ≤ 600 * n) ∧ n ≤ 121 * (k : Int)) (fun k x y n => cs.length - k) 0 _ _ _ ⟨Nat.zero_le _, by omega, by omega⟩ (saQ rfl) (pfQ rfl) ?_
   intro k x y n hi21
   obtain ⟨hk, hb1, hn1⟩ := hi21
   refine srQ ?_
   refine zbk rfl rfl rfl rfl rfl rfl (fun h22 => ?_) (fun h22 => ?_)
   ·
    refine ntQ (tcQ rfl (zcn (sbQ (srQ (hvQ rfl (riQ 4 rfl rfl rfl rfl (zae hcn.row)) ?_)))))
    refine hvQ rfl (zcg (us := [.int .i64 ((cs.getD k cn0).nd), .int .i64 ((cs.getD k cn0).sb), .int .i64 ((cs.getD k cn0).sp), (cs.getD k cn0).kv]) rfl rfl rfl rfl (zae hcn.row) (by omega) rfl (zcw cnC 4 (fun _ => rfl) cs cn0 (show k < _ by omega) rfl)) (zdt rfl (zbw (z := .agg #[.int .i64 0, .int .i64 0, .int .i64 0, .slice none 0 0]) rfl rfl) ?_)
    intro b23
    refine zcd (cs' := #[.int .i64 ((cs.getD k cn0).nd), .int .i64 ((cs.getD k cn0).sb), .int .i64 ((cs.getD k cn0).sp), (cs.getD k cn0).kv]) (i := 0) (off := 0) (us := [.int .i64 ((cs.getD k cn0).nd), .int .i64 ((cs.getD k cn0).sb), .int .i64 ((cs.getD k cn0).sp), (cs.getD k cn0).kv]) rfl rfl rfl rfl rfl rfl rfl (zah rfl (zah rfl (zah rfl (zah (hcn.at (k := k) (by omega)).one zbp)))) rfl rfl rfl (ntQ (zfc ?_))
    have hmc := zbs (d := cn0) (show k < cs.length by omega)
    have hpb := hci.pinB hmc
    have hpl := zgq (cs.getD k cn0)
    have hk120 := hco.2 k (by omega)
    have hc100 := hco.1
    refine hvQ rfl (zao (cs := [.int .i64 ((cs.getD k cn0).nd), .int .i64 ((cs.getD k cn0).sb), .int .i64 ((cs.getD k cn0).sp), (cs.getD k cn0).kv]) rfl rfl rfl rfl rfl (zaj 0 rfl 0 rfl)) (zam 1 rfl ?_)
    refine zfu rfl rfl rfl (zan rfl rfl (fun w hm => touches_ret (cs.getD k cn0) (i : Int) w ((hcn.at (k := k) (by omega)).below hm.bel) (by omega))) ?_
    intro v24 p25 hR26
    obtain ⟨xhR26, rfl, rfl⟩ := hR26
    refine zam 1 rfl (zbx (fun h27 => ?_) (fun h27 => ?_))
    ·
     refine ntQ (zak rfl ?_)
     refine zaz (zct ?_)
     refine zag (zav (zay (hvQ rfl (vaQ rfl rfl rfl) (enQ 1 rfl ?_))))
     exact zci (k + 1) x y n ⟨by omega, by omega, by omega⟩ (by omega) (saQ rfl) (slQ [1, 0] rfl)
    refine ntQ (zal rfl (zcn (srQ (hvQ rfl (zao (cs := [.int .i64 ((cs.getD k cn0).nd), .int .i64 ((cs.getD k cn0).sb), .int .i64 ((cs.getD k cn0).sp), (cs.getD k cn0).kv]) rfl rfl rfl rfl rfl (zaj 0 rfl 0 rfl)) ?_))))
    refine zfu rfl rfl rfl (zan rfl rfl (fun w hm => pinsOf_ret (cs.getD k cn0) w ((hcn.at (k := k) (by omega)).below hm.bel) (by omega))) ?_
    intro v28 p29 hR30
    subst hR30
    refine hvQ rfl (lnQ rfl rfl rfl (zac 0 rfl)) (zba 1 rfl (zax ?_))
    refine lkQ4 (α := Nat) (β := Int) (γ := Int) (δ := Int) [0, 1, 2, 3, 4, 8, 9, 12, 13, 14, 19, 36, 37, 38, 39, 40, 82, 85, 86, 87, 88, 93, 94, 95, 96, 97, 103, 105, 106] rfl (fun p x2 y2 n2 => [rowE 41 2 v28 ((pinsC (cs.getD k cn0)).length) ((pinsC (cs.getD k cn0)).flatMap pnC), boxE b23 #[.int .i64 ((cs.getD k cn0).nd), .int .i64 ((cs.getD k cn0).sb), .int .i64 ((cs.getD k cn0).sp), (cs.getD k cn0).kv] 44, rowE 41 2 gu ys.length (ys.flatMap pnC), boxE b1 #[.int .i64 d.W, .int .i64 d.H, .int .i64 d.T, .int .i64 d.R] 25]) (fun p x2 y2 n2 => [(15, .int .i64 x2), (16, .int .i64 y2), (17, .int .i64 n2), (107, .int .i64 (p : Int))]) (fun p x2 y2 n2 => p ≤ (pinsC (cs.getD k cn0)).length ∧ (0 ≤ n2 ∧ (0 ≤ x2 ∧ x2 ≤ 600 * n2) ∧ 0 ≤ y2 ∧ y2 ≤ 600 * n2) ∧ n2 ≤ 121 * (k : Int) + (p : Int)) (fun p x2 y2 n2 => (pinsC (cs.getD k cn0)).length - p) 0 _ _ _ ⟨Nat.zero_le _, hb1, by omega⟩ (saQ rfl) (pfQ rfl) ?_
    intro p x2 y2 n2 hi31
    obtain ⟨hp, hb2, hn2⟩ := hi31
    refine srQ ?_
    refine zbk rfl rfl rfl rfl rfl rfl (fun h32 => ?_) (fun h32 => ?_)
    ·
     refine ntQ (tcQ rfl (zcn (sbQ (srQ (hvQ rfl (riQ 2 rfl rfl rfl rfl (zac 0 rfl)) ?_)))))
     refine hvQ rfl (zcg (us := [.int .i64 (((pinsC (cs.getD k cn0)).getD p pn0).b), .int .i64 (((pinsC (cs.getD k cn0)).getD p pn0).p)]) rfl rfl rfl rfl (zac 0 rfl) (by omega) rfl (zcw pnC 2 (fun _ => rfl) (pinsC (cs.getD k cn0)) pn0 (show p < _ by omega) rfl)) (zdt rfl (zbw (z := .agg #[.int .i64 0, .int .i64 0]) rfl rfl) ?_)
     intro b33
     refine zcd (cs' := #[.int .i64 (((pinsC (cs.getD k cn0)).getD p pn0).b), .int .i64 (((pinsC (cs.getD k cn0)).getD p pn0).p)]) (i := 0) (off := 0) (us := [.int .i64 (((pinsC (cs.getD k cn0)).getD p pn0).b), .int .i64 (((pinsC (cs.getD k cn0)).getD p pn0).p)]) rfl rfl rfl rfl rfl rfl rfl (zah rfl (zah rfl zbp)) rfl rfl rfl (ntQ (srQ ?_))
     have hpk := hpb p (by omega)
     have hwv := hyr _ (zbs (d := pn0) (show ((pinsC (cs.getD k cn0)).getD p pn0).b.toNat < ys.length by omega))
     refine hvQ rfl (fdQ 0 rfl rfl rfl) (hvQ rfl (zaf rfl rfl rfl (zab 0 rfl rfl)) (zam 1 rfl ?_))
     refine zgw rfl rfl rfl rfl rfl rfl (fun h34 => ?_) (fun h34 => ?_)
     ·
      refine ntQ (zak rfl (zaa (reQ 2 rfl (hvQ rfl (fdQ 0 rfl rfl rfl) (hvQ rfl (zaf rfl rfl rfl (zab 0 rfl rfl)) (hvQ rfl (riQ 2 rfl rfl rfl rfl (zac 3 rfl)) (hvQ rfl (zbb (k0 := 0) rfl rfl rfl (zac 3 rfl) (by omega)) ?_)))))))
      refine hvQ rfl (zar (u := .int .i64 ((ys.getD ((((pinsC (cs.getD k cn0)).getD p pn0).b).toNat) pn0).b)) rfl rfl rfl (zac 3 rfl) ((zbv pnC 2 (fun _ => rfl) ys pn0 (show (((pinsC (cs.getD k cn0)).getD p pn0).b).toNat < _ by omega) (by decide)).trans rfl)) (hvQ rfl (vaQ rfl rfl rfl) (zba 1 rfl (zaa (reQ 2 rfl (hvQ rfl (fdQ 0 rfl rfl rfl) (hvQ rfl (zaf rfl rfl rfl (zab 0 rfl rfl)) (hvQ rfl (riQ 2 rfl rfl rfl rfl (zac 3 rfl)) (hvQ rfl (zbb (k0 := 1) rfl rfl rfl (zac 3 rfl) (by omega)) ?_))))))))
      refine hvQ rfl (zar (u := .int .i64 ((ys.getD ((((pinsC (cs.getD k cn0)).getD p pn0).b).toNat) pn0).p)) rfl rfl rfl (zac 3 rfl) ((zbv pnC 2 (fun _ => rfl) ys pn0 (show (((pinsC (cs.getD k cn0)).getD p pn0).b).toNat < _ by omega) (by decide)).trans rfl)) (hvQ rfl (vaQ rfl rfl rfl) (zba 1 rfl (reQ 1 rfl (hvQ rfl (vaQ rfl rfl rfl) (enQ 1 rfl (zco (zay ?_)))))))
      refine hvQ rfl (vaQ rfl rfl rfl) (enQ 1 rfl ?_)
      exact zci (p + 1) (x2 + ((ys.getD ((((pinsC (cs.getD k cn0)).getD p pn0).b).toNat) pn0).b)) (y2 + ((ys.getD ((((pinsC (cs.getD k cn0)).getD p pn0).b).toNat) pn0).p)) (n2 + 1) ⟨by omega, by omega, by omega⟩ (by omega) (saQ rfl) (slQ [1, 0, 0, 0] rfl)
     refine ntQ (fsQ rfl (zco (zay (hvQ rfl (vaQ rfl rfl rfl) (enQ 1 rfl ?_)))))
     exact zci (p + 1) x2 y2 n2 ⟨by omega, by omega, by omega⟩ (by omega) (saQ rfl) (slQ [1, 0, 0, 0] rfl)
    refine ntQ (fcQ rfl ?_)
    refine zaz (zds ?_)
    refine zag (zco (zay (hvQ rfl (vaQ rfl rfl rfl) (enQ 1 rfl ?_))))
    exact zci (k + 1) x2 y2 n2 ⟨by omega, by omega, by omega⟩ (by omega) (saQ rfl) (slQ [2, 0] rfl)
   refine ntQ (fcQ rfl ?_)
   refine zaz (zds ?_)
   refine zag (zav (zaa (reQ 1 rfl ?_)))
   refine zff rfl rfl rfl rfl rfl rfl (fun h35 => ?_) (fun h35 => ?_)
   ·
    refine ntQ (zak rfl ?_)
    have hq1 := avg_rng (x := x) (n := n) (by omega) (by omega) (by omega)
    have hq2 := avg_rng (x := y) (n := n) (by omega) (by omega) (by omega)
    refine zca 10 [[], [], [], [], [2, 3], [], [], [5, 6], [4, 7], [0, 1]] [137, 138, 139, 140, 141, 142, 143, 144, 145, 146] [gu, .int .i64 (i : Int), .int .i64 x, .int .i64 n, .int .i64 (x / n), .int .i64 y, .int .i64 n, .int .i64 (y / n), .agg #[.int .i64 (x / n), .int .i64 (y / n)], elP gu (((i : Int)).toNat * 2)] (by kernel_rfl) rfl ?_ ?_
    ·
     exact ⟨iaQ rfl (zat rfl) rfl, iaQ rfl (zat rfl) rfl, iaQ rfl (zat rfl) rfl, iaQ rfl (zat rfl) rfl, iaQ rfl (zee rfl rfl rfl (by refine ⟨?_, ?_, ?_⟩ <;> omega)) rfl, iaQ rfl (zat rfl) rfl, iaQ rfl (zat rfl) rfl, iaQ rfl (zee rfl rfl rfl (by refine ⟨?_, ?_, ?_⟩ <;> omega)) rfl, iaQ rfl (zcq (cs := #[.int .i64 (x / n), .int .i64 (y / n)]) rfl rfl rfl) rfl, iaQ rfl (riQ 2 rfl rfl rfl rfl (zac 0 rfl)) rfl, trivial⟩
    simp only [List.drop_succ_cons, List.drop_zero]
    refine hl_storeElN (i := 0) (us := [.int .i64 (x / n), .int .i64 (y / n)]) (n' := (ys.set i (Pn.mk (x / n) (y / n))).length) (xs' := ((ys.set i (Pn.mk (x / n) (y / n))).flatMap pnC)) (l' := [rowE 41 2 gu ((ys.set i (Pn.mk (x / n) (y / n))).length) ((ys.set i (Pn.mk (x / n) (y / n))).flatMap pnC), boxE b1 #[.int .i64 d.W, .int .i64 d.H, .int .i64 d.T, .int .i64 d.R] 25]) rfl rfl rfl rfl rfl rfl (zah rfl (zah rfl zbp)) rfl (by first | omega | (simp only [List.length_set]; omega)) (by simp only [List.length_cons, List.length_nil]; first | omega | (simp only [List.length_set]; omega)) List.length_set.symm (flat_put pnC 2 (fun _ => rfl) _ (Pn.mk (x / n) (y / n)) (by first | omega | (simp only [List.length_set]; omega))) rfl (zbr (zco (zay (hvQ rfl (vaQ rfl rfl rfl) (enQ 1 rfl ?_)))))
    exact zbg (i + 1) (ys.set i (Pn.mk (x / n) (y / n))) ⟨by omega, by (try rw [List.length_set]); omega, by first | assumption | exact hyr.set _ (by assumption) (by assumption)⟩ (by omega) (saQ rfl) (pfQ rfl)
   refine ntQ (fsQ rfl (zco (zay (hvQ rfl (vaQ rfl rfl rfl) (enQ 1 rfl ?_)))))
   exact zbg (i + 1) ys ⟨by omega, by (try rw [List.length_set]); omega, by first | assumption | exact hyr.set _ (by assumption) (by assumption)⟩ (by omega) (saQ rfl) (pfQ rfl)
  refine ntQ (fcQ rfl ?_)
  refine zaz (zds ?_)
  refine zag (zco (reQ 1 rfl (hvQ rfl (vaQ rfl rfl rfl) (enQ 1 rfl ?_))))
  exact zbg (r + 1) ys ⟨by omega, by assumption, by assumption⟩ (by omega) (saQ rfl) (pfQ rfl)
 refine ntQ (zal rfl ?_)
 refine zaz (zds ?_)
 refine zag (zav (zbd 2 rfl ?_))
 exact zaw (zcz (post := [rowE 41 2 gu xs.length (xs.flatMap pnC)]) rfl rfl (slQ [0] rfl) ⟨_, rfl, by assumption, by assumption⟩)
open Go.RowKit
theorem btI_rng {x : Int} (h : 0 ≤ x ∧ x ≤ 3) : 0 ≤ btI x ∧ btI x ≤ 2 := by
  unfold btI; split; exact ⟨by omega, by omega⟩; split; exact ⟨by omega, by omega⟩; split; exact ⟨by omega, by omega⟩; omega
theorem ioN_all (K : List Int) : ioN K K.length = (K.filter (fun k => btI k == 0)).length := by
  show ((K.take K.length).filter _).length = _
  rw [List.take_length]
theorem InitialPlace_ret (d : Dev) (K : List Int) (cs : List Cn) (kv cv : Value) (w : World) (hdv : devB d = true) (hkk : RdsW w kv 1 K.length (K.map (Value.int .i64))) (hcn : RdsCn w cv cs) (hKl : K.length ≤ 64) (hK : ∀ x ∈ K, 0 ≤ x ∧ x ≤ 3) (hci : CnIn K.length cs) (hco : CoP cs) :
   Calls Try.prog 26 #[.agg #[.int .i64 d.W, .int .i64 d.H, .int .i64 d.T, .int .i64 d.R], kv, cv] w (Ret w (fun u_ p_ => ∃ (b : Bool) (zs : List Int) (v : Value), u_ = .tuple #[v, .bool b] ∧ p_ = [rowE 3 1 v zs.length (zs.map (Value.int .i64))] ∧ (b = true ↔ Fits d K) ∧ (b = true → PlP d K zs ∧ zs.length = K.length) ∧ (b = false → zs = []))) := by
 obtain ⟨har1, har2⟩ := zfe hdv
 obtain ⟨⟨dw0, dw1⟩, ⟨dh0, dh1⟩, -⟩ := (zeq d).1 hdv
 have hco1 := hco.1
 refine zbl (N := 134) (args := [.agg #[.int .i64 d.W, .int .i64 d.H, .int .i64 d.T, .int .i64 d.R], kv, cv]) Try.func26 rfl rfl (srQ ?_)
 refine zdt rfl (zcm rfl rfl) ?_
 intro b1
 refine zba 2 rfl (zfc (hvQ rfl (zao (cs := [.int .i64 d.W, .int .i64 d.H, .int .i64 d.T, .int .i64 d.R]) rfl rfl rfl rfl rfl (zaj 0 rfl 0 rfl)) ?_))
 refine zdp rfl (zan rfl rfl (fun w hm => zau (by have h9 := zdm d w; rw [hdv] at h9; exact h9))) (zam 3 rfl (hvQ rfl (lnQ rfl rfl rfl (zae hkk)) (zam 1 rfl ?_)))
 refine zdp rfl (zan rfl rfl (fun w hm => zau (by have h9 := zgl K.length cs _ w (hcn.below hm.bel) hci hKl; rw [zed hco] at h9; exact h9))) (zba 2 rfl (zal rfl (zcn (zbd 1 rfl (zaa ?_)))))
 refine zaa (reQ 1 rfl (hvQ rfl (lnQ rfl rfl rfl (zae hkk)) (zba 1 rfl (zax ?_))))
 refine lkQ2 (α := Nat) (β := Int) [0, 1, 2, 3, 6, 7, 31, 32, 33] rfl (fun j n => [boxE b1 #[.int .i64 d.W, .int .i64 d.H, .int .i64 d.T, .int .i64 d.R] 25]) (fun j n => [(8, .int .i64 n), (34, .int .i64 (j : Int))]) (fun j n => j ≤ K.length ∧ n = (ioN K j : Int)) (fun j n => K.length - j) 0 _ ⟨Nat.zero_le _, by simp [ioN]⟩ (saQ rfl) (pfQ rfl) ?_
 intro j n hi2
 obtain ⟨hj, hn⟩ := hi2
 have hio := ioN_le K j
 refine srQ ?_
 refine zbk rfl rfl rfl rfl rfl rfl (fun h3 => ?_) (fun h3 => ?_)
 ·
  refine ntQ (tcQ rfl (zcn (sbQ (srQ (hvQ rfl (riQ 1 rfl rfl rfl rfl (zae hkk)) (hvQ rfl (liQ rfl rfl rfl (zae hkk)) ?_))))))
  have hbt := btI_rng (hK _ (zbs (d := (0 : Int)) (show j < K.length by omega)))
  refine zba 1 rfl (zaa (zaa (reQ 1 rfl ?_)))
  refine zdp rfl (zan rfl rfl (fun w hm => zau (zen (K.getD j 0) w))) (zbk rfl rfl rfl rfl rfl rfl (fun h4 => absurd h4 (by omega)) (fun h4 => ?_))
  refine ntQ (zal rfl (zcn (zaa (reQ 1 rfl ?_))))
  refine zdp rfl (zan rfl rfl (fun w hm => zau (zen (K.getD j 0) w))) (zby rfl rfl rfl rfl rfl rfl (fun h5 => ?_) (fun h5 => ?_))
  ·
   refine ntQ (zak rfl (reQ 1 rfl (hvQ rfl (vaQ rfl rfl rfl) (enQ 1 rfl (zco (zay (hvQ rfl (vaQ rfl rfl rfl) ?_)))))))
   refine enQ 1 rfl ?_
   exact zbg (j + 1) (n + 1) ⟨by omega, by first | (rw [ioN_yes (by omega) (by assumption)]; omega) | (rw [ioN_no (by omega) (by assumption)]; omega)⟩ (by omega) (saQ rfl) (pfQ rfl)
  refine ntQ (fsQ rfl (zco (zay (hvQ rfl (vaQ rfl rfl rfl) (enQ 1 rfl ?_)))))
  exact zbg (j + 1) n ⟨by omega, by first | (rw [ioN_yes (by omega) (by assumption)]; omega) | (rw [ioN_no (by omega) (by assumption)]; omega)⟩ (by omega) (saQ rfl) (pfQ rfl)
 refine ntQ (fcQ rfl ?_)
 refine zaz (zds ?_)
 refine zag (zav (srQ (hvQ rfl (zao (cs := [.int .i64 d.W, .int .i64 d.H, .int .i64 d.T, .int .i64 d.R]) rfl rfl rfl rfl rfl (zaj 0 rfl 0 rfl)) ?_)))
 refine zfu rfl rfl rfl (zan rfl rfl (fun w hm => implTilesOf_ret d 0 w hdv)) ?_
 intro v6 p7 hR8
 subst hR8
 refine zba 1 rfl (zaa (reQ 1 rfl (hvQ rfl (lnQ rfl rfl rfl (zac 0 rfl)) ?_)))
 have hje : j = K.length := by omega
 rw [hje, ioN_all] at hn
 have hml : (tilesK d 0).length ≤ (d.W * d.H).toNat := tlL_le d _ _
 refine zba 1 rfl (zaa (zaa (reQ 2 rfl ?_)))
 refine zff rfl rfl rfl rfl rfl rfl (fun h9 => ?_) (fun h9 => ?_)
 ·
  refine ntQ (zak rfl (zbd 2 rfl ?_))
  refine zaw (zap ?_)
  have hNF : ¬ Fits d K := fun hf => by have h9 := hf 0; omega
  refine zfr [rowE 3 1 (.slice none 0 0) (([] : List Int).length) (([] : List Int).map (Value.int .i64)), rowE 3 1 v6 ((tilesK d 0).length) ((tilesK d 0).map (Value.int .i64)), boxE b1 #[.int .i64 d.W, .int .i64 d.H, .int .i64 d.T, .int .i64 d.R] 25] (fun w hm => hm.nilRow 3 1) ?_
  exact zdb (rs := [.tmp 6, .tmp 7]) (vs := [.slice none 0 0, .bool false]) (post := [rowE 3 1 (.slice none 0 0) (([] : List Int).length) (([] : List Int).map (Value.int .i64))]) rfl ⟨rfl, rfl, trivial⟩ rfl (slQ [0] rfl) ⟨false, [], _, rfl, rfl, ⟨fun h => (by cases h), fun h => absurd h hNF⟩, fun h => (by cases h), fun _ => rfl⟩
 refine ntQ (zal rfl (zcn (zaa (reQ 1 rfl (hvQ rfl (lnQ rfl rfl rfl (zae hkk)) ?_)))))
 have hnm : (K.filter (fun k => btI k == 0)).length ≤ (tilesK d 0).length := by omega
 refine zdi rfl (zej (z := .int .i64 0) (s := 1) (bytes := 8) (n := (List.replicate K.length (0 : Int)).length) (cs := ((List.replicate K.length (0 : Int)).map (Value.int .i64))) rfl Try.underlying28 rfl (by decide) rfl rfl (by first | (rw [List.length_replicate]; done) | (rw [List.length_replicate]; omega)) (by first | (rw [List.length_replicate]; done) | (rw [List.length_replicate]; omega)) (by rw [List.length_replicate]; omega) (zez _)) ?_
 intro g10
 refine zba 1 rfl (srQ ?_)
 refine hl_nilRow 3 1 (zba 1 rfl (zbd 1 rfl (zaa (zaa (reQ 1 rfl ?_)))))
 refine hvQ rfl (lnQ rfl rfl rfl (zae hkk)) (zba 1 rfl (zax ?_))
 refine lkQ4 (α := Nat) (β := List Int) (γ := Value × List Int) (δ := Int) [0, 1, 2, 3, 6, 7, 8, 11, 12, 13, 31, 32, 33, 34, 35, 53, 57, 58] rfl (fun b os J it => [rowE 3 1 J.1 J.2.length (J.2.map (Value.int .i64)), rowE 3 1 (.slice (some ⟨g10, 0, none⟩) ((List.replicate K.length (0 : Int)).length) ((List.replicate K.length (0 : Int)).length)) os.length (os.map (Value.int .i64)), rowE 3 1 v6 ((tilesK d 0).length) ((tilesK d 0).map (Value.int .i64)), boxE b1 #[.int .i64 d.W, .int .i64 d.H, .int .i64 d.T, .int .i64 d.R] 25]) (fun b os J it => [(14, J.1), (15, .int .i64 it), (59, .int .i64 (b : Int))]) (fun b os J it => (∃ us, L1 d K b os us J.2) ∧ it = (ioN K b : Int)) (fun b os J it => K.length - b) 0 _ (_, []) _ ⟨⟨_, L1.start d K⟩, by simp [ioN]⟩ (saQ rfl) (pfQ rfl) ?_
 intro b os J it hi12
 obtain ⟨⟨us, hL⟩, hit⟩ := hi12
 have hLb := hL.hb
 have hLo := hL.ho
 have hLt := hL.tl
 have hib := ioN_le K b
 refine srQ ?_
 refine zbk rfl rfl rfl rfl rfl rfl (fun h13 => ?_) (fun h13 => ?_)
 ·
  refine ntQ (tcQ rfl (zcn (sbQ (zaa (reQ 1 rfl (hvQ rfl (riQ 1 rfl rfl rfl rfl (zae hkk)) (hvQ rfl (liQ rfl rfl rfl (zae hkk)) ?_)))))))
  refine zba 2 rfl (zaa (reQ 2 rfl (hvQ rfl (riQ 1 rfl rfl rfl rfl (zac 1 rfl)) ?_)))
  refine zcu (i := 1) (n' := (os.set b (-1)).length) (xs' := ((os.set b (-1)).map (Value.int .i64))) rfl rfl rfl rfl rfl rfl rfl rfl (by first | omega | (simp only [List.length_set]; omega)) List.length_set.symm (zcv _ _ _) rfl (ntQ (zaa (reQ 1 rfl ?_)))
  refine zdp rfl (zan rfl rfl (fun w hm => zau (zen (K.getD b 0) w))) (zby rfl rfl rfl rfl rfl rfl (fun h14 => ?_) (fun h14 => ?_))
  ·
   refine ntQ (zak rfl (zaa (reQ 5 rfl ?_)))
   have hil := ioN_lt (show b < K.length by omega) (by assumption)
   have hmu0 : 0 ≤ it * ((tilesK d 0).length : Int) := Int.mul_nonneg (by omega) (by omega)
   have hmu1 : it * ((tilesK d 0).length : Int) ≤ 64 * 121 := Int.mul_le_mul (by omega) (by omega) (by omega) (by omega)
   refine hvQ rfl (zdu rfl rfl rfl (by constructor <;> omega)) (zam 1 rfl ?_)
   refine hvQ rfl (zee rfl rfl rfl (by refine ⟨?_, ?_, ?_⟩ <;> omega)) ?_
   obtain ⟨q, hqE, hqN⟩ : ∃ x : Nat, (it * ((tilesK d 0).length : Int)) / n = (x : Int) ∧ x = ioN K b * (tilesK d 0).length / (K.filter (fun k => btI k == 0)).length := ⟨ioN K b * (tilesK d 0).length / (K.filter (fun k => btI k == 0)).length, by rw [hit, hn]; norm_cast, rfl⟩
   rw [hqE]
   have hqm : q < (tilesK d 0).length := by rw [hqN]; exact idx_lt2 hil (by omega)
   refine hvQ rfl (riQ 1 rfl rfl rfl rfl (zac 2 rfl)) (hvQ rfl (zar (u := .int .i64 ((tilesK d 0).getD q 0)) rfl rfl rfl (zac 2 rfl) (zbu (show _ < (tilesK d 0).length by omega))) (hvQ rfl (riQ 1 rfl rfl rfl rfl (zac 1 rfl) (by omega) (by first | omega | (simp only [List.length_set]; omega))) ?_))
   refine zcu (i := 1) (n' := ((os.set b (-1)).set b ((tilesK d 0).getD q 0)).length) (xs' := (((os.set b (-1)).set b ((tilesK d 0).getD q 0)).map (Value.int .i64))) rfl rfl rfl rfl rfl rfl rfl rfl (by first | omega | (simp only [List.length_set]; omega)) List.length_set.symm (zcv _ _ _) rfl (ntQ (zaa (reQ 3 rfl (hvQ rfl (riQ 1 rfl rfl rfl rfl (zac 1 rfl) (by omega) (by first | omega | (simp only [List.length_set]; omega))) (hvQ rfl (zar (u := .int .i64 (((os.set b (-1)).set b ((tilesK d 0).getD q 0)).getD b 0)) rfl rfl rfl (zac 1 rfl) (zbu (show _ < ((os.set b (-1)).set b ((tilesK d 0).getD q 0)).length by first | omega | (simp only [List.length_set]; omega)))) ?_)))))
   refine zdi rfl (zas (z := .int .i64 0) (s := 1) (cs := ([((os.set b (-1)).set b ((tilesK d 0).getD q 0)).getD b 0].map (Value.int .i64))) rfl Try.underlying28 rfl (by decide) rfl (by kernel_rfl) rfl) ?_
   intro g15
   refine zcf (i := 1) (z := .int .i64 0) (bytes := 8) rfl rfl rfl rfl Try.underlying28 (by kernel_rfl) rfl rfl rfl rfl (zac 0 rfl) (zbm _) (by first | omega | (simp; done) | (simp; omega)) (zbt J.2 ([((os.set b (-1)).set b ((tilesK d 0).getD q 0)).getD b 0])) (zcl J.2 ([((os.set b (-1)).set b ((tilesK d 0).getD q 0)).getD b 0])) (fun _ => rfl) ?_
   intro v16
   refine zba 1 rfl (reQ 1 rfl (hvQ rfl (vaQ rfl rfl rfl) (enQ 1 rfl (zco (zay (hvQ rfl (vaQ rfl rfl rfl) ?_))))))
   refine enQ 1 rfl ?_
   exact zci (b + 1) ((os.set b (-1)).set b ((tilesK d 0).getD q 0)) (v16, J.2 ++ ([((os.set b (-1)).set b ((tilesK d 0).getD q 0)).getD b 0])) (it + 1) ⟨⟨_, by exact hL.yes hdv (by omega) (by assumption) hnm (by rw [hqN]) (by rw [zeg (by rw [List.length_set]; omega), if_pos rfl])⟩, by rw [ioN_yes (by omega) (by assumption)]; omega⟩ (by omega) (saQ rfl) (slQ [1, 0, 0, 0] rfl)
  refine ntQ (fsQ rfl (zco (zay (hvQ rfl (vaQ rfl rfl rfl) (enQ 1 rfl ?_)))))
  exact zci (b + 1) (os.set b (-1)) (J.1, J.2) it ⟨⟨_, hL.no (by omega) (by assumption)⟩, by rw [ioN_no (by omega) (by assumption)]; omega⟩ (by omega) (saQ rfl) (pfQ rfl)
 refine ntQ (fcQ rfl ?_)
 refine zaz (zds ?_)
 refine zag (zav (srQ (hvQ rfl (zao (cs := [.int .i64 d.W, .int .i64 d.H, .int .i64 d.T, .int .i64 d.R]) rfl rfl rfl rfl rfl (zaj 3 rfl 0 rfl)) (zam 2 rfl ?_))))
 have hbe : b = K.length := by omega
 rw [hbe] at hL
 have hos := hL.fin
 have hol : os.length = K.length := hLo
 have hofx : ∀ q, q < os.length → os.getD q 0 = -1 ∨ (0 ≤ os.getD q 0 ∧ os.getD q 0 < d.W * d.H) := fun q hq => by rw [hos] at hq ⊢; exact (hL.ip.ok q hq).imp id (·.1)
 refine zfu rfl rfl rfl (zan rfl rfl (fun w hm => Averages_ret d os cs 8 _ _ w hdv ((zac 1 rfl) w hm) (hcn.below hm.bel) (by omega) hofx (by rw [hol]; exact hci) hco (by omega))) ?_
 intro v17 p18 hR19
 obtain ⟨ws, rfl, hwl, hwr⟩ := hR19
 refine zba 1 rfl (zaa (zaa (reQ 1 rfl (hvQ rfl (lnQ rfl rfl rfl (zae hkk)) (zba 1 rfl (zax ?_))))))
 refine lkQ4 (α := Nat) (β := List Int) (γ := Value) (δ := List Int) [0, 1, 2, 3, 6, 7, 8, 11, 12, 13, 15, 18, 31, 32, 33, 34, 35, 53, 57, 58, 59, 60, 95, 96] rfl (fun p vs gw tw => [rowE 41 2 v17 ws.length (ws.flatMap pnC), rowE 3 1 gw tw.length (tw.map (Value.int .i64)), rowE 3 1 (.slice (some ⟨g10, 0, none⟩) ((List.replicate K.length (0 : Int)).length) ((List.replicate K.length (0 : Int)).length)) vs.length (vs.map (Value.int .i64)), rowE 3 1 v6 ((tilesK d 0).length) ((tilesK d 0).map (Value.int .i64)), boxE b1 #[.int .i64 d.W, .int .i64 d.H, .int .i64 d.T, .int .i64 d.R] 25]) (fun p vs gw tw => [(14, gw), (97, .int .i64 (p : Int))]) (fun p vs gw tw => p ≤ K.length ∧ IP d K vs tw ∧ (∀ q, q < p → 0 ≤ vs.getD q 0) ∧ tw.length ≤ 64 + p) (fun p vs gw tw => K.length - p) 0 _ _ _ ⟨Nat.zero_le _, by rw [hos]; exact hL.ip, fun q hq => absurd hq (by omega), by omega⟩ (saQ rfl) (pfQ rfl) ?_
 intro p vs gw tw hi20
 obtain ⟨hp, hI, ha, htw⟩ := hi20
 have hvl := hI.ln
 refine srQ ?_
 refine zbk rfl rfl rfl rfl rfl rfl (fun h21 => ?_) (fun h21 => ?_)
 ·
  refine ntQ (tcQ rfl (zcn (sbQ (zaa (reQ 1 rfl (hvQ rfl (riQ 1 rfl rfl rfl rfl (zae hkk)) (hvQ rfl (liQ rfl rfl rfl (zae hkk)) ?_)))))))
  refine zba 2 rfl (zaa (zaa (reQ 2 rfl (hvQ rfl (riQ 1 rfl rfl rfl rfl (zac 2 rfl)) (hvQ rfl (liQ rfl rfl rfl (zac 2 rfl)) ?_)))))
  have hwq := hwr _ (zbs (d := pn0) (show p < ws.length by omega))
  refine zdo rfl rfl rfl rfl rfl rfl (fun h22 => ?_) (fun h22 => ?_)
  ·
   refine ntQ (zak rfl ?_)
   refine zaz (zct ?_)
   refine zag (zav (zay (hvQ rfl (vaQ rfl rfl rfl) (enQ 1 rfl ?_))))
   exact zci (p + 1) vs gw tw ⟨by omega, hI, fun q hq => by by_cases e : q = p; (subst e; assumption); exact ha q (by omega), by omega⟩ (by omega) (saQ rfl) (pfQ rfl)
  refine ntQ (zal rfl (zcn (zaa ?_)))
  refine zdg rfl 15 [0, 1, 2, 3, 4, 5, 6, 7, 8, 9, 10, 11, 12, 13, 14] (List.take 15 _) (List.drop 15 _) [[], [], [1], [], [], [3, 4], [5], [6], [], [], [8, 9], [10], [11], [], [0, 2, 7, 12, 13]] [107, 108, 109, 110, 111, 112, 113, 114, 115, 116, 117, 118, 119, 120, 121] (fun i_ vs_ v_ p_ => match i_ with | 0 => v_ = .agg #[.int .i64 d.W, .int .i64 d.H, .int .i64 d.T, .int .i64 d.R] ∧ p_ = [] | 1 => v_ = .int .i64 (K.getD p 0) ∧ p_ = [] | 2 => v_ = .int .i64 (btI (K.getD p 0)) ∧ p_ = [] | 3 => v_ = v17 ∧ p_ = [] | 4 => v_ = .int .i64 (p : Int) ∧ p_ = [] | 5 => v_ = elP v17 (((p : Int)).toNat * 2) ∧ p_ = [] | 6 => v_ = elP v17 (((p : Int)).toNat * 2 + 0) ∧ p_ = [] | 7 => v_ = .int .i64 ((ws.getD p pn0).b) ∧ p_ = [] | 8 => v_ = v17 ∧ p_ = [] | 9 => v_ = .int .i64 (p : Int) ∧ p_ = [] | 10 => v_ = elP v17 (((p : Int)).toNat * 2) ∧ p_ = [] | 11 => v_ = elP v17 (((p : Int)).toNat * 2 + 1) ∧ p_ = [] | 12 => v_ = .int .i64 ((ws.getD p pn0).p) ∧ p_ = [] | 13 => v_ = gw ∧ p_ = [] | 14 => (fun u_ p_ => ∃ t : Int, u_ = .int .i64 t ∧ p_ = [] ∧ ((t = -1 ∧ ∀ x ∈ tilesK d (btI (K.getD p 0)), x ∈ tw) ∨ (0 ≤ t ∧ t ∈ tilesK d (btI (K.getD p 0)) ∧ t ∉ tw))) v_ p_ | _ => True) (List.take_append_drop 15 _).symm (by kernel_rfl) (by kernel_rfl) rfl rfl ?_ ?_
  ·
   refine ⟨?_, ?_, ?_, ?_, ?_, ?_, ?_, ?_, ?_, ?_, ?_, ?_, ?_, ?_, ?_, trivial⟩
   ·
    intro vf pf hR
    exact olQ rfl (zai [3] rfl) (zbe (zao (cs := [.int .i64 d.W, .int .i64 d.H, .int .i64 d.T, .int .i64 d.R]) rfl rfl rfl rfl rfl (zaj 4 rfl 0 rfl)))
   ·
    intro vf pf hR
    exact ovQ rfl (zai [20] rfl) (zbe (zat rfl))
   ·
    intro vf pf hR
    have e1 := hR 1 (by decide)
    exact olQ rfl (sk 108 (congrArg some e1.1) (zad _)) (zan rfl rfl (fun w hm => zau (zen (K.getD p 0) w)))
   ·
    intro vf pf hR
    exact ovQ rfl (zai [18] rfl) (zbe (zat rfl))
   ·
    intro vf pf hR
    exact ovQ rfl (zai [19] rfl) (zbe (zat rfl))
   ·
    intro vf pf hR
    have e3 := hR 3 (by decide)
    have e4 := hR 4 (by decide)
    exact olQ rfl (sk 110 (congrArg some e3.1) (sk 111 (congrArg some e4.1) (zad _))) (zbe (riQ 2 rfl rfl rfl rfl (zac 0 rfl)))
   ·
    intro vf pf hR
    have e5 := hR 5 (by decide)
    exact olQ rfl (sk 112 (congrArg some e5.1) (zad _)) (zbe (zbb (k0 := 0) rfl rfl rfl (zac 0 rfl) (by omega)))
   ·
    intro vf pf hR
    have e6 := hR 6 (by decide)
    exact olQ rfl (sk 113 (congrArg some e6.1) (zad _)) (zbe (zar (u := .int .i64 ((ws.getD p pn0).b)) rfl rfl rfl (zac 0 rfl) ((zbv pnC 2 (fun _ => rfl) ws pn0 (show p < _ by omega) (by decide)).trans rfl)))
   ·
    intro vf pf hR
    exact ovQ rfl (zai [18] rfl) (zbe (zat rfl))
   ·
    intro vf pf hR
    exact ovQ rfl (zai [19] rfl) (zbe (zat rfl))
   ·
    intro vf pf hR
    have e8 := hR 8 (by decide)
    have e9 := hR 9 (by decide)
    exact olQ rfl (sk 115 (congrArg some e8.1) (sk 116 (congrArg some e9.1) (zad _))) (zbe (riQ 2 rfl rfl rfl rfl (zac 0 rfl)))
   ·
    intro vf pf hR
    have e10 := hR 10 (by decide)
    exact olQ rfl (sk 117 (congrArg some e10.1) (zad _)) (zbe (zbb (k0 := 1) rfl rfl rfl (zac 0 rfl) (by omega)))
   ·
    intro vf pf hR
    have e11 := hR 11 (by decide)
    exact olQ rfl (sk 118 (congrArg some e11.1) (zad _)) (zbe (zar (u := .int .i64 ((ws.getD p pn0).p)) rfl rfl rfl (zac 0 rfl) ((zbv pnC 2 (fun _ => rfl) ws pn0 (show p < _ by omega) (by decide)).trans rfl)))
   ·
    intro vf pf hR
    exact ovQ rfl (zai [14] rfl) (zbe (zat rfl))
   intro vf pf hR
   have e0 := hR 0 (by decide)
   have e2 := hR 2 (by decide)
   have e7 := hR 7 (by decide)
   have e12 := hR 12 (by decide)
   have e13 := hR 13 (by decide)
   exact olQ rfl (sk 107 (congrArg some e0.1) (sk 109 (congrArg some e2.1) (sk 114 (congrArg some e7.1) (sk 119 (congrArg some e12.1) (sk 120 (congrArg some e13.1) (zad _)))))) (zan rfl rfl (fun w hm => NearestFree_ret d (btI (K.getD p 0)) ((ws.getD p pn0).b) ((ws.getD p pn0).p) tw _ w hdv (by omega) (by omega) ((zac 1 rfl) w hm) (by omega)))
  intro vf pf hR
  have e14 : (fun u_ p_ => ∃ t : Int, u_ = .int .i64 t ∧ p_ = [] ∧ ((t = -1 ∧ ∀ x ∈ tilesK d (btI (K.getD p 0)), x ∈ tw) ∨ (0 ≤ t ∧ t ∈ tilesK d (btI (K.getD p 0)) ∧ t ∉ tw))) (vf 14) (pf 14) := hR 14 (by decide)
  obtain ⟨v23, vE14⟩ : ∃ x, vf 14 = x := ⟨_, rfl⟩
  obtain ⟨p24, pE14⟩ : ∃ x, pf 14 = x := ⟨_, rfl⟩
  have hR25 := e14
  rw [vE14, pE14] at hR25
  obtain ⟨t, rfl, rfl, hnt⟩ := hR25
  refine hl_less (zbj [106, 98, 97, 96, 95, 60, 59, 58, 57, 53, 35, 34, 33, 32, 31, 20, 19, 18, 15, 14, 13, 12, 11, 8, 7, 6, 3, 2, 1, 0] _ (sk 121 (congrArg some vE14) (zad _)) rfl) (List.sublist_append_right _ _) ?_
  simp only [List.drop_succ_cons, List.drop_zero]
  refine zba 1 rfl (zaa (zaa (reQ 1 rfl ?_)))
  refine zbk rfl rfl rfl rfl rfl rfl (fun h26 => ?_) (fun h26 => ?_)
  ·
   refine ntQ (zak rfl (zbd 2 rfl ?_))
   refine zaw (zap ?_)
   refine zaq (zgp ?_)
   refine zaq (zap ?_)
   have hvp : vs.getD p 0 = -1 := (hI.ok p (by omega)).resolve_right (fun h9 => by omega)
   have hNF : ¬ Fits d K := hI.none hdv (by omega) hvp (hnt.resolve_right (fun h9 => by omega)).2
   refine zfr [rowE 3 1 (.slice none 0 0) (([] : List Int).length) (([] : List Int).map (Value.int .i64)), rowE 41 2 v17 ws.length (ws.flatMap pnC), rowE 3 1 gw tw.length (tw.map (Value.int .i64)), rowE 3 1 (.slice (some ⟨g10, 0, none⟩) ((List.replicate K.length (0 : Int)).length) ((List.replicate K.length (0 : Int)).length)) vs.length (vs.map (Value.int .i64)), rowE 3 1 v6 ((tilesK d 0).length) ((tilesK d 0).map (Value.int .i64)), boxE b1 #[.int .i64 d.W, .int .i64 d.H, .int .i64 d.T, .int .i64 d.R] 25] (fun w hm => hm.nilRow 3 1) ?_
   exact zdb (rs := [.tmp 6, .tmp 7]) (vs := [.slice none 0 0, .bool false]) (post := [rowE 3 1 (.slice none 0 0) (([] : List Int).length) (([] : List Int).map (Value.int .i64))]) rfl ⟨rfl, rfl, trivial⟩ rfl (slQ [0] rfl) ⟨false, [], _, rfl, rfl, ⟨fun h => (by cases h), fun h => absurd h hNF⟩, fun h => (by cases h), fun _ => rfl⟩
  refine ntQ (zal rfl (zcn (zaa (reQ 3 rfl ?_))))
  have hnt := hnt.resolve_left (fun h9 => by omega)
  have hvp : vs.getD p 0 = -1 := (hI.ok p (by omega)).resolve_right (fun h9 => by omega)
  refine hvQ rfl (riQ 1 rfl rfl rfl rfl (zac 2 rfl)) (zcu (i := 2) (n' := (vs.set p t).length) (xs' := ((vs.set p t).map (Value.int .i64))) rfl rfl rfl rfl rfl rfl rfl rfl (by first | omega | (simp only [List.length_set]; omega)) List.length_set.symm (zcv _ _ _) rfl ?_)
  refine ntQ (reQ 2 rfl ?_)
  refine zdi rfl (zas (z := .int .i64 0) (s := 1) (cs := ([t].map (Value.int .i64))) rfl Try.underlying28 rfl (by decide) rfl (by kernel_rfl) rfl) ?_
  intro g27
  refine zcf (i := 2) (z := .int .i64 0) (bytes := 8) rfl rfl rfl rfl Try.underlying28 (by kernel_rfl) rfl rfl rfl rfl (zac 0 rfl) (zbm _) (by first | omega | (simp; done) | (simp; omega)) (zbt tw ([t])) (zcl tw ([t])) (fun _ => rfl) ?_
  intro v28
  refine enQ 1 rfl (zco (zay (hvQ rfl (vaQ rfl rfl rfl) (enQ 1 rfl ?_))))
  exact zci (p + 1) (vs.set p t) v28 (tw ++ ([t])) ⟨by omega, by exact hI.put hdv (by omega) hvp hnt.2.1 hnt.2.2, fun q hq => by rw [zeg (by omega)]; split; (exact hnt.1); exact ha q (by omega), by rw [List.length_append, List.length_singleton]; omega⟩ (by omega) (saQ rfl) (slQ [1, 0, 0, 0, 0] rfl)
 refine ntQ (fcQ rfl ?_)
 refine zaz (zds ?_)
 refine zag (zav (zbd 3 rfl ?_))
 refine zaw ?_
 have hPl : PlP d K vs := hI.all (fun q hq => ha q (by omega))
 exact zdb (rs := [.tmp 6, .tmp 7]) (vs := [.slice (some ⟨g10, 0, none⟩) ((List.replicate K.length (0 : Int)).length) ((List.replicate K.length (0 : Int)).length), .bool true]) (post := [rowE 3 1 (.slice (some ⟨g10, 0, none⟩) ((List.replicate K.length (0 : Int)).length) ((List.replicate K.length (0 : Int)).length)) vs.length (vs.map (Value.int .i64))]) rfl ⟨rfl, rfl, trivial⟩ rfl (slQ [2] rfl) ⟨true, _, _, rfl, rfl, ⟨fun _ => hPl.fits hdv hvl, fun _ => rfl⟩, fun _ => ⟨hPl, hvl⟩, fun h => (by cases h)⟩
open Go.RowKit
def cntK (K : List Int) (c : Int) (b : Nat) : Nat := ((K.take b).filter (fun k => btI k == c)).length
theorem cntK_yes {K : List Int} {c : Int} {b : Nat} (hb : b < K.length) (h : btI (K.getD b 0) = c) : cntK K c (b + 1) = cntK K c b + 1 := by
  show ((K.take (b + 1)).filter _).length = _
  rw [zdx 0 hb, List.filter_append, List.length_append, List.filter_cons_of_pos (by simpa using h)]; rfl
theorem cntK_no {K : List Int} {c : Int} {b : Nat} (hb : b < K.length) (h : btI (K.getD b 0) ≠ c) : cntK K c (b + 1) = cntK K c b := by
  show ((K.take (b + 1)).filter _).length = _
  rw [zdx 0 hb, List.filter_append, List.length_append, List.filter_cons_of_neg (by simpa using h)]; rfl
theorem cntK_all (K : List Int) (c : Int) : cntK K c K.length = (K.filter (fun k => btI k == c)).length := by
  show ((K.take K.length).filter _).length = _
  rw [List.take_length]
theorem cntK_le (K : List Int) (c : Int) (b : Nat) : cntK K c b ≤ b := by
  have := List.length_filter_le (fun k => btI k == c) (K.take b)
  rw [List.length_take] at this
  show ((K.take b).filter _).length ≤ _
  omega
def FitN (d : Dev) (K : List Int) (k : Nat) : Prop := ∀ c : Nat, c < k → cntK K (c : Int) K.length ≤ (tilesK d (c : Int)).length
theorem FitN.zero (d : Dev) (K : List Int) : FitN d K 0 := fun c hc => absurd hc (by omega)
theorem FitN.succ {d : Dev} {K : List Int} {k : Nat} : FitN d K (k + 1) ↔ FitN d K k ∧ cntK K (k : Int) K.length ≤ (tilesK d (k : Int)).length :=
  ⟨fun h => ⟨fun c hc => h c (by omega), h k (by omega)⟩, fun h c hc => by by_cases e : c = k; (subst e; exact h.2); exact h.1 c (by omega)⟩
theorem FitN.all {d : Dev} {K : List Int} (hK : ∀ x ∈ K, 0 ≤ x ∧ x ≤ 3) : FitN d K 3 ↔ Fits d K := by
  constructor
  · intro h c
    by_cases hc : 0 ≤ c ∧ c < 3
    · have h1 := h c.toNat (by omega)
      rw [cntK_all, show ((c.toNat : Nat) : Int) = c by omega] at h1; exact h1
    · have h0 : K.filter (fun k => btI k == c) = [] := List.filter_eq_nil_iff.2 fun x hx h9 => by
        have h2 := btI_rng (hK x hx); rw [beq_iff_eq] at h9; omega
      rw [h0]; exact Nat.zero_le _
  · intro h c hc; rw [cntK_all]; exact h c
theorem btoi_t  (w : World)  :
   Calls Try.prog 11 #[.bool true] w (Ans w (.int .i64 1)) := by
 refine zbl (N := 4) (args := [.bool true]) Try.func11 rfl rfl (zbd 1 rfl (zaa (zbd 1 rfl ?_)))
 refine zak rfl (zbd 1 rfl ?_)
 refine zaw (zap ?_)
 exact zbi rfl rfl rfl
theorem btoi_f  (w : World)  :
   Calls Try.prog 11 #[.bool false] w (Ans w (.int .i64 0)) := by
 refine zbl (N := 4) (args := [.bool false]) Try.func11 rfl rfl (zbd 1 rfl (zaa (zbd 1 rfl ?_)))
 refine zal rfl (zcn (zbd 1 rfl ?_))
 exact zaw (zbi rfl rfl rfl)
theorem walk_FnInitialLegal (a0 : Option Addr) (len0 cap0 : Nat) (z0 : List Int) (w : World) (hbr : BRow .u8 w a0 len0 cap0 z0) :
   Calls Try.prog 6 #[.slice a0 len0 cap0] w (Ans w (.bool true)) := by
 have hcd0 := cod_le hbr 0
 refine zbl (N := 85) (args := [.slice a0 len0 cap0]) Try.func6 rfl rfl (zbd 1 rfl (zaa (zaa (reQ 1 rfl ?_))))
 refine zdp rfl (zan rfl rfl (fun w hm => zau (ans_of (big_any a0 len0 cap0 w (hbr.len_le))))) (zbx (fun h1 => ?_) (fun h1 => ?_))
 ·
  have h1p := of_decide_eq_true h1
  refine ntQ (zak rfl (zbd 1 rfl ?_))
  refine zaw (zap ?_)
  exact zbi rfl rfl rfl
 have h1p := of_decide_eq_false h1
 refine ntQ (zal rfl (zcn (zaa (reQ 1 rfl ?_))))
 refine zfu rfl rfl rfl (zan rfl rfl (fun w hm => DrawPlaced_ret _ _ _ z0 w (hbr.below hm.bel) (by omega))) ?_
 intro v2 p3 hR4
 obtain ⟨d, dp, ks, zs, cs, kv, cv, zv, rfl, rfl, hdp, ⟨oK, oC, oZ⟩, hdv, hkl, hkr, hzl, hzp, hci, hcl, hco⟩ := hR4
 refine zam 5 rfl (zdt rfl (zbw (z := .agg #[.int .i64 0, .int .i64 0, .int .i64 0, .int .i64 0]) rfl rfl) ?_)
 intro b5
 refine zcd (cs' := #[.int .i64 d.W, .int .i64 d.H, .int .i64 d.T, .int .i64 d.R]) (i := 0) (off := 0) (us := [.int .i64 d.W, .int .i64 d.H, .int .i64 d.T, .int .i64 d.R]) rfl rfl rfl rfl rfl rfl rfl (zah rfl (zah rfl (zah rfl (zah rfl zbp)))) rfl rfl rfl (zba 3 rfl (srQ ?_))
 refine zdi rfl (zcb (s := 1) rfl Try.underlying28 rfl) ?_
 intro g6
 refine zam 1 rfl (zcf (i := 0) (z := .int .i64 0) (bytes := 8) (n' := ks.length) (xs' := (ks.map (Value.int .i64))) rfl rfl rfl rfl Try.underlying28 (by kernel_rfl) rfl rfl rfl rfl (fun w hm => (hdp w (hm.holds _ (zdj (i := 2) rfl))).1) (zbm _) (by first | omega | (simp; done) | (simp; omega)) (Nat.zero_add _) (List.nil_append _) (fun _ => rfl) ?_)
 intro v7
 refine zam 1 rfl (zdp rfl (zan rfl rfl (fun w hm => zau (at_ans hbr 0 (by omega) w hm))) ?_)
 refine hvQ rfl (zgi rfl rfl rfl (by constructor <;> omega)) (zdi rfl (zas (z := .int .i64 0) (s := 1) (cs := ([(cod z0 len0 0 : Int) % 4].map (Value.int .i64))) rfl Try.underlying28 rfl (by decide) rfl (by kernel_rfl) rfl) ?_)
 intro g8
 refine zcf (i := 1) (z := .int .i64 0) (bytes := 8) rfl rfl rfl rfl Try.underlying28 (by kernel_rfl) rfl rfl rfl rfl (zac 0 rfl) (zbm _) (by first | omega | (simp; done) | (simp; omega)) (zbt ks ([(cod z0 len0 0 : Int) % 4])) (zcl ks ([(cod z0 len0 0 : Int) % 4])) (fun _ => rfl) ?_
 intro v9
 refine zba 1 rfl (srQ ?_)
 have hXn : (ks ++ ([(cod z0 len0 0 : Int) % 4])).length = ks.length + 1 := by simp
 have hfew := hzp.few hdv
 have hXl : (ks ++ ([(cod z0 len0 0 : Int) % 4])).length ≤ 64 := by omega
 have hXk : ∀ x ∈ (ks ++ ([(cod z0 len0 0 : Int) % 4])), 0 ≤ x ∧ x ≤ 3 := fun x hx => by rcases List.mem_append.1 hx with h9 | h9; (exact hkr x h9); rw [List.mem_singleton] at h9; omega
 have hXc : CnIn (ks ++ ([(cod z0 len0 0 : Int) % 4])).length cs := hci.mono (by omega)
 refine hvQ rfl (zao (cs := [.int .i64 d.W, .int .i64 d.H, .int .i64 d.T, .int .i64 d.R]) rfl rfl rfl rfl rfl (zaj 2 rfl 0 rfl)) (zam 2 rfl ?_)
 refine zfu rfl rfl rfl (zan rfl rfl (fun w hm => InitialPlace_ret d (ks ++ ([(cod z0 len0 0 : Int) % 4])) cs _ _ w hdv ((zac 1 rfl) w hm) (hdp w (hm.holds _ (zdj (i := 3) rfl))).2.1 hXl hXk hXc hco)) ?_
 intro v10 p11 hR12
 obtain ⟨bb, pl, pv, rfl, rfl, hbF, hbT, hbN⟩ := hR12
 refine zam 3 rfl (zbx (fun h13 => ?_) (fun h13 => ?_))
 ·
  refine zba 2 rfl (zbd 1 rfl (zaa (zaa (reQ 1 rfl ?_))))
  refine ntQ (zax ?_)
  refine lkQ2 (α := Nat) (β := Bool) [0, 2, 3, 4, 5, 7, 8, 14] rfl (fun k F => [rowE 3 1 pv pl.length (pl.map (Value.int .i64)), rowE 3 1 v9 ((ks ++ ([(cod z0 len0 0 : Int) % 4])).length) ((ks ++ ([(cod z0 len0 0 : Int) % 4])).map (Value.int .i64)), boxE b5 #[.int .i64 d.W, .int .i64 d.H, .int .i64 d.T, .int .i64 d.R] 25, bigE dp]) (fun k F => [(9, .bool F), (10, .int .i64 (k : Int))]) (fun k F => k ≤ 3 ∧ (F = true ↔ FitN d (ks ++ ([(cod z0 len0 0 : Int) % 4])) k)) (fun k F => 3 - k) 0 _ ⟨by omega, ⟨fun _ => FitN.zero _ _, fun _ => rfl⟩⟩ (saQ rfl) (slQ [0, 1, 0, 0] rfl) ?_
  intro k F hi14
  obtain ⟨hk, hF⟩ := hi14
  refine zaa (zaa (reQ 1 rfl ?_))
  refine zbk rfl rfl rfl rfl rfl rfl (fun h15 => ?_) (fun h15 => ?_)
  ·
   refine ntQ (zak rfl (zcn (sbQ (zbd 1 rfl ?_))))
   refine zaa (zbd 1 rfl (zax ?_))
   refine lkQ2 (α := Nat) (β := Int) [0, 2, 3, 4, 5, 7, 8, 9, 10, 14, 38] rfl (fun b n => [rowE 3 1 pv pl.length (pl.map (Value.int .i64)), rowE 3 1 v9 ((ks ++ ([(cod z0 len0 0 : Int) % 4])).length) ((ks ++ ([(cod z0 len0 0 : Int) % 4])).map (Value.int .i64)), boxE b5 #[.int .i64 d.W, .int .i64 d.H, .int .i64 d.T, .int .i64 d.R] 25, bigE dp]) (fun b n => [(11, .int .i64 n), (12, .int .i64 (b : Int))]) (fun b n => b ≤ (ks ++ ([(cod z0 len0 0 : Int) % 4])).length ∧ n = (cntK (ks ++ ([(cod z0 len0 0 : Int) % 4])) (k : Int) b : Int)) (fun b n => (ks ++ ([(cod z0 len0 0 : Int) % 4])).length - b) 0 _ ⟨Nat.zero_le _, by simp [cntK]⟩ (saQ rfl) (pfQ rfl) ?_
   intro b n hi16
   obtain ⟨hb, hn⟩ := hi16
   have hcl := cntK_le (ks ++ ([(cod z0 len0 0 : Int) % 4])) (k : Int) b
   refine zaa (zaa (reQ 2 rfl (hvQ rfl (lnQ rfl rfl rfl (zac 1 rfl)) ?_)))
   refine zbk rfl rfl rfl rfl rfl rfl (fun h17 => ?_) (fun h17 => ?_)
   ·
    refine (zbr (zav (zak rfl (zfh (zav (zaa (zax (zay (zam 3 rfl (hvQ rfl (riQ 1 rfl rfl rfl rfl (zac 1 rfl)) (hvQ rfl (zar (u := .int .i64 ((ks ++ ([(cod z0 len0 0 : Int) % 4])).getD b 0)) rfl rfl rfl (zac 1 rfl) (zbu (show _ < (ks ++ ([(cod z0 len0 0 : Int) % 4])).length by omega))) ?_)))))))))))
    refine zdp rfl (zan rfl rfl (fun w hm => zau (zfq ((ks ++ ([(cod z0 len0 0 : Int) % 4])).getD b 0) w))) (zam 1 rfl ?_)
    refine zby rfl rfl rfl rfl rfl rfl (fun h18 => ?_) (fun h18 => ?_)
    ·
     refine zdp rfl (zan rfl rfl (fun w hm => zau (btoi_t w))) (hvQ rfl (vaQ rfl rfl rfl) (enQ 1 rfl (zco (reQ 1 rfl (hvQ rfl (vaQ rfl rfl rfl) (enQ 1 rfl ?_))))))
     exact zbg (b + 1) (n + 1) ⟨by omega, by first | (rw [cntK_yes (by omega) (by assumption)]; omega) | (rw [cntK_no (by omega) (by assumption)]; omega)⟩ (by omega) (saQ rfl) (pfQ rfl)
    refine zdp rfl (zan rfl rfl (fun w hm => zau (btoi_f w))) (hvQ rfl (vaQ rfl rfl rfl) (enQ 1 rfl (zco (reQ 1 rfl (hvQ rfl (vaQ rfl rfl rfl) (enQ 1 rfl ?_))))))
    exact zbg (b + 1) (n + 0) ⟨by omega, by first | (rw [cntK_yes (by omega) (by assumption)]; omega) | (rw [cntK_no (by omega) (by assumption)]; omega)⟩ (by omega) (saQ rfl) (pfQ rfl)
   refine ntQ (zal rfl ?_)
   refine zaz (zds ?_)
   refine zag (zav (zay ?_))
   rw [show b = (ks ++ ([(cod z0 len0 0 : Int) % 4])).length by omega] at hn
   have htl9 := tlL_le d (k : Int) (d.W * d.H).toNat
   have har := zfe hdv
   refine zam 1 rfl (zbx (fun h19 => ?_) (fun h19 => ?_))
   ·
    refine zam 2 rfl (hvQ rfl (zao (cs := [.int .i64 d.W, .int .i64 d.H, .int .i64 d.T, .int .i64 d.R]) rfl rfl rfl rfl rfl (zaj 2 rfl 0 rfl)) (zam 1 rfl ?_))
    refine zfu rfl rfl rfl (zan rfl rfl (fun w hm => zfm d (k : Int) w hdv)) ?_
    intro v20 p21 hR22
    subst hR22
    refine hvQ rfl (lnQ rfl rfl rfl (zac 0 rfl)) (hl_leq rfl rfl rfl rfl rfl rfl (fun h23 => ?_) (fun h23 => ?_))
    ·
     refine enQ 2 rfl (zco (reQ 1 rfl (hvQ rfl (vaQ rfl rfl rfl) (enQ 1 rfl ?_))))
     exact zbg (k + 1) true ⟨by omega, by rw [FitN.succ, ← hF]; first | exact ⟨fun _ => ⟨by assumption, by omega⟩, fun _ => rfl⟩ | exact ⟨fun h => (by cases h), fun h => absurd h.2 (by omega)⟩ | exact ⟨fun h => (by cases h), fun h => by simp_all⟩⟩ (by omega) (saQ rfl) (slQ [1, 0, 0, 0] rfl)
    refine enQ 2 rfl (zco (reQ 1 rfl (hvQ rfl (vaQ rfl rfl rfl) (enQ 1 rfl ?_))))
    exact zbg (k + 1) false ⟨by omega, by rw [FitN.succ, ← hF]; first | exact ⟨fun _ => ⟨by assumption, by omega⟩, fun _ => rfl⟩ | exact ⟨fun h => (by cases h), fun h => absurd h.2 (by omega)⟩ | exact ⟨fun h => (by cases h), fun h => by simp_all⟩⟩ (by omega) (saQ rfl) (slQ [1, 0, 0, 0] rfl)
   refine enQ 9 rfl (zco (reQ 1 rfl (hvQ rfl (vaQ rfl rfl rfl) ?_)))
   refine enQ 1 rfl ?_
   exact zbg (k + 1) false ⟨by omega, by rw [FitN.succ, ← hF]; first | exact ⟨fun _ => ⟨by assumption, by omega⟩, fun _ => rfl⟩ | exact ⟨fun h => (by cases h), fun h => absurd h.2 (by omega)⟩ | exact ⟨fun h => (by cases h), fun h => by simp_all⟩⟩ (by omega) (saQ rfl) (pfQ rfl)
  refine ntQ (zal rfl ?_)
  refine zaz (zds ?_)
  refine zag (zav (zaa (zaa (reQ 2 rfl ?_))))
  refine zbx (fun h24 => ?_) (fun h24 => absurd (((hF.2 (by have h9 := (FitN.all hXk).2 (hbF.1 h13); rwa [show k = 3 by omega]))).symm.trans h24) (by decide))
  refine hvQ rfl (rv_bneq (m := true) (n := true) rfl Try.underlying4 rfl rfl) (ntQ (zal rfl (zcn (zaa (zaa (reQ 1 rfl ?_))))))
  refine zbx (fun h25 => ?_) (fun h25 => absurd (((hF.2 (by have h9 := (FitN.all hXk).2 (hbF.1 h13); rwa [show k = 3 by omega]))).symm.trans h25) (by decide))
  refine zba 1 rfl (zal rfl (zcn (srQ ?_)))
  have hcr := cost_rng hdv (hbT h13).1.zsIn (by rw [(hbT h13).2]; exact hXc) hco
  refine hvQ rfl (zao (cs := [.int .i64 d.W, .int .i64 d.H, .int .i64 d.T, .int .i64 d.R]) rfl rfl rfl rfl rfl (zaj 2 rfl 0 rfl)) (zam 2 rfl ?_)
  refine zdp rfl (zan rfl rfl (fun w hm => zau (PlaceOk_yes d (ks ++ ([(cod z0 len0 0 : Int) % 4])) pl _ _ w hdv ((zac 1 rfl) w hm) ((zac 0 rfl) w hm) hXl (hbT h13).2 (hbT h13).1))) (zam 1 rfl (hvQ rfl (zao (cs := [.int .i64 d.W, .int .i64 d.H, .int .i64 d.T, .int .i64 d.R]) rfl rfl rfl rfl rfl (zaj 2 rfl 0 rfl)) (zam 2 rfl ?_)))
  refine zdp rfl (zan rfl rfl (fun w hm => zau (implPlaceCost_ans d pl cs _ _ w hdv ((zac 0 rfl) w hm) (by have h9 := (hbT h13).2; omega) (hbT h13).1.zsIn (hdp w (hm.holds _ (zdj (i := 3) rfl))).2.1 (by rw [(hbT h13).2]; exact hXc)))) (zdo rfl rfl rfl rfl rfl rfl (fun h26 => ?_) (fun h26 => absurd h26 (by omega)))
  refine zba 2 rfl ?_
  exact zaw (zbi rfl rfl rfl)
 refine zba 2 rfl (zbd 1 rfl (zaa (zaa (reQ 1 rfl ?_))))
 refine ntQ (zax ?_)
 refine lkQ2 (α := Nat) (β := Bool) [0, 2, 3, 4, 5, 7, 8, 14] rfl (fun k F => [rowE 3 1 pv pl.length (pl.map (Value.int .i64)), rowE 3 1 v9 ((ks ++ ([(cod z0 len0 0 : Int) % 4])).length) ((ks ++ ([(cod z0 len0 0 : Int) % 4])).map (Value.int .i64)), boxE b5 #[.int .i64 d.W, .int .i64 d.H, .int .i64 d.T, .int .i64 d.R] 25, bigE dp]) (fun k F => [(9, .bool F), (10, .int .i64 (k : Int))]) (fun k F => k ≤ 3 ∧ (F = true ↔ FitN d (ks ++ ([(cod z0 len0 0 : Int) % 4])) k)) (fun k F => 3 - k) 0 _ ⟨by omega, ⟨fun _ => FitN.zero _ _, fun _ => rfl⟩⟩ (saQ rfl) (slQ [0, 1, 0, 0] rfl) ?_
 intro k F hi27
 obtain ⟨hk, hF⟩ := hi27
 refine zaa (zaa (reQ 1 rfl ?_))
 refine zbk rfl rfl rfl rfl rfl rfl (fun h28 => ?_) (fun h28 => ?_)
 ·
  refine ntQ (zak rfl (zcn (sbQ (zbd 1 rfl ?_))))
  refine zaa (zbd 1 rfl (zax ?_))
  refine lkQ2 (α := Nat) (β := Int) [0, 2, 3, 4, 5, 7, 8, 9, 10, 14, 38] rfl (fun b n => [rowE 3 1 pv pl.length (pl.map (Value.int .i64)), rowE 3 1 v9 ((ks ++ ([(cod z0 len0 0 : Int) % 4])).length) ((ks ++ ([(cod z0 len0 0 : Int) % 4])).map (Value.int .i64)), boxE b5 #[.int .i64 d.W, .int .i64 d.H, .int .i64 d.T, .int .i64 d.R] 25, bigE dp]) (fun b n => [(11, .int .i64 n), (12, .int .i64 (b : Int))]) (fun b n => b ≤ (ks ++ ([(cod z0 len0 0 : Int) % 4])).length ∧ n = (cntK (ks ++ ([(cod z0 len0 0 : Int) % 4])) (k : Int) b : Int)) (fun b n => (ks ++ ([(cod z0 len0 0 : Int) % 4])).length - b) 0 _ ⟨Nat.zero_le _, by simp [cntK]⟩ (saQ rfl) (pfQ rfl) ?_
  intro b n hi29
  obtain ⟨hb, hn⟩ := hi29
  have hcl := cntK_le (ks ++ ([(cod z0 len0 0 : Int) % 4])) (k : Int) b
  refine zaa (zaa (reQ 2 rfl (hvQ rfl (lnQ rfl rfl rfl (zac 1 rfl)) ?_)))
  refine zbk rfl rfl rfl rfl rfl rfl (fun h30 => ?_) (fun h30 => ?_)
  ·
   refine (zbr (zav (zak rfl (zfh (zav (zaa (zax (zay (zam 3 rfl (hvQ rfl (riQ 1 rfl rfl rfl rfl (zac 1 rfl)) (hvQ rfl (zar (u := .int .i64 ((ks ++ ([(cod z0 len0 0 : Int) % 4])).getD b 0)) rfl rfl rfl (zac 1 rfl) (zbu (show _ < (ks ++ ([(cod z0 len0 0 : Int) % 4])).length by omega))) ?_)))))))))))
   refine zdp rfl (zan rfl rfl (fun w hm => zau (zfq ((ks ++ ([(cod z0 len0 0 : Int) % 4])).getD b 0) w))) (zam 1 rfl ?_)
   refine zby rfl rfl rfl rfl rfl rfl (fun h31 => ?_) (fun h31 => ?_)
   ·
    refine zdp rfl (zan rfl rfl (fun w hm => zau (btoi_t w))) (hvQ rfl (vaQ rfl rfl rfl) (enQ 1 rfl (zco (reQ 1 rfl (hvQ rfl (vaQ rfl rfl rfl) (enQ 1 rfl ?_))))))
    exact zbg (b + 1) (n + 1) ⟨by omega, by first | (rw [cntK_yes (by omega) (by assumption)]; omega) | (rw [cntK_no (by omega) (by assumption)]; omega)⟩ (by omega) (saQ rfl) (pfQ rfl)
   refine zdp rfl (zan rfl rfl (fun w hm => zau (btoi_f w))) (hvQ rfl (vaQ rfl rfl rfl) (enQ 1 rfl (zco (reQ 1 rfl (hvQ rfl (vaQ rfl rfl rfl) (enQ 1 rfl ?_))))))
   exact zbg (b + 1) (n + 0) ⟨by omega, by first | (rw [cntK_yes (by omega) (by assumption)]; omega) | (rw [cntK_no (by omega) (by assumption)]; omega)⟩ (by omega) (saQ rfl) (pfQ rfl)
  refine ntQ (zal rfl ?_)
  refine zaz (zds ?_)
  refine zag (zav (zay ?_))
  rw [show b = (ks ++ ([(cod z0 len0 0 : Int) % 4])).length by omega] at hn
  have htl9 := tlL_le d (k : Int) (d.W * d.H).toNat
  have har := zfe hdv
  refine zam 1 rfl (zbx (fun h32 => ?_) (fun h32 => ?_))
  ·
   refine zam 2 rfl (hvQ rfl (zao (cs := [.int .i64 d.W, .int .i64 d.H, .int .i64 d.T, .int .i64 d.R]) rfl rfl rfl rfl rfl (zaj 2 rfl 0 rfl)) (zam 1 rfl ?_))
   refine zfu rfl rfl rfl (zan rfl rfl (fun w hm => zfm d (k : Int) w hdv)) ?_
   intro v33 p34 hR35
   subst hR35
   refine hvQ rfl (lnQ rfl rfl rfl (zac 0 rfl)) (hl_leq rfl rfl rfl rfl rfl rfl (fun h36 => ?_) (fun h36 => ?_))
   ·
    refine enQ 2 rfl (zco (reQ 1 rfl (hvQ rfl (vaQ rfl rfl rfl) (enQ 1 rfl ?_))))
    exact zbg (k + 1) true ⟨by omega, by rw [FitN.succ, ← hF]; first | exact ⟨fun _ => ⟨by assumption, by omega⟩, fun _ => rfl⟩ | exact ⟨fun h => (by cases h), fun h => absurd h.2 (by omega)⟩ | exact ⟨fun h => (by cases h), fun h => by simp_all⟩⟩ (by omega) (saQ rfl) (slQ [1, 0, 0, 0] rfl)
   refine enQ 2 rfl (zco (reQ 1 rfl (hvQ rfl (vaQ rfl rfl rfl) (enQ 1 rfl ?_))))
   exact zbg (k + 1) false ⟨by omega, by rw [FitN.succ, ← hF]; first | exact ⟨fun _ => ⟨by assumption, by omega⟩, fun _ => rfl⟩ | exact ⟨fun h => (by cases h), fun h => absurd h.2 (by omega)⟩ | exact ⟨fun h => (by cases h), fun h => by simp_all⟩⟩ (by omega) (saQ rfl) (slQ [1, 0, 0, 0] rfl)
  refine enQ 9 rfl (zco (reQ 1 rfl (hvQ rfl (vaQ rfl rfl rfl) ?_)))
  refine enQ 1 rfl ?_
  exact zbg (k + 1) false ⟨by omega, by rw [FitN.succ, ← hF]; first | exact ⟨fun _ => ⟨by assumption, by omega⟩, fun _ => rfl⟩ | exact ⟨fun h => (by cases h), fun h => absurd h.2 (by omega)⟩ | exact ⟨fun h => (by cases h), fun h => by simp_all⟩⟩ (by omega) (saQ rfl) (pfQ rfl)
 refine ntQ (zal rfl ?_)
 refine zaz (zds ?_)
 refine zag (zav (zaa (zaa (reQ 2 rfl ?_))))
 refine zbx (fun h37 => absurd (((Bool.eq_false_iff.2 (fun h9 => by have h8 := hF.1 h9; rw [show k = 3 by omega] at h8; exact absurd ((hbF.2 ((FitN.all hXk).1 h8)).symm.trans h13) (by decide)))).symm.trans h37) (by decide)) (fun h37 => ?_)
 refine hvQ rfl (rv_bneq (m := false) (n := false) rfl Try.underlying4 rfl rfl) (ntQ (zal rfl (zcn (zaa (zaa (reQ 1 rfl ?_))))))
 refine zbx (fun h38 => absurd (((Bool.eq_false_iff.2 (fun h9 => by have h8 := hF.1 h9; rw [show k = 3 by omega] at h8; exact absurd ((hbF.2 ((FitN.all hXk).1 h8)).symm.trans h13) (by decide)))).symm.trans h38) (by decide)) (fun h38 => ?_)
 refine zba 1 rfl (zak rfl (zaa (reQ 1 rfl ?_)))
 have hpl0 : pl.length = 0 := by rw [hbN h13]; rfl
 refine hvQ rfl (lnQ rfl rfl rfl (zac 0 rfl)) (zby rfl rfl rfl rfl rfl rfl (fun h39 => ?_) (fun h39 => absurd h39 (by omega)))
 refine zba 1 rfl ?_
 refine zaw (zap ?_)
 exact zbi rfl rfl rfl
end Go.Proofs.Yteikplehipifkaa
