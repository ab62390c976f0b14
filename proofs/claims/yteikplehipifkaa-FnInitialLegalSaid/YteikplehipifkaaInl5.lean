/- Texts of the law FnInitialLegal, part 5: what it uses. -/
import Derived.Test.YteikplehipifkaaInl4
set_option linter.unusedVariables false
set_option linter.unusedSimpArgs false
set_option maxHeartbeats 4000000
set_option maxRecDepth 100000
namespace Go.Proofs.Yteikplehipifkaa
open Go.RowKit Go.ChangeShapes
open Go.RowKit
theorem MappingOk_ans (n : Nt) (rs : List CRow) (v : Value) (w : World) (hr : RdsNt w n) (hn : NtOk n) (hv : RdsCl w v rs) (h400 : ∀ r ∈ rs, r.xs.length ≤ 400) :
   Calls Try.prog 96 #[.agg #[.int .i64 n.ins, n.sv, n.av, n.ov], v] w (Ans w (.bool (pBe (MapP n rs)))) := by
 have hi0 := hn.i0
 have hi1 := hn.i1
 have hs1 := hn.s1
 have ha1 := hn.a1
 have ho1 := hn.o1
 have hcnt : n.cnt = 1 + n.ins + n.ss.length + n.gs.length := rfl
 have hfst : n.fst = 1 + n.ins + n.ss.length := rfl
 refine zbl (N := 45) (args := [.agg #[.int .i64 n.ins, n.sv, n.av, n.ov], v]) Try.func96 rfl rfl (srQ ?_)
 refine zdt rfl (zcm rfl rfl) ?_
 intro b1
 refine zba 1 rfl (zfc (hvQ rfl (zao (cs := [.int .i64 n.ins, n.sv, n.av, n.ov]) rfl rfl rfl rfl rfl (zaj 0 rfl 0 rfl)) ?_))
 refine zdp rfl (zan rfl rfl (fun w hm => zau (zea n w (hr.below hm.bel) hn))) (zam 3 rfl (hvQ rfl (lnQ rfl rfl rfl (zae hv.row)) (hvQ rfl (fdQ 2 rfl rfl rfl) (hvQ rfl (zaf rfl rfl rfl (zab 0 rfl rfl)) (hvQ rfl (lnQ rfl rfl rfl (zae hr.an)) ?_)))))
 refine zgw rfl rfl rfl rfl rfl rfl (fun h2 => ?_) (fun h2 => ?_)
 ·
  refine zba 1 rfl (zak rfl (zbd 1 rfl ?_))
  refine zaw (zap ?_)
  exact zbi rfl rfl (congrArg Value.bool (pBe_no (p := MapP n rs) (fun h => by have h9 := h.len; omega)).symm)
 refine zba 1 rfl (zal rfl (zcn (zaa (zbd 1 rfl ?_))))
 refine zax ?_
 refine lkQ1 (α := Nat) [0, 1, 2, 4, 16] rfl (fun i => [boxE b1 #[.int .i64 n.ins, n.sv, n.av, n.ov] 86]) (fun i => [(5, .int .i64 (i : Int))]) (fun i => i ≤ rs.length ∧ ∀ j, j < i → CutP n (n.fst + (j : Int)) (rs.getD j crow0).xs ∧ hasB (rs.getD j crow0).xs (n.fst + (j : Int)) = false) (fun i => rs.length - i) 0 ⟨Nat.zero_le _, fun i hi => absurd hi (by omega)⟩ (saQ rfl) (pfQ rfl) ?_
 intro i hi3
 obtain ⟨hi, hel⟩ := hi3
 refine zaa (zaa (reQ 2 rfl (hvQ rfl (lnQ rfl rfl rfl (zae hv.row)) ?_)))
 refine zbk rfl rfl rfl rfl rfl rfl (fun h4 => ?_) (fun h4 => ?_)
 ·
  refine ntQ (zak rfl (zcn (sbQ (zaa ?_))))
  have h4i := h400 _ (zeh (es := rs) (i := i) (d := crow0) (by omega))
  rcases Bool.eq_false_or_eq_true (pBe (CutP n (n.fst + (i : Int)) (rs.getD i crow0).xs)) with hb5 | hb5
  ·
   have h4i := h400 _ (zeh (es := rs) (i := i) (d := crow0) (by omega))
   rcases Bool.eq_false_or_eq_true (hasB ((rs.getD i crow0).xs) (n.fst + (i : Int))) with hb6 | hb6
   ·
    have h4i := h400 _ (zeh (es := rs) (i := i) (d := crow0) (by omega))
    refine zca 22 [[], [], [1], [], [2, 3], [], [], [5, 6], [7], [0, 4, 8], [9], [10], [11], [11], [11, 12, 13], [11, 14], [11], [11, 16], [11], [11, 17, 18], [11, 15, 19], [11, 20]] [23, 24, 25, 26, 27, 28, 29, 30, 31, 32, 33, 34, 35, 36, 37, 38, 39, 40, 41, 42, 43, 44] [.agg #[.int .i64 n.ins, n.sv, n.av, n.ov], .agg #[.int .i64 n.ins, n.sv, n.av, n.ov], .int .i64 n.fst, .int .i64 (i : Int), .int .i64 (n.fst + (i : Int)), v, .int .i64 (i : Int), elP v (((i : Int)).toNat * 1), (rs.getD i crow0).v, .bool true, .bool false, .bool false, v, .int .i64 (i : Int), elP v (((i : Int)).toNat * 1), (rs.getD i crow0).v, .agg #[.int .i64 n.ins, n.sv, n.av, n.ov], .int .i64 n.fst, .int .i64 (i : Int), .int .i64 (n.fst + (i : Int)), .bool true, .bool true] (by kernel_rfl) rfl ?_ ?_
    ·
     exact ⟨iaQ rfl (zao (cs := [.int .i64 n.ins, n.sv, n.av, n.ov]) rfl rfl rfl rfl rfl (zaj 0 rfl 0 rfl)) rfl, iaQ rfl (zao (cs := [.int .i64 n.ins, n.sv, n.av, n.ov]) rfl rfl rfl rfl rfl (zaj 0 rfl 0 rfl)) rfl, .inl ⟨rfl, zan rfl rfl (fun w hm => zau (zch n w (hr.below hm.bel) hn))⟩, iaQ rfl (zat rfl) rfl, iaQ rfl (vaQ rfl rfl rfl) rfl, iaQ rfl (zat rfl) rfl, iaQ rfl (zat rfl) rfl, iaQ rfl (riQ 1 rfl rfl rfl rfl (zae hv.row)) rfl, iaQ rfl (zar (u := (rs.getD i crow0).v) rfl rfl rfl (zae hv.row) (zcr crowC (fun r => r.v) (fun _ => rfl) rs crow0 (show i < _ by omega))) rfl, .inl ⟨rfl, zge (zan (by kernel_rfl) rfl (fun w hm => zau (CutOkE_ans n (n.fst + (i : Int)) (rs.getD i crow0).xs _ w (hr.below hm.bel) hn ((hv.at (k := i) (by omega)).below hm.bel) (by omega) (by omega)))) hb5⟩, iaQ rfl (zat rfl) rfl, iaQ rfl (zat rfl) rfl, iaQ rfl (zat rfl) rfl, iaQ rfl (zat rfl) rfl, iaQ rfl (riQ 1 rfl rfl rfl rfl (zae hv.row)) rfl, iaQ rfl (zar (u := (rs.getD i crow0).v) rfl rfl rfl (zae hv.row) (zcr crowC (fun r => r.v) (fun _ => rfl) rs crow0 (show i < _ by omega))) rfl, iaQ rfl (zao (cs := [.int .i64 n.ins, n.sv, n.av, n.ov]) rfl rfl rfl rfl rfl (zaj 0 rfl 0 rfl)) rfl, .inl ⟨rfl, zan rfl rfl (fun w hm => zau (zch n w (hr.below hm.bel) hn))⟩, iaQ rfl (zat rfl) rfl, iaQ rfl (vaQ rfl rfl rfl) rfl, .inl ⟨rfl, zge (zan (by kernel_rfl) rfl (fun w hm => zau (zdy ((rs.getD i crow0).xs) (n.fst + (i : Int)) _ w ((zae (hv.at (k := i) (by omega))) w hm) (by omega)))) hb6⟩, iaQ rfl (zat rfl) rfl, trivial⟩
    simp only [List.drop_succ_cons, List.drop_zero]
    refine ntQ (zak rfl (zbd 1 rfl ?_))
    refine zaw (zaq ?_)
    refine zgp ?_
    refine zaq (zap ?_)
    exact zbi rfl rfl (congrArg Value.bool (pBe_no (p := MapP n rs) (fun h => by have h9 := h.cut i (by omega); first | (exact absurd (pBe_yes h9.1) (by rw [show pBe (CutP n (n.fst + (i : Int)) (rs.getD i crow0).xs) = false by assumption]; decide)) | (exact absurd h9.2 (by rw [show hasB (rs.getD i crow0).xs (n.fst + (i : Int)) = true by assumption]; decide)))).symm)
   have h4i := h400 _ (zeh (es := rs) (i := i) (d := crow0) (by omega))
   refine zca 22 [[], [], [1], [], [2, 3], [], [], [5, 6], [7], [0, 4, 8], [9], [10], [11], [11], [11, 12, 13], [11, 14], [11], [11, 16], [11], [11, 17, 18], [11, 15, 19], [11, 20]] [23, 24, 25, 26, 27, 28, 29, 30, 31, 32, 33, 34, 35, 36, 37, 38, 39, 40, 41, 42, 43, 44] [.agg #[.int .i64 n.ins, n.sv, n.av, n.ov], .agg #[.int .i64 n.ins, n.sv, n.av, n.ov], .int .i64 n.fst, .int .i64 (i : Int), .int .i64 (n.fst + (i : Int)), v, .int .i64 (i : Int), elP v (((i : Int)).toNat * 1), (rs.getD i crow0).v, .bool true, .bool false, .bool false, v, .int .i64 (i : Int), elP v (((i : Int)).toNat * 1), (rs.getD i crow0).v, .agg #[.int .i64 n.ins, n.sv, n.av, n.ov], .int .i64 n.fst, .int .i64 (i : Int), .int .i64 (n.fst + (i : Int)), .bool false, .bool false] (by kernel_rfl) rfl ?_ ?_
   ·
    exact ⟨iaQ rfl (zao (cs := [.int .i64 n.ins, n.sv, n.av, n.ov]) rfl rfl rfl rfl rfl (zaj 0 rfl 0 rfl)) rfl, iaQ rfl (zao (cs := [.int .i64 n.ins, n.sv, n.av, n.ov]) rfl rfl rfl rfl rfl (zaj 0 rfl 0 rfl)) rfl, .inl ⟨rfl, zan rfl rfl (fun w hm => zau (zch n w (hr.below hm.bel) hn))⟩, iaQ rfl (zat rfl) rfl, iaQ rfl (vaQ rfl rfl rfl) rfl, iaQ rfl (zat rfl) rfl, iaQ rfl (zat rfl) rfl, iaQ rfl (riQ 1 rfl rfl rfl rfl (zae hv.row)) rfl, iaQ rfl (zar (u := (rs.getD i crow0).v) rfl rfl rfl (zae hv.row) (zcr crowC (fun r => r.v) (fun _ => rfl) rs crow0 (show i < _ by omega))) rfl, .inl ⟨rfl, zge (zan (by kernel_rfl) rfl (fun w hm => zau (CutOkE_ans n (n.fst + (i : Int)) (rs.getD i crow0).xs _ w (hr.below hm.bel) hn ((hv.at (k := i) (by omega)).below hm.bel) (by omega) (by omega)))) hb5⟩, iaQ rfl (zat rfl) rfl, iaQ rfl (zat rfl) rfl, iaQ rfl (zat rfl) rfl, iaQ rfl (zat rfl) rfl, iaQ rfl (riQ 1 rfl rfl rfl rfl (zae hv.row)) rfl, iaQ rfl (zar (u := (rs.getD i crow0).v) rfl rfl rfl (zae hv.row) (zcr crowC (fun r => r.v) (fun _ => rfl) rs crow0 (show i < _ by omega))) rfl, iaQ rfl (zao (cs := [.int .i64 n.ins, n.sv, n.av, n.ov]) rfl rfl rfl rfl rfl (zaj 0 rfl 0 rfl)) rfl, .inl ⟨rfl, zan rfl rfl (fun w hm => zau (zch n w (hr.below hm.bel) hn))⟩, iaQ rfl (zat rfl) rfl, iaQ rfl (vaQ rfl rfl rfl) rfl, .inl ⟨rfl, zge (zan (by kernel_rfl) rfl (fun w hm => zau (zdy ((rs.getD i crow0).xs) (n.fst + (i : Int)) _ w ((zae (hv.at (k := i) (by omega))) w hm) (by omega)))) hb6⟩, iaQ rfl (zat rfl) rfl, trivial⟩
   simp only [List.drop_succ_cons, List.drop_zero]
   refine ntQ (fsQ rfl (zco (reQ 1 rfl (hvQ rfl (vaQ rfl rfl rfl) (enQ 1 rfl ?_)))))
   exact zcx (i + 1) ⟨by omega, fun j hj => by by_cases e : j = i; (subst e; exact ⟨of_pBe (by assumption), by assumption⟩); exact hel j (by omega)⟩ (by omega) (saQ rfl) (pfQ rfl)
  have h4i := h400 _ (zeh (es := rs) (i := i) (d := crow0) (by omega))
  refine zca 22 [[], [], [1], [], [2, 3], [], [], [5, 6], [7], [0, 4, 8], [9], [10], [11], [11], [11], [11], [11], [11], [11], [11], [11], [11, 20]] [23, 24, 25, 26, 27, 28, 29, 30, 31, 32, 33, 34, 35, 36, 37, 38, 39, 40, 41, 42, 43, 44] [.agg #[.int .i64 n.ins, n.sv, n.av, n.ov], .agg #[.int .i64 n.ins, n.sv, n.av, n.ov], .int .i64 n.fst, .int .i64 (i : Int), .int .i64 (n.fst + (i : Int)), v, .int .i64 (i : Int), elP v (((i : Int)).toNat * 1), (rs.getD i crow0).v, .bool false, .bool true, .bool true, undef, undef, undef, undef, undef, undef, undef, undef, undef, .bool true] (by kernel_rfl) rfl ?_ ?_
  ·
   exact ⟨iaQ rfl (zao (cs := [.int .i64 n.ins, n.sv, n.av, n.ov]) rfl rfl rfl rfl rfl (zaj 0 rfl 0 rfl)) rfl, iaQ rfl (zao (cs := [.int .i64 n.ins, n.sv, n.av, n.ov]) rfl rfl rfl rfl rfl (zaj 0 rfl 0 rfl)) rfl, .inl ⟨rfl, zan rfl rfl (fun w hm => zau (zch n w (hr.below hm.bel) hn))⟩, iaQ rfl (zat rfl) rfl, iaQ rfl (vaQ rfl rfl rfl) rfl, iaQ rfl (zat rfl) rfl, iaQ rfl (zat rfl) rfl, iaQ rfl (riQ 1 rfl rfl rfl rfl (zae hv.row)) rfl, iaQ rfl (zar (u := (rs.getD i crow0).v) rfl rfl rfl (zae hv.row) (zcr crowC (fun r => r.v) (fun _ => rfl) rs crow0 (show i < _ by omega))) rfl, .inl ⟨rfl, zge (zan (by kernel_rfl) rfl (fun w hm => zau (CutOkE_ans n (n.fst + (i : Int)) (rs.getD i crow0).xs _ w (hr.below hm.bel) hn ((hv.at (k := i) (by omega)).below hm.bel) (by omega) (by omega)))) hb5⟩, iaQ rfl (zat rfl) rfl, iaQ rfl (zat rfl) rfl, .inr ⟨rfl, rfl⟩, .inr ⟨rfl, rfl⟩, .inr ⟨rfl, rfl⟩, .inr ⟨rfl, rfl⟩, .inr ⟨rfl, rfl⟩, .inr ⟨rfl, rfl⟩, .inr ⟨rfl, rfl⟩, .inr ⟨rfl, rfl⟩, .inr ⟨rfl, rfl⟩, iaQ rfl (zat rfl) rfl, trivial⟩
  simp only [List.drop_succ_cons, List.drop_zero]
  refine ntQ (zak rfl (zbd 1 rfl ?_))
  refine zaw (zaq ?_)
  refine zgp ?_
  refine zaq (zap ?_)
  exact zbi rfl rfl (congrArg Value.bool (pBe_no (p := MapP n rs) (fun h => by have h9 := h.cut i (by omega); first | (exact absurd (pBe_yes h9.1) (by rw [show pBe (CutP n (n.fst + (i : Int)) (rs.getD i crow0).xs) = false by assumption]; decide)) | (exact absurd h9.2 (by rw [show hasB (rs.getD i crow0).xs (n.fst + (i : Int)) = true by assumption]; decide)))).symm)
 refine ntQ (zal rfl ?_)
 refine zaz (zds ?_)
 refine zag (zav (zbd 1 rfl ?_))
 exact zaw (zbi rfl rfl (congrArg Value.bool (pBe_yes (p := MapP n rs) ⟨by omega, fun j hj => hel j (by omega)⟩).symm))
theorem CutTableE_ret (n : Nt) (node : Int) (cut : List Int) (cv : Value) (w : World) (hr : RdsNt w n) (hn : NtOk n) (hcr : RdsW w cv 1 cut.length (cut.map (Value.int .i64))) (hnd : 0 ≤ node ∧ node < n.cnt) (hcp : CutP n node cut) :
   Calls Try.prog 100 #[.agg #[.int .i64 n.ins, n.sv, n.av, n.ov], .int .i64 node, cv] w (Ret w (fun u_ p_ => ∃ b : Int, u_ = .agg #[.int .i64 (cut.length : Int), .int .i64 b] ∧ p_ = [] ∧ TabOk (Tab.mk (cut.length : Int) b))) := by
 have hi0 := hn.i0
 have hi1 := hn.i1
 have hs1 := hn.s1
 have ha1 := hn.a1
 have ho1 := hn.o1
 have hcnt : n.cnt = 1 + n.ins + n.ss.length + n.gs.length := rfl
 have hfst : n.fst = 1 + n.ins + n.ss.length := rfl
 have hcl4 := hcp.len
 have hpn := pn_rng (n := (cut.length : Int)) (by omega)
 refine zbl (N := 96) (args := [.agg #[.int .i64 n.ins, n.sv, n.av, n.ov], .int .i64 node, cv]) Try.func100 rfl rfl (srQ ?_)
 refine zdt rfl (zcm rfl rfl) ?_
 intro b1
 refine zdt rfl (zbw (z := .agg #[.int .i64 0, .int .i64 0]) rfl rfl) ?_
 intro b2
 refine ntQ (zfc (hvQ rfl (zao (cs := [.int .i64 n.ins, n.sv, n.av, n.ov]) rfl rfl rfl rfl rfl (zaj 1 rfl 0 rfl)) (zam 2 rfl ?_)))
 refine zdp rfl (zan rfl rfl (fun w hm => zau (by have h9 := CutOkE_ans n node cut cv w (hr.below hm.bel) hn (hcr.below hm.bel) hnd (by omega); rw [pBe_yes hcp] at h9; exact h9))) (zam 1 rfl (zbr (zav (zal rfl (zfh (zav (zaa (zay (zam 1 rfl (hvQ rfl (lnQ rfl rfl rfl (zae hcr)) (hvQ rfl (zcq (cs := #[.int .i64 (cut.length : Int), .int .i64 0]) rfl rfl rfl) ?_)))))))))))
 refine zdt rfl (zbw (z := .agg #[.int .i64 0, .int .i64 0]) rfl rfl) ?_
 intro b3
 refine zcd (cs' := #[.int .i64 (cut.length : Int), .int .i64 0]) (i := 0) (off := 0) (us := [.int .i64 (cut.length : Int), .int .i64 0]) rfl rfl rfl rfl rfl rfl rfl (zah rfl (zah rfl zbp)) rfl rfl rfl (ntQ (zaa (zbd 1 rfl (zax ?_))))
 refine lkQ2 (α := Nat) (β := Int) [0, 1, 2, 3, 6, 7, 18] rfl (fun i b => [boxE b3 #[.int .i64 (cut.length : Int), .int .i64 b] 110, boxE b2 #[.int .i64 0, .int .i64 0] 110, boxE b1 #[.int .i64 n.ins, n.sv, n.av, n.ov] 86]) (fun i b => [(8, .int .i64 (i : Int))]) (fun i b => i ≤ pn (cut.length : Int) ∧ 0 ≤ b ∧ b < 2 ^ i) (fun i b => pn (cut.length : Int) - i) 0 0 ⟨Nat.zero_le _, Int.le_refl _, by decide⟩ (saQ rfl) (pfQ rfl) ?_
 intro i b hi4
 obtain ⟨hi, hb0, hb1⟩ := hi4
 have hp16 := pow16 (k := i) (by omega)
 refine zaa (zaa (zay (zam 2 rfl (hvQ rfl (lnQ rfl rfl rfl (zae hcr)) (hvQ rfl (rv_shlG (k := .i64) (kk := .i64) (r := (pn (cut.length : Int) : Int)) rfl rfl rfl rfl (by omega) (wr1 (by omega))) ?_)))))
 refine zbk rfl rfl rfl rfl rfl rfl (fun h5 => ?_) (fun h5 => ?_)
 ·
  refine ntQ (zak rfl (zcn (sbQ (srQ (hvQ rfl (zao (cs := [.int .i64 n.ins, n.sv, n.av, n.ov]) rfl rfl rfl rfl rfl (zaj 2 rfl 0 rfl)) ?_)))))
  refine zdp rfl (zan rfl rfl (fun w hm => zau (zbz n w (hr.below hm.bel) hn))) (zdi rfl (zej (z := .int .i64 0) (s := 1) (bytes := 8) (n := (List.replicate (n.cnt).toNat (0 : Int)).length) (cs := ((List.replicate (n.cnt).toNat (0 : Int)).map (Value.int .i64))) rfl Try.underlying28 rfl (by decide) rfl rfl (by first | (rw [List.length_replicate]; done) | (rw [List.length_replicate]; omega)) (by first | (rw [List.length_replicate]; done) | (rw [List.length_replicate]; omega)) (by rw [List.length_replicate]; omega) (zez _)) ?_)
  intro g6
  refine zba 1 rfl (zaa (zbd 1 rfl (zax ?_)))
  refine lkQ2 (α := Nat) (β := List Int) [0, 1, 2, 3, 6, 7, 8, 9, 18, 27] rfl (fun k vs => [rowE 3 1 (.slice (some ⟨g6, 0, none⟩) ((List.replicate (n.cnt).toNat (0 : Int)).length) ((List.replicate (n.cnt).toNat (0 : Int)).length)) vs.length (vs.map (Value.int .i64)), boxE b3 #[.int .i64 (cut.length : Int), .int .i64 b] 110, boxE b2 #[.int .i64 0, .int .i64 0] 110, boxE b1 #[.int .i64 n.ins, n.sv, n.av, n.ov] 86]) (fun k vs => [(10, .int .i64 (k : Int))]) (fun k vs => (k : Int) ≤ node + 1 ∧ vs.length = n.cnt.toNat ∧ B01 vs) (fun k vs => node.toNat + 1 - k) 0 _ ⟨by omega, by rw [List.length_replicate], b01_rep _⟩ (saQ rfl) (pfQ rfl) ?_
  intro k vs hi7
  obtain ⟨hk, hvl, hv01⟩ := hi7
  refine zaa (zaa (reQ 2 rfl ?_))
  refine hl_leq rfl rfl rfl rfl rfl rfl (fun h8 => ?_) (fun h8 => ?_)
  ·
   refine ntQ (zak rfl (zcn (sbQ (zbd 1 rfl ?_))))
   refine zaa (zbd 1 rfl (zax ?_))
   refine lkQ3 (α := Nat) (β := List Int) (γ := Bool) [0, 1, 2, 3, 6, 7, 8, 9, 10, 18, 27, 35] rfl (fun j vs2 sb => [rowE 3 1 (.slice (some ⟨g6, 0, none⟩) ((List.replicate (n.cnt).toNat (0 : Int)).length) ((List.replicate (n.cnt).toNat (0 : Int)).length)) vs2.length (vs2.map (Value.int .i64)), boxE b3 #[.int .i64 (cut.length : Int), .int .i64 b] 110, boxE b2 #[.int .i64 0, .int .i64 0] 110, boxE b1 #[.int .i64 n.ins, n.sv, n.av, n.ov] 86]) (fun j vs2 sb => [(11, .bool sb), (12, .int .i64 (j : Int))]) (fun j vs2 sb => j ≤ cut.length ∧ vs2.length = n.cnt.toNat ∧ B01 vs2) (fun j vs2 sb => cut.length - j) 0 vs false ⟨Nat.zero_le _, hvl, hv01⟩ (saQ rfl) (pfQ rfl) ?_
   intro j vs2 sb hi9
   obtain ⟨hj, hvl2, hv02⟩ := hi9
   refine zaa (zaa (reQ 2 rfl (hvQ rfl (lnQ rfl rfl rfl (zae hcr)) ?_)))
   refine zbk rfl rfl rfl rfl rfl rfl (fun h10 => ?_) (fun h10 => ?_)
   ·
    refine ntQ (zak rfl (zcn (sbQ (zaa (reQ 2 rfl (hvQ rfl (riQ 1 rfl rfl rfl rfl (zae hcr)) (hvQ rfl (liQ rfl rfl rfl (zae hcr)) (zam 1 rfl ?_))))))))
    refine zby rfl rfl rfl rfl rfl rfl (fun h11 => ?_) (fun h11 => ?_)
    ·
     refine (zbr (zav (zak rfl (zaa (zay (zam 4 rfl (hvQ rfl (rv_shr rfl rfl rfl (by omega)) (hvQ rfl (zgj rfl (by decide) rfl rfl (r := ((i : Int) / 2 ^ ((j : Int)).toNat % 2)) (andB _ (by omega))) (hvQ rfl (riQ 1 rfl rfl rfl rfl (zac 0 rfl)) ?_)))))))))
     refine zcu (i := 0) (n' := (vs2.set k ((i : Int) / 2 ^ ((j : Int)).toNat % 2)).length) (xs' := ((vs2.set k ((i : Int) / 2 ^ ((j : Int)).toNat % 2)).map (Value.int .i64))) rfl rfl rfl rfl rfl rfl rfl rfl (by first | omega | (simp only [List.length_set]; omega)) List.length_set.symm (zcv _ _ _) rfl (ntQ (zay (enQ 1 rfl (zco (reQ 1 rfl (hvQ rfl (vaQ rfl rfl rfl) (zam 1 rfl (?_))))))))
     exact zbr (zbh (j + 1) (vs2.set k ((i : Int) / 2 ^ ((j : Int)).toNat % 2)) true ⟨by omega, by rw [List.length_set]; exact hvl2, b01_set hv02 (by omega)⟩ (by omega) (saQ rfl) (pfQ rfl))
    refine ntQ (fsQ rfl (zco (reQ 1 rfl (hvQ rfl (vaQ rfl rfl rfl) (enQ 1 rfl ?_)))))
    exact zbh (j + 1) vs2 sb ⟨by omega, hvl2, hv02⟩ (by omega) (saQ rfl) (pfQ rfl)
   refine ntQ (zal rfl ?_)
   refine zaz (zds ?_)
   refine zag (zav (zaa (reQ 1 rfl ?_)))
   refine zbx (fun h12 => ?_) (fun h12 => ?_)
   ·
    refine zba 7 rfl (fsQ rfl (zco (reQ 1 rfl ?_)))
    refine hvQ rfl (vaQ rfl rfl rfl) (enQ 1 rfl ?_)
    exact zbg (k + 1) vs2 ⟨by omega, hvl2, hv02⟩ (by omega) (saQ rfl) (pfQ rfl)
   refine zam 3 rfl (hvQ rfl (zao (cs := [.int .i64 n.ins, n.sv, n.av, n.ov]) rfl rfl rfl rfl rfl (zaj 3 rfl 0 rfl)) ?_)
   refine zdp rfl (zan rfl rfl (fun w hm => zau (zch n w (hr.below hm.bel) hn))) (zdo rfl rfl rfl rfl rfl rfl (fun h13 => ?_) (fun h13 => ?_))
   ·
    refine zba 1 rfl (zak rfl (zaa ?_))
    have hani := hn.an ((k : Int) - n.fst).toNat (by omega)
    unfold LtOk at hani
    refine zdg rfl 9 [0, 1, 2, 3, 4, 5, 6, 7, 8] (List.take 9 _) (List.drop 9 _) [[], [0], [], [], [3], [2, 4], [1, 5], [6], []] [65, 66, 67, 68, 69, 70, 71, 72, 13] (fun i_ vs_ v_ p_ => match i_ with | 0 => v_ = .pointer (some ⟨b1, 0 + 2, none⟩) ∧ p_ = [] | 1 => v_ = n.av ∧ p_ = [] | 2 => v_ = .int .i64 (k : Int) ∧ p_ = [] | 3 => v_ = .agg #[.int .i64 n.ins, n.sv, n.av, n.ov] ∧ p_ = [] | 4 => v_ = .int .i64 n.fst ∧ p_ = [] | 5 => v_ = .int .i64 ((k : Int) - n.fst) ∧ p_ = [] | 6 => v_ = elP n.av (((k : Int) - n.fst).toNat * 2) ∧ p_ = [] | 7 => v_ = .agg #[.int .i64 ((n.gs.getD (((k : Int) - n.fst).toNat) an0).a), .int .i64 ((n.gs.getD (((k : Int) - n.fst).toNat) an0).b)] ∧ p_ = [] | 8 => IsBox #[.int .i64 0, .int .i64 0] 126 v_ p_ | _ => True) (List.take_append_drop 9 _).symm (by kernel_rfl) (by kernel_rfl) rfl rfl ?_ ?_
    ·
     refine ⟨?_, ?_, ?_, ?_, ?_, ?_, ?_, ?_, ?_, trivial⟩
     ·
      intro vf pf hR
      exact ovQ rfl (zai [3] rfl) (zbe (fdQ 2 rfl rfl rfl))
     ·
      intro vf pf hR
      have e0 := hR 0 (by decide)
      exact olQ rfl (sk 65 (congrArg some e0.1) (zad _)) (zbe (zaf rfl rfl rfl (zab 3 rfl rfl)))
     ·
      intro vf pf hR
      exact ovQ rfl (zai [10] rfl) (zbe (zat rfl))
     ·
      intro vf pf hR
      exact olQ rfl (zai [3] rfl) (zbe (zao (cs := [.int .i64 n.ins, n.sv, n.av, n.ov]) rfl rfl rfl rfl rfl (zaj 3 rfl 0 rfl)))
     ·
      intro vf pf hR
      have e3 := hR 3 (by decide)
      exact olQ rfl (sk 68 (congrArg some e3.1) (zad _)) (zan rfl rfl (fun w hm => zau (zch n w (hr.below hm.bel) hn)))
     ·
      intro vf pf hR
      have e2 := hR 2 (by decide)
      have e4 := hR 4 (by decide)
      exact ovQ rfl (sk 67 (congrArg some e2.1) (sk 69 (congrArg some e4.1) (zad _))) (zbe (vsQ rfl rfl rfl))
     ·
      intro vf pf hR
      have e1 := hR 1 (by decide)
      have e5 := hR 5 (by decide)
      exact olQ rfl (sk 66 (congrArg some e1.1) (sk 70 (congrArg some e5.1) (zad _))) (zbe (riQ 2 rfl rfl rfl rfl (zae hr.an)))
     ·
      intro vf pf hR
      have e6 := hR 6 (by decide)
      exact olQ rfl (sk 71 (congrArg some e6.1) (zad _)) (zbe (zcg (us := [.int .i64 ((n.gs.getD (((k : Int) - n.fst).toNat) an0).a), .int .i64 ((n.gs.getD (((k : Int) - n.fst).toNat) an0).b)]) rfl rfl rfl rfl (zae hr.an) (by omega) rfl (zcw anC 2 (fun _ => rfl) n.gs an0 (show ((k : Int) - n.fst).toNat < _ by omega) rfl)))
     intro vf pf hR
     exact olQ rfl (zad _) (zbw (z := .agg #[.int .i64 0, .int .i64 0]) rfl rfl)
    intro vf pf hR
    have e7 := hR 7 (by decide)
    have e8 : IsBox #[.int .i64 0, .int .i64 0] 126 (vf 8) (pf 8) := hR 8 (by decide)
    obtain ⟨b14, vE8, pE8⟩ := e8
    have q0 := hR 0 (by decide)
    have q1 := hR 1 (by decide)
    have q2 := hR 2 (by decide)
    have q3 := hR 3 (by decide)
    have q4 := hR 4 (by decide)
    have q5 := hR 5 (by decide)
    have q6 := hR 6 (by decide)
    have q7 := hR 7 (by decide)
    refine zck (zbj [12, 11, 10, 9, 8, 7, 6, 3, 2, 1, 0] _ (sk 13 (congrArg some vE8) (zbj [64, 41, 35, 27, 18] _ (sk 72 (congrArg some e7.1) (zad _)) rfl)) rfl) (by simp only [pE8, vE8, q0.2, q1.2, q2.2, q3.2, q4.2, q5.2, q6.2, q7.2, fS] <;> rfl) ?_
    simp only [List.drop_succ_cons, List.drop_zero]
    refine zcd (cs' := #[.int .i64 ((n.gs.getD (((k : Int) - n.fst).toNat) an0).a), .int .i64 ((n.gs.getD (((k : Int) - n.fst).toNat) an0).b)]) (i := 0) (off := 0) (us := [.int .i64 ((n.gs.getD (((k : Int) - n.fst).toNat) an0).a), .int .i64 ((n.gs.getD (((k : Int) - n.fst).toNat) an0).b)]) rfl rfl rfl rfl rfl rfl rfl (zah rfl (zah rfl zbp)) rfl rfl rfl (ntQ ?_)
    refine zca 12 [[], [], [], [], [3], [2, 4], [], [], [7], [6, 8], [5, 9], [0, 1]] [73, 74, 75, 76, 77, 78, 79, 80, 81, 82, 83, 84] [.slice (some ⟨g6, 0, none⟩) ((List.replicate (n.cnt).toNat (0 : Int)).length) ((List.replicate (n.cnt).toNat (0 : Int)).length), .int .i64 (k : Int), .slice (some ⟨g6, 0, none⟩) ((List.replicate (n.cnt).toNat (0 : Int)).length) ((List.replicate (n.cnt).toNat (0 : Int)).length), .pointer (some ⟨b14, 0 + 0, none⟩), .int .i64 ((n.gs.getD (((k : Int) - n.fst).toNat) an0).a), .int .i64 (bitL vs2 ((n.gs.getD (((k : Int) - n.fst).toNat) an0).a)), .slice (some ⟨g6, 0, none⟩) ((List.replicate (n.cnt).toNat (0 : Int)).length) ((List.replicate (n.cnt).toNat (0 : Int)).length), .pointer (some ⟨b14, 0 + 1, none⟩), .int .i64 ((n.gs.getD (((k : Int) - n.fst).toNat) an0).b), .int .i64 (bitL vs2 ((n.gs.getD (((k : Int) - n.fst).toNat) an0).b)), .int .i64 ((bitL vs2 ((n.gs.getD (((k : Int) - n.fst).toNat) an0).a)) * (bitL vs2 ((n.gs.getD (((k : Int) - n.fst).toNat) an0).b))), elP (.slice (some ⟨g6, 0, none⟩) ((List.replicate (n.cnt).toNat (0 : Int)).length) ((List.replicate (n.cnt).toNat (0 : Int)).length)) (((k : Int)).toNat * 1)] (by kernel_rfl) rfl ?_ ?_
    ·
     exact ⟨iaQ rfl (zat rfl) rfl, iaQ rfl (zat rfl) rfl, iaQ rfl (zat rfl) rfl, iaQ rfl (fdQ 0 rfl rfl rfl) rfl, iaQ rfl (zaf rfl rfl rfl (zab 0 rfl rfl)) rfl, .inl ⟨rfl, zan (by kernel_rfl) rfl (fun w hm => zau (l09Bit_ans vs2 ((n.gs.getD (((k : Int) - n.fst).toNat) an0).a) _ w ((zac 1 rfl) w hm) (by omega) (hv02 _ (by omega)) (by omega)))⟩, iaQ rfl (zat rfl) rfl, iaQ rfl (fdQ 1 rfl rfl rfl) rfl, iaQ rfl (zaf rfl rfl rfl (zab 0 rfl rfl)) rfl, .inl ⟨rfl, zan (by kernel_rfl) rfl (fun w hm => zau (l09Bit_ans vs2 ((n.gs.getD (((k : Int) - n.fst).toNat) an0).b) _ w ((zac 1 rfl) w hm) (by omega) (hv02 _ (by omega)) (by omega)))⟩, iaQ rfl (zgj rfl (by decide) rfl rfl (r := (bitL vs2 ((n.gs.getD (((k : Int) - n.fst).toNat) an0).a)) * (bitL vs2 ((n.gs.getD (((k : Int) - n.fst).toNat) an0).b))) (and01 (bit01 hv02 (by omega) (by omega)) (bit01 hv02 (by omega) (by omega)))) rfl, iaQ rfl (riQ 1 rfl rfl rfl rfl (zac 1 rfl)) rfl, trivial⟩
    simp only [List.drop_succ_cons, List.drop_zero]
    refine zcu (i := 1) (n' := (vs2.set k ((bitL vs2 ((n.gs.getD (((k : Int) - n.fst).toNat) an0).a)) * (bitL vs2 ((n.gs.getD (((k : Int) - n.fst).toNat) an0).b)))).length) (xs' := ((vs2.set k ((bitL vs2 ((n.gs.getD (((k : Int) - n.fst).toNat) an0).a)) * (bitL vs2 ((n.gs.getD (((k : Int) - n.fst).toNat) an0).b)))).map (Value.int .i64))) rfl rfl rfl rfl rfl rfl rfl rfl (by first | omega | (simp only [List.length_set]; omega)) List.length_set.symm (zcv _ _ _) rfl (zbr (zco (reQ 1 rfl (hvQ rfl (vaQ rfl rfl rfl) (enQ 1 rfl ?_)))))
    exact zbg (k + 1) (vs2.set k ((bitL vs2 ((n.gs.getD (((k : Int) - n.fst).toNat) an0).a)) * (bitL vs2 ((n.gs.getD (((k : Int) - n.fst).toNat) an0).b)))) ⟨by omega, by rw [List.length_set]; exact hvl2, b01_set hv02 (mul_01 (bit01 hv02 (by omega) (by omega)) (bit01 hv02 (by omega) (by omega)))⟩ (by omega) (saQ rfl) (slQ [1, 0, 0, 0] rfl)
   refine zba 1 rfl (fsQ rfl (zco (reQ 1 rfl (hvQ rfl (vaQ rfl rfl rfl) (enQ 1 rfl ?_)))))
   exact zbg (k + 1) vs2 ⟨by omega, hvl2, hv02⟩ (by omega) (saQ rfl) (pfQ rfl)
  refine ntQ (zal rfl ?_)
  refine zaz (zds ?_)
  refine zag (zav ?_)
  have hvb := hv01 (node).toNat (by omega)
  refine zca 10 [[], [0], [], [], [2, 3], [4], [], [5, 6], [1, 7], []] [85, 86, 87, 88, 89, 90, 91, 92, 93, 94] [.pointer (some ⟨b3, 0 + 1, none⟩), .int .i64 b, .slice (some ⟨g6, 0, none⟩) ((List.replicate (n.cnt).toNat (0 : Int)).length) ((List.replicate (n.cnt).toNat (0 : Int)).length), .int .i64 node, elP (.slice (some ⟨g6, 0, none⟩) ((List.replicate (n.cnt).toNat (0 : Int)).length) ((List.replicate (n.cnt).toNat (0 : Int)).length)) ((node).toNat * 1), .int .i64 (vs.getD ((node).toNat) 0), .int .i64 (i : Int), .int .i64 ((vs.getD (node).toNat 0) * 2 ^ i), .int .i64 (b + ((vs.getD (node).toNat 0) * 2 ^ i)), .pointer (some ⟨b3, 0 + 1, none⟩)] (by kernel_rfl) rfl ?_ ?_
  ·
   exact ⟨iaQ rfl (fdQ 1 rfl rfl rfl) rfl, iaQ rfl (zaf rfl rfl rfl (zab 1 rfl rfl)) rfl, iaQ rfl (zat rfl) rfl, iaQ rfl (zat rfl) rfl, iaQ rfl (riQ 1 rfl rfl rfl rfl (zac 0 rfl)) rfl, iaQ rfl (lzQ rfl rfl rfl (zac 0 rfl)) rfl, iaQ rfl (zat rfl) rfl, iaQ rfl (rv_shlG (k := .i64) (kk := .i64) (r := (vs.getD (node).toNat 0) * 2 ^ i) rfl rfl rfl rfl (by omega) (shl_bitE hvb (by omega))) rfl, iaQ rfl (rv_add rfl rfl rfl (by rcases hvb with e9 | e9 <;> rw [e9] <;> constructor <;> omega)) rfl, iaQ rfl (fdQ 1 rfl rfl rfl) rfl, trivial⟩
  simp only [List.drop_succ_cons, List.drop_zero]
  refine zfj (i := 1) (cs' := #[.int .i64 (cut.length : Int), .int .i64 (b + ((vs.getD (node).toNat 0) * 2 ^ i))]) rfl rfl rfl rfl rfl rfl rfl rfl rfl rfl rfl (zbr (zco (reQ 1 rfl (hvQ rfl (vaQ rfl rfl rfl) (enQ 1 rfl ?_)))))
  exact zbg (i + 1) (b + ((vs.getD (node).toNat 0) * 2 ^ i)) ⟨by omega, (bits_next ⟨hb0, hb1⟩ hvb).1, (bits_next ⟨hb0, hb1⟩ hvb).2⟩ (by omega) (saQ rfl) (slQ [1, 0, 0] rfl)
 refine ntQ (zal rfl ?_)
 refine zaz (zds ?_)
 refine zag (zav (zaa (zay (hvQ rfl (zao (cs := [.int .i64 (cut.length : Int), .int .i64 b]) rfl rfl rfl rfl rfl (zaj 0 rfl 0 rfl)) ?_))))
 refine zcd (cs' := #[.int .i64 (cut.length : Int), .int .i64 b]) (i := 1) (off := 0) (us := [.int .i64 (cut.length : Int), .int .i64 b]) rfl rfl rfl rfl rfl rfl rfl (zah rfl (zah rfl zbp)) rfl rfl rfl (ntQ ?_)
 exact zaw (zdb (rs := [.cell 6 110]) (vs := [.agg #[.int .i64 (cut.length : Int), .int .i64 b]]) (post := []) rfl ⟨⟨b2, 0, [.int .i64 (cut.length : Int), .int .i64 b], rfl, rfl, by kernel_rfl, by kernel_rfl, zaj 1 rfl 0 rfl⟩, trivial⟩ rfl (slQ [] rfl) ⟨b, rfl, rfl, bits_all (by omega) (by omega) ⟨hb0, hb1⟩⟩)
def ndL (to xs : List Int) : List Int := xs.map fun x => to.getD x.toNat 0
theorem ndL_len (to xs : List Int) : (ndL to xs).length = xs.length := by simp [ndL]
theorem ndL_at {to xs : List Int} {j : Nat} (h : j < xs.length) : (ndL to xs).getD j 0 = to.getD (xs.getD j 0).toNat 0 := by
  unfold ndL; rw [List.getD_eq_getElem?_getD, List.getElem?_map, List.getElem?_eq_getElem h, List.getD_eq_getElem?_getD (l := xs), List.getElem?_eq_getElem h]; rfl
def rtN (to no : List Int) (l : Int) : Int := if l % 2 = 0 then to.getD (l / 2).toNat 0 else no.getD (l / 2).toNat 0
def rtL (to no ls : List Int) : List Int := ls.map (rtN to no)
theorem rtL_len (to no xs : List Int) : (rtL to no xs).length = xs.length := by simp [rtL]
theorem rtN_even {to no : List Int} {l : Int} (h : l % 2 = 0) : rtN to no l = to.getD (l / 2).toNat 0 := if_pos h
theorem rtN_odd {to no : List Int} {l : Int} (h : ¬ l % 2 = 0) : rtN to no l = no.getD (l / 2).toNat 0 := if_neg h
abbrev On (bs : List Bl) (k : Int) : Prop := (bs.getD k.toNat bl0).b = true
theorem on_set {bs : List Bl} {k : Int} {j : Nat} (h : On bs k) : On (bs.set j ⟨true⟩) k := by
  unfold On at *
  by_cases e : j = k.toNat
  · subst e
    by_cases hl : k.toNat < bs.length
    · rw [zeb hl]
    · rw [List.set_eq_of_length_le (by omega)]; exact h
  · rw [List.getD_eq_getElem?_getD, List.getElem?_set_ne e, ← List.getD_eq_getElem?_getD]; exact h
theorem on_new {bs : List Bl} {k : Int} {j : Nat} (hj : j = k.toNat) (h : j < bs.length) : On (bs.set j ⟨true⟩) k := by
  subst hj; unfold On; rw [zeb h]
theorem on_old {bs : List Bl} {k : Int} {j : Nat} (hj : j ≠ k.toNat) (h : On (bs.set j ⟨true⟩) k) : On bs k := by
  unfold On at *
  rwa [List.getD_eq_getElem?_getD, List.getElem?_set_ne hj, ← List.getD_eq_getElem?_getD] at h
def RtU (pos neg : List Bl) (l : Int) : Prop := (l % 2 = 0 → On pos (l / 2)) ∧ (¬ l % 2 = 0 → On neg (l / 2))
theorem RtU.pos {pos neg : List Bl} {l : Int} (h : RtU pos neg l) (j : Nat) : RtU (pos.set j ⟨true⟩) neg l := ⟨fun e => on_set (h.1 e), h.2⟩
theorem RtU.neg {pos neg : List Bl} {l : Int} (h : RtU pos neg l) (j : Nat) : RtU pos (neg.set j ⟨true⟩) l := ⟨h.1, fun e => on_set (h.2 e)⟩
def RtsU (pos neg : List Bl) (R : List Int) (k : Nat) : Prop := ∀ j, j < k → RtU pos neg (R.getD j 0)
theorem RtsU.even {pos neg : List Bl} {R : List Int} {k : Nat} (h : RtsU pos neg R k) {j : Nat} (hj : j = (R.getD k 0 / 2).toNat) (hl : j < pos.length) (he : R.getD k 0 % 2 = 0) : RtsU (pos.set j ⟨true⟩) neg R (k + 1) := fun q hq => by
  by_cases e : q = k
  · subst e; exact ⟨fun _ => on_new hj hl, fun h9 => absurd he h9⟩
  · exact (h q (by omega)).pos j
theorem RtsU.odd {pos neg : List Bl} {R : List Int} {k : Nat} (h : RtsU pos neg R k) {j : Nat} (hj : j = (R.getD k 0 / 2).toNat) (hl : j < neg.length) (he : ¬ R.getD k 0 % 2 = 0) : RtsU pos (neg.set j ⟨true⟩) R (k + 1) := fun q hq => by
  by_cases e : q = k
  · subst e; exact ⟨fun h9 => absurd h9 he, fun _ => on_new hj hl⟩
  · exact (h q (by omega)).neg j
theorem RtsU.set {pos neg : List Bl} {R : List Int} {k : Nat} (h : RtsU pos neg R k) (j : Nat) : RtsU (pos.set j ⟨true⟩) neg R k := fun q hq => (h q hq).pos j
def UseP (f : Int) (rs : List CRow) (pos neg : List Bl) (q : Nat) : Prop := (On pos (f + q) ∨ On neg (f + q)) → ∀ k, k < (rs.getD q crow0).xs.length → On pos ((rs.getD q crow0).xs.getD k 0)
theorem UseP.set {f : Int} {rs : List CRow} {pos neg : List Bl} {q : Nat} (h : UseP f rs pos neg q) {j : Nat} (hj : j ≠ (f + q).toNat) : UseP f rs (pos.set j ⟨true⟩) neg q := fun h9 k hk => on_set (h (h9.imp (on_old hj) id) k hk)
def TosOk (pos : List Bl) (f : Int) (L : Nat) (tos : List Int) : Prop := ∀ j, j < tos.length → ((j : Int) < f ∨ On pos j) → 0 ≤ tos.getD j 0 ∧ tos.getD j 0 < f + L
theorem TosOk.nil (pos : List Bl) (f : Int) : TosOk pos f 0 [] := fun j hj => absurd hj (by simp)
theorem TosOk.app {pos : List Bl} {f x : Int} {L L' : Nat} {tos : List Int} (h : TosOk pos f L tos) (hl : L ≤ L') (hx : ((tos.length : Int) < f ∨ On pos tos.length) → 0 ≤ x ∧ x < f + L') : TosOk pos f L' (tos ++ [x]) := fun j hj hp => by
  rw [List.length_append, List.length_singleton] at hj
  by_cases e : j < tos.length
  · rw [zet e]; have := h j e hp; omega
  · have e2 : j = tos.length := by omega
    subst e2
    rw [zeu (Nat.le_refl _), Nat.sub_self]; exact hx hp
theorem TosOk.up {pos : List Bl} {f : Int} {L L' : Nat} {tos : List Int} (h : TosOk pos f L tos) (hl : L ≤ L') : TosOk pos f L' tos := fun j hj hp => by have := h j hj hp; omega
def NosOk (neg : List Bl) (f : Int) (L k : Nat) (nos : List Int) : Prop := ∀ j, j < k → On neg j → 0 ≤ nos.getD j 0 ∧ nos.getD j 0 < f + L
theorem NosOk.skip {neg : List Bl} {f : Int} {L k : Nat} {nos : List Int} (h : NosOk neg f L k nos) (hn : (neg.getD k bl0).b = false) : NosOk neg f L (k + 1) nos := fun j hj ho => by
  by_cases e : j = k
  · subst e; unfold On at ho; rw [Int.toNat_natCast, hn] at ho; cases ho
  · exact h j (by omega) ho
theorem NosOk.put {neg : List Bl} {f x : Int} {L L' k : Nat} {nos : List Int} (h : NosOk neg f L k nos) (hk : k < nos.length) (hl : L ≤ L') (hx : 0 ≤ x ∧ x < f + L') : NosOk neg f L' (k + 1) (nos.set k x) := fun j hj ho => by
  by_cases e : j = k
  · subst e; rw [zeb hk]; exact hx
  · rw [List.getD_eq_getElem?_getD, List.getElem?_set_ne (by omega), ← List.getD_eq_getElem?_getD]
    have := h j (by omega) ho; omega
def LutsOk (f : Int) (ls : List Lt) : Prop := ∀ i, i < ls.length → LutP (f + i) (ls.getD i lt0)
theorem LutsOk.nil (f : Int) : LutsOk f [] := fun i hi => absurd hi (by simp)
theorem LutsOk.app {f : Int} {ls : List Lt} {x : Lt} (h : LutsOk f ls) (hx : LutP (f + ls.length) x) : LutsOk f (ls ++ [x]) := fun j hj => by
  rw [List.length_append, List.length_singleton] at hj
  by_cases e : j < ls.length
  · rw [zet e]; exact h j e
  · have e2 : j = ls.length := by omega
    subst e2
    rw [zeu (Nat.le_refl _), Nat.sub_self]; exact hx
theorem tabP_of {t : Tab} (h : TabOk t) {n : Int} (hn : t.N = n) : TabP n t.B := by subst hn; exact h
theorem LutP.one {f k : Int} {v : Value} (h0 : 0 ≤ k) (h1 : k < f) : LutP f (Lt.mk v [k] 1) := ⟨⟨by simp, fun j hj => by
  have : j = 0 := by simp at hj; omega
  subst this; exact ⟨h0, h1⟩⟩, by show TabP 1 1; unfold TabP; decide⟩
theorem LutP.none {f : Int} {v : Value} : LutP f (Lt.mk v [] 1) := ⟨⟨by simp, fun j hj => absurd hj (by simp)⟩, by show TabP 0 1; unfold TabP; decide⟩
theorem below_nd {pos : List Bl} {f : Int} {L : Nat} {tos xs : List Int} (h : TosOk pos f L tos) (hx : ∀ k, k < xs.length → 0 ≤ xs.getD k 0 ∧ xs.getD k 0 < tos.length) (ho : ∀ k, k < xs.length → On pos (xs.getD k 0)) : BelowP (ndL tos xs) (f + L) := fun j hj => by
  rw [ndL_len] at hj
  rw [ndL_at hj]
  have h1 := hx j hj
  have h2 := ho j hj
  exact h _ (by omega) (.inr (by unfold On at *; rwa [Int.toNat_natCast]))
theorem ndL_app {tos xs : List Int} {x : Int} (hx : ∀ k, k < xs.length → 0 ≤ xs.getD k 0 ∧ xs.getD k 0 < tos.length) : ndL (tos ++ [x]) xs = ndL tos xs := by
  unfold ndL
  refine List.map_congr_left fun y hy => ?_
  obtain ⟨i, hi, rfl⟩ := List.mem_iff_getElem.1 hy
  have := hx i hi
  rw [List.getD_eq_getElem?_getD, List.getElem?_eq_getElem hi] at this
  exact zet (by simp only [Option.getD_some] at this; omega)
theorem lutP_mk {t : Tab} {f : Int} {v : Value} {xs : List Int} (ht : TabOk t) (hn : t.N = xs.length) (h4 : xs.length ≤ 4) (hb : BelowP xs f) : LutP f (Lt.mk v xs t.B) := ⟨⟨h4, hb⟩, tabP_of ht hn⟩
theorem below_rt {pos neg : List Bl} {f c : Int} {L : Nat} {tos nos ls : List Int} (h : TosOk pos f L tos) (h2 : NosOk neg f L nos.length nos) (hl : (tos.length : Int) = c) (hl2 : (nos.length : Int) = c) (hx : ∀ l ∈ ls, LtOk l c ∧ RtU pos neg l) : BelowP (rtL tos nos ls) (f + L) := fun j hj => by
  rw [rtL_len] at hj
  have h9 := hx _ (zbs (d := (0 : Int)) hj)
  have e : (rtL tos nos ls).getD j 0 = rtN tos nos (ls.getD j 0) := by
    unfold rtL; rw [List.getD_eq_getElem?_getD, List.getElem?_map, List.getElem?_eq_getElem hj, List.getD_eq_getElem?_getD (l := ls), List.getElem?_eq_getElem hj]; rfl
  rw [e]
  obtain ⟨h91, h92⟩ := h9
  unfold LtOk at h91
  by_cases he : ls.getD j 0 % 2 = 0
  · rw [rtN_even he]
    have := h92.1 he
    exact h _ (by omega) (.inr (by unfold On at *; rwa [Int.toNat_natCast]))
  · rw [rtN_odd he]
    have := h92.2 he
    exact h2 _ (by omega) (by unfold On at *; rwa [Int.toNat_natCast])
theorem RtsU.all {pos neg : List Bl} {R : List Int} (h : RtsU pos neg R R.length) : ∀ l ∈ R, RtU pos neg l := fun l hl => by
  obtain ⟨i, hi, rfl⟩ := List.mem_iff_getElem.1 hl
  have := h i hi
  rwa [List.getD_eq_getElem?_getD, List.getElem?_eq_getElem hi] at this
theorem rts_os {n : Nt} {l : Int} (h : l ∈ n.os) : l ∈ rtsL n n.ss.length := by unfold rtsL; exact List.mem_append.2 (.inl h)
theorem rts_sq {n : Nt} {s : Sq} (hs : s ∈ n.ss) {l : Int} (h : l ∈ s.xs) : l ∈ rtsL n n.ss.length := by
  unfold rtsL; rw [List.take_length]; exact List.mem_append.2 (.inr (List.mem_flatMap.2 ⟨s, hs, h⟩))
def RdsLuts (w : World) (ls : List Lt) : Prop := ∀ r ∈ ls, RdsW w r.iv 1 r.xs.length (r.xs.map (Value.int .i64))
theorem RdsLuts.nil (w : World) : RdsLuts w [] := fun r hr => by cases hr
theorem RdsLuts.app {w : World} {ls : List Lt} {r : Lt} (h : RdsLuts w ls) (hr : RdsW w r.iv 1 r.xs.length (r.xs.map (Value.int .i64))) : RdsLuts w (ls ++ [r]) := fun q hq => by
  rcases List.mem_append.1 hq with hq | hq
  · exact h q hq
  · rw [List.mem_singleton] at hq; subst hq; exact hr
def SqsN (c : Int) (ss : List Sq) : Prop := ∀ k, k < ss.length → SqOk (ss.getD k sq0) ∧ BelowP (ss.getD k sq0).xs c
theorem SqsN.nil (c : Int) : SqsN c [] := fun i hi => absurd hi (by simp)
theorem SqsN.app {c : Int} {ss : List Sq} {x : Sq} (h : SqsN c ss) (h1 : SqOk x) (h2 : BelowP x.xs c) : SqsN c (ss ++ [x]) := fun j hj => by
  rw [List.length_append, List.length_singleton] at hj
  by_cases e : j < ss.length
  · rw [zet e]; exact h j e
  · have e2 : j = ss.length := by omega
    subst e2
    rw [zeu (Nat.le_refl _), Nat.sub_self]; exact ⟨h1, h2⟩
theorem sqOk_len {s : Sq} (h : SqOk s) {xs : List Int} (hl : xs.length = s.xs.length) (v : Value) : SqOk (Sq.mk s.kd s.it v xs) := ⟨by rw [show (Sq.mk s.kd s.it v xs).xs.length = s.xs.length from hl]; exact h.kind⟩
def ln00 : Ln := Ln.mk 0 (.slice none 0 0) (.slice none 0 0) (.slice none 0 0) [] [] []
theorem ln00_ok : LnOk ln00 := ⟨⟨by decide, by decide, by decide, by decide⟩, fun j hj => absurd hj (by simp [ln00]), fun j hj => absurd hj (by simp [ln00]), fun j hj => absurd hj (by simp [ln00])⟩
theorem ln_mk {n : Nt} {sv lv ov : Value} {ss : List Sq} {ls : List Lt} {os : List Int} (hn : NtOk n) (hs : ss.length = n.ss.length) (hl : ls.length ≤ 400) (ho : os.length ≤ 16) (h1 : BelowP os (n.fst + ls.length)) (h2 : SqsN (n.fst + ls.length) ss) (h3 : LutsOk n.fst ls) : LnOk (Ln.mk n.ins sv lv ov ss ls os) := by
  have e1 : (Ln.mk n.ins sv lv ov ss ls os).cnt = n.fst + ls.length := by show 1 + n.ins + (ss.length : Int) + ls.length = 1 + n.ins + (n.ss.length : Int) + ls.length; rw [hs]
  have e2 : (Ln.mk n.ins sv lv ov ss ls os).fst = n.fst := by show 1 + n.ins + (ss.length : Int) = 1 + n.ins + (n.ss.length : Int); rw [hs]
  exact ⟨⟨⟨hn.i0, hn.i1⟩, by rw [hs]; exact hn.s1, hl, ho⟩, by rw [e1]; exact h1, fun k hk => by rw [e1]; exact h2 k hk, fun i hi => by rw [e2]; exact h3 i hi⟩
theorem built_lutT (x0 : Value) (x1 : Int) (h0 : x0.oneCell' = true) : Try.prog.built 107 [(0, x0), (1, .int .i64 x1)] = some #[x0, .int .i64 x1] := by
  (cases x0 <;> first | (exact absurd h0 Bool.false_ne_true) | kernel_rfl)
theorem l20Nodes_ret (to xs : List Int) (u v : Value) (w : World) (hu : RdsW w u 1 to.length (to.map (Value.int .i64))) (hv : RdsW w v 1 xs.length (xs.map (Value.int .i64))) (hx : ∀ k, k < xs.length → 0 ≤ xs.getD k 0 ∧ xs.getD k 0 < to.length) (hl : xs.length ≤ 1000) :
   Calls Try.prog 101 #[u, v] w (Ret w (fun v' post => post = [rowE 3 1 v' ((ndL to xs)).length (((ndL to xs)).map (Value.int .i64))])) := by
 have hsu := sml hu
 refine zbl (N := 25) (args := [u, v]) Try.func101 rfl rfl (zbd 1 rfl (srQ ?_))
 refine zdi rfl (zcb (s := 1) rfl Try.underlying28 rfl) ?_
 intro g1
 refine zba 1 rfl (zaa (zbd 1 rfl (zax ?_)))
 refine lkQ3 (α := Nat) (β := Value) (γ := List Int) [0, 1, 4] rfl (fun i gu zs => [rowE 3 1 gu zs.length (zs.map (Value.int .i64))]) (fun i gu zs => [(5, gu), (6, .int .i64 (i : Int))]) (fun i gu zs => i ≤ xs.length ∧ zs = ndL to (xs.take i)) (fun i gu zs => xs.length - i) 0 _ [] ⟨by omega, rfl⟩ (saQ rfl) (pfQ rfl) ?_
 intro i gu zs hi2
 obtain ⟨hi, hz⟩ := hi2
 have hzl : zs.length = i := by rw [hz]; unfold ndL; rw [List.length_map, List.length_take]; omega
 refine zaa (zaa (reQ 2 rfl (hvQ rfl (lnQ rfl rfl rfl (zae hv)) ?_)))
 refine zbk rfl rfl rfl rfl rfl rfl (fun h3 => ?_) (fun h3 => ?_)
 ·
  refine ntQ (zak rfl (zcn (sbQ (zay ?_))))
  have hxi := hx i (by omega)
  refine zam 4 rfl (hvQ rfl (riQ 1 rfl rfl rfl rfl (zae hv)) (hvQ rfl (liQ rfl rfl rfl (zae hv)) (hvQ rfl (riQ 1 rfl rfl rfl rfl (zae hu)) (hvQ rfl (lzQ rfl rfl rfl (zae hu)) ?_))))
  refine zdi rfl (zas (z := .int .i64 0) (s := 1) (cs := ([to.getD ((xs.getD i 0).toNat) 0].map (Value.int .i64))) rfl Try.underlying28 rfl (by decide) rfl (by kernel_rfl) rfl) ?_
  intro g4
  refine zcf (i := 1) (z := .int .i64 0) (bytes := 8) rfl rfl rfl rfl Try.underlying28 (by kernel_rfl) rfl rfl rfl rfl (zac 0 rfl) (zbm _) (by first | omega | (simp; done) | (simp; omega)) (zbt zs ([to.getD ((xs.getD i 0).toNat) 0])) (zcl zs ([to.getD ((xs.getD i 0).toNat) 0])) (fun _ => rfl) ?_
  intro v5
  refine enQ 1 rfl (zco (reQ 1 rfl (hvQ rfl (vaQ rfl rfl rfl) (enQ 1 rfl ?_))))
  exact zbh (i + 1) v5 (zs ++ ([to.getD ((xs.getD i 0).toNat) 0])) ⟨by omega, by rw [hz]; unfold ndL; rw [zdx 0 (show i < xs.length by omega), List.map_append]; rfl⟩ (by omega) (saQ rfl) (slQ [1] rfl)
 refine ntQ (zal rfl ?_)
 refine zaz (zds ?_)
 refine zag (zav (zbd 2 rfl ?_))
 exact zaw (zcz (post := [rowE 3 1 gu zs.length (zs.map (Value.int .i64))]) rfl rfl (pfQ rfl) (by rw [hz, List.take_of_length_le (by omega)]))
theorem l20Roots_ret (to no xs : List Int) (u t v : Value) (w : World) (hu : RdsW w u 1 to.length (to.map (Value.int .i64))) (ht : RdsW w t 1 no.length (no.map (Value.int .i64))) (hv : RdsW w v 1 xs.length (xs.map (Value.int .i64))) (hx : ∀ k, k < xs.length → 0 ≤ xs.getD k 0 ∧ xs.getD k 0 < 2 * to.length) (hl : xs.length ≤ 1000) (hto : to.length ≤ 1000 ∧ no.length = to.length) :
   Calls Try.prog 103 #[u, t, v] w (Ret w (fun v' post => post = [rowE 3 1 v' ((rtL to no xs)).length (((rtL to no xs)).map (Value.int .i64))])) := by
 refine zbl (N := 45) (args := [u, t, v]) Try.func103 rfl rfl (zbd 1 rfl (srQ ?_))
 refine zdi rfl (zcb (s := 1) rfl Try.underlying28 rfl) ?_
 intro g1
 refine zba 1 rfl (zaa (zbd 1 rfl (zax ?_)))
 refine lkQ3 (α := Nat) (β := Value) (γ := List Int) [0, 1, 2, 6] rfl (fun i gu zs => [rowE 3 1 gu zs.length (zs.map (Value.int .i64))]) (fun i gu zs => [(7, gu), (8, .int .i64 (i : Int))]) (fun i gu zs => i ≤ xs.length ∧ zs = rtL to no (xs.take i)) (fun i gu zs => xs.length - i) 0 _ [] ⟨by omega, rfl⟩ (saQ rfl) (pfQ rfl) ?_
 intro i gu zs hi2
 obtain ⟨hi, hz⟩ := hi2
 have hzl : zs.length = i := by rw [hz]; unfold rtL; rw [List.length_map, List.length_take]; omega
 refine zaa (zaa (reQ 2 rfl (hvQ rfl (lnQ rfl rfl rfl (zae hv)) ?_)))
 refine zbk rfl rfl rfl rfl rfl rfl (fun h3 => ?_) (fun h3 => ?_)
 ·
  refine ntQ (zak rfl (zcn (sbQ (srQ ?_))))
  have hxi := hx i (by omega)
  refine zam 2 rfl (hvQ rfl (riQ 1 rfl rfl rfl rfl (zae hv)) (hvQ rfl (liQ rfl rfl rfl (zae hv)) (hvQ rfl (zgi rfl rfl rfl (by constructor <;> omega)) ?_)))
  refine zby rfl rfl rfl rfl rfl rfl (fun h4 => ?_) (fun h4 => ?_)
  ·
   refine ntQ (zak rfl (reQ 4 rfl (hvQ rfl (riQ 1 rfl rfl rfl rfl (zae hv)) (hvQ rfl (liQ rfl rfl rfl (zae hv)) ?_))))
   refine hvQ rfl (zee rfl rfl rfl (by refine ⟨?_, ?_, ?_⟩ <;> omega)) ?_
   refine hvQ rfl (riQ 1 rfl rfl rfl rfl (zae hu)) (hvQ rfl (lzQ rfl rfl rfl (zae hu)) ?_)
   refine zdi rfl (zas (z := .int .i64 0) (s := 1) (cs := ([to.getD (((xs.getD i 0) / 2).toNat) 0].map (Value.int .i64))) rfl Try.underlying28 rfl (by decide) rfl (by kernel_rfl) rfl) ?_
   intro g5
   refine zcf (i := 1) (z := .int .i64 0) (bytes := 8) rfl rfl rfl rfl Try.underlying28 (by kernel_rfl) rfl rfl rfl rfl (zac 0 rfl) (zbm _) (by first | omega | (simp; done) | (simp; omega)) (zbt zs ([to.getD (((xs.getD i 0) / 2).toNat) 0])) (zcl zs ([to.getD (((xs.getD i 0) / 2).toNat) 0])) (fun _ => rfl) ?_
   intro v6
   refine enQ 1 rfl (zco (reQ 1 rfl (hvQ rfl (vaQ rfl rfl rfl) (enQ 1 rfl ?_))))
   exact zbh (i + 1) v6 (zs ++ ([to.getD (((xs.getD i 0) / 2).toNat) 0])) ⟨by omega, by rw [hz]; unfold rtL; rw [zdx 0 (show i < xs.length by omega), List.map_append]; first | (rw [← rtN_even (to := to) (no := no) (by assumption)]; rfl) | (rw [← rtN_odd (to := to) (no := no) (by assumption)]; rfl)⟩ (by omega) (saQ rfl) (slQ [1] rfl)
  refine ntQ (zal rfl (reQ 4 rfl (hvQ rfl (riQ 1 rfl rfl rfl rfl (zae hv)) (hvQ rfl (liQ rfl rfl rfl (zae hv)) ?_))))
  refine hvQ rfl (zee rfl rfl rfl (by refine ⟨?_, ?_, ?_⟩ <;> omega)) ?_
  refine hvQ rfl (riQ 1 rfl rfl rfl rfl (zae ht)) (hvQ rfl (lzQ rfl rfl rfl (zae ht)) ?_)
  refine zdi rfl (zas (z := .int .i64 0) (s := 1) (cs := ([no.getD (((xs.getD i 0) / 2).toNat) 0].map (Value.int .i64))) rfl Try.underlying28 rfl (by decide) rfl (by kernel_rfl) rfl) ?_
  intro g7
  refine zcf (i := 1) (z := .int .i64 0) (bytes := 8) rfl rfl rfl rfl Try.underlying28 (by kernel_rfl) rfl rfl rfl rfl (zac 0 rfl) (zbm _) (by first | omega | (simp; done) | (simp; omega)) (zbt zs ([no.getD (((xs.getD i 0) / 2).toNat) 0])) (zcl zs ([no.getD (((xs.getD i 0) / 2).toNat) 0])) (fun _ => rfl) ?_
  intro v8
  refine enQ 1 rfl (zco (reQ 1 rfl (hvQ rfl (vaQ rfl rfl rfl) (enQ 1 rfl ?_))))
  exact zbh (i + 1) v8 (zs ++ ([no.getD (((xs.getD i 0) / 2).toNat) 0])) ⟨by omega, by rw [hz]; unfold rtL; rw [zdx 0 (show i < xs.length by omega), List.map_append]; first | (rw [← rtN_even (to := to) (no := no) (by assumption)]; rfl) | (rw [← rtN_odd (to := to) (no := no) (by assumption)]; rfl)⟩ (by omega) (saQ rfl) (slQ [1] rfl)
 refine ntQ (zal rfl ?_)
 refine zaz (zds ?_)
 refine zag (zav (zbd 2 rfl ?_))
 exact zaw (zcz (post := [rowE 3 1 gu zs.length (zs.map (Value.int .i64))]) rfl rfl (pfQ rfl) (by rw [hz, List.take_of_length_le (by omega)]))
theorem ToLuts_ret (n : Nt) (rs : List CRow) (v : Value) (w : World) (hr : RdsNt w n) (hn : NtOk n) (hv : RdsCl w v rs) (h400 : ∀ r ∈ rs, r.xs.length ≤ 400) (hg100 : n.gs.length ≤ 100) :
   Calls Try.prog 61 #[.agg #[.int .i64 n.ins, n.sv, n.av, n.ov], v] w (Ret w (fun u_ p_ => ∃ (ps : List HP) (m : Ln) (b : Bool), u_ = .tuple #[m.agg, .bool b] ∧ p_ = [bigE ps] ∧ (∀ w, (bigE ps).holds w → RdsLn w m) ∧ (m.sv.oneCell' = true ∧ m.lv.oneCell' = true ∧ m.ov.oneCell' = true) ∧ LnOk m)) := by
 have hi0 := hn.i0
 have hi1 := hn.i1
 have hs1 := hn.s1
 have ha1 := hn.a1
 have ho1 := hn.o1
 have hcnt : n.cnt = 1 + n.ins + n.ss.length + n.gs.length := rfl
 have hfst : n.fst = 1 + n.ins + n.ss.length := rfl
 have hrt := rts_len hn n.ss.length (Nat.le_refl _)
 refine zbl (N := 259) (args := [.agg #[.int .i64 n.ins, n.sv, n.av, n.ov], v]) Try.func61 rfl rfl (srQ ?_)
 refine zdt rfl (zcm rfl rfl) ?_
 intro b1
 refine zdt rfl (zbw (z := .agg #[.int .i64 0, .slice none 0 0, .slice none 0 0, .slice none 0 0]) rfl rfl) ?_
 intro b2
 refine zba 1 rfl (zfc (hvQ rfl (zao (cs := [.int .i64 n.ins, n.sv, n.av, n.ov]) rfl rfl rfl rfl rfl (zaj 1 rfl 0 rfl)) (zam 1 rfl ?_)))
 refine zdp rfl (zan rfl rfl (fun w hm => zau (MappingOk_ans n rs _ w (hr.below hm.bel) hn (hv.below hm.bel) h400))) (zbx (fun h3 => ?_) (fun h3 => ?_))
 ·
  have hmp := of_pBe h3
  have hmpl := hmp.len
  refine zba 1 rfl (zal rfl (zcn (srQ (hvQ rfl (zao (cs := [.int .i64 n.ins, n.sv, n.av, n.ov]) rfl rfl rfl rfl rfl (zaj 1 rfl 0 rfl)) ?_))))
  refine zdp rfl (zan rfl rfl (fun w hm => zau (zbz n w (hr.below hm.bel) hn))) (zba 1 rfl (srQ (hvQ rfl (zao (cs := [.int .i64 n.ins, n.sv, n.av, n.ov]) rfl rfl rfl rfl rfl (zaj 1 rfl 0 rfl)) ?_)))
  refine zdp rfl (zan rfl rfl (fun w hm => zau (zch n w (hr.below hm.bel) hn))) (zba 1 rfl (zaa (reQ 1 rfl ?_)))
  refine zdi rfl (zej (z := .bool false) (s := 1) (bytes := 1) (n := (List.replicate (n.cnt).toNat bl0).length) (cs := ((List.replicate (n.cnt).toNat bl0).flatMap blC)) rfl Try.underlying130 rfl (by decide) rfl rfl (by first | (rw [List.length_replicate]; done) | (rw [List.length_replicate]; omega)) (by first | (rw [List.length_replicate]; done) | (rw [List.length_replicate]; omega)) (by rw [List.length_replicate]; omega) (zfg blC 1 (fun _ => rfl) bl0 _ rfl (n.cnt).toNat)) ?_
  intro g4
  refine zba 1 rfl (zaa (reQ 1 rfl ?_))
  refine zdi rfl (zej (z := .bool false) (s := 1) (bytes := 1) (n := (List.replicate (n.cnt).toNat bl0).length) (cs := ((List.replicate (n.cnt).toNat bl0).flatMap blC)) rfl Try.underlying130 rfl (by decide) rfl rfl (by first | (rw [List.length_replicate]; done) | (rw [List.length_replicate]; omega)) (by first | (rw [List.length_replicate]; done) | (rw [List.length_replicate]; omega)) (by rw [List.length_replicate]; omega) (zfg blC 1 (fun _ => rfl) bl0 _ rfl (n.cnt).toNat)) ?_
  intro g5
  refine zba 1 rfl (srQ (hvQ rfl (zao (cs := [.int .i64 n.ins, n.sv, n.av, n.ov]) rfl rfl rfl rfl rfl (zaj 3 rfl 0 rfl)) ?_))
  refine zfu rfl rfl rfl (zan rfl rfl (fun w hm => l08Roots_ret n w (hr.below hm.bel) hn)) ?_
  intro v6 p7 hR8
  subst hR8
  refine zba 1 rfl (zaa (zbd 1 rfl (zax ?_)))
  refine lkQ3 (α := Nat) (β := List Bl) (γ := List Bl) [0, 1, 2, 4, 5, 6, 7, 8, 9, 10, 27] rfl (fun i ps ng => [rowE 3 1 v6 ((rtsL n n.ss.length).length) ((rtsL n n.ss.length).map (Value.int .i64)), rowE 4 1 (.slice (some ⟨g5, 0, none⟩) ((List.replicate (n.cnt).toNat bl0).length) ((List.replicate (n.cnt).toNat bl0).length)) ng.length (ng.flatMap blC), rowE 4 1 (.slice (some ⟨g4, 0, none⟩) ((List.replicate (n.cnt).toNat bl0).length) ((List.replicate (n.cnt).toNat bl0).length)) ps.length (ps.flatMap blC), boxE b2 #[.int .i64 0, .slice none 0 0, .slice none 0 0, .slice none 0 0] 30, boxE b1 #[.int .i64 n.ins, n.sv, n.av, n.ov] 86]) (fun i ps ng => [(11, .int .i64 (i : Int))]) (fun i ps ng => i ≤ (rtsL n n.ss.length).length ∧ ps.length = n.cnt.toNat ∧ ng.length = n.cnt.toNat ∧ RtsU ps ng (rtsL n n.ss.length) i) (fun i ps ng => (rtsL n n.ss.length).length - i) 0 _ _ ⟨Nat.zero_le _, by rw [List.length_replicate], by rw [List.length_replicate], fun j hj => absurd hj (Nat.not_lt_zero _)⟩ (saQ rfl) (pfQ rfl) ?_
  intro i ps ng hi9
  obtain ⟨hi, hpl, hnl, hru⟩ := hi9
  refine zaa (zaa (reQ 2 rfl (hvQ rfl (lnQ rfl rfl rfl (zac 0 rfl)) ?_)))
  refine zbk rfl rfl rfl rfl rfl rfl (fun h10 => ?_) (fun h10 => ?_)
  ·
   refine ntQ (zak rfl (zcn (sbQ (srQ ?_))))
   have hlk := rts_ok hn (i := i) (by omega)
   unfold LtOk at hlk
   refine zam 2 rfl (hvQ rfl (riQ 1 rfl rfl rfl rfl (zac 0 rfl)) (hvQ rfl (zar (u := .int .i64 ((rtsL n n.ss.length).getD i 0)) rfl rfl rfl (zac 0 rfl) (zbu (show _ < (rtsL n n.ss.length).length by omega))) (hvQ rfl (zgi rfl rfl rfl (by constructor <;> omega)) ?_)))
   refine zby rfl rfl rfl rfl rfl rfl (fun h11 => ?_) (fun h11 => ?_)
   ·
    refine ntQ (zak rfl (reQ 3 rfl (hvQ rfl (riQ 1 rfl rfl rfl rfl (zac 0 rfl)) (hvQ rfl (zar (u := .int .i64 ((rtsL n n.ss.length).getD i 0)) rfl rfl rfl (zac 0 rfl) (zbu (show _ < (rtsL n n.ss.length).length by omega))) ?_))))
    refine hvQ rfl (zee rfl rfl rfl (by refine ⟨?_, ?_, ?_⟩ <;> omega)) ?_
    refine hvQ rfl (riQ 1 rfl rfl rfl rfl (zac 2 rfl)) (zcu (i := 2) (n' := (ps.set ((((rtsL n n.ss.length).getD i 0) / 2).toNat) { ps.getD ((((rtsL n n.ss.length).getD i 0) / 2).toNat) bl0 with b := true }).length) rfl rfl rfl rfl rfl rfl rfl rfl (by first | omega | (simp only [List.length_set]; omega)) List.length_set.symm (zdh blC (fun r => .bool r.b) (fun _ => rfl) _ ({ ps.getD ((((rtsL n n.ss.length).getD i 0) / 2).toNat) bl0 with b := true }) rfl) rfl ?_)
    refine zbr (zco (reQ 1 rfl (hvQ rfl (vaQ rfl rfl rfl) (enQ 1 rfl ?_))))
    exact zbh (i + 1) (ps.set ((((rtsL n n.ss.length).getD i 0) / 2).toNat) { ps.getD ((((rtsL n n.ss.length).getD i 0) / 2).toNat) bl0 with b := true }) ng ⟨by omega, by rw [List.length_set]; exact hpl, hnl, hru.even rfl (by omega) (by assumption)⟩ (by omega) (saQ rfl) (pfQ rfl)
   refine ntQ (zal rfl (reQ 3 rfl (hvQ rfl (riQ 1 rfl rfl rfl rfl (zac 0 rfl)) (hvQ rfl (zar (u := .int .i64 ((rtsL n n.ss.length).getD i 0)) rfl rfl rfl (zac 0 rfl) (zbu (show _ < (rtsL n n.ss.length).length by omega))) ?_))))
   refine hvQ rfl (zee rfl rfl rfl (by refine ⟨?_, ?_, ?_⟩ <;> omega)) ?_
   refine hvQ rfl (riQ 1 rfl rfl rfl rfl (zac 1 rfl)) (zcu (i := 1) (n' := (ng.set ((((rtsL n n.ss.length).getD i 0) / 2).toNat) { ng.getD ((((rtsL n n.ss.length).getD i 0) / 2).toNat) bl0 with b := true }).length) rfl rfl rfl rfl rfl rfl rfl rfl (by first | omega | (simp only [List.length_set]; omega)) List.length_set.symm (zdh blC (fun r => .bool r.b) (fun _ => rfl) _ ({ ng.getD ((((rtsL n n.ss.length).getD i 0) / 2).toNat) bl0 with b := true }) rfl) rfl ?_)
   refine zbr (zco (reQ 1 rfl (hvQ rfl (vaQ rfl rfl rfl) (enQ 1 rfl ?_))))
   exact zbh (i + 1) ps (ng.set ((((rtsL n n.ss.length).getD i 0) / 2).toNat) { ng.getD ((((rtsL n n.ss.length).getD i 0) / 2).toNat) bl0 with b := true }) ⟨by omega, hpl, by rw [List.length_set]; exact hnl, hru.odd rfl (by omega) (by assumption)⟩ (by omega) (saQ rfl) (pfQ rfl)
  refine ntQ (zal rfl ?_)
  refine zaz (zds ?_)
  refine zag (zav (zaa (zaa (reQ 1 rfl (hvQ rfl (lnQ rfl rfl rfl (zae hv.row)) (hvQ rfl (vsQ rfl rfl rfl) (zba 1 rfl (zax ?_))))))))
  refine lkQ2 (α := Int) (β := List Bl) [0, 1, 2, 4, 5, 6, 7, 8, 9, 10, 27, 42] rfl (fun c9 p2 => [rowE 3 1 v6 ((rtsL n n.ss.length).length) ((rtsL n n.ss.length).map (Value.int .i64)), rowE 4 1 (.slice (some ⟨g5, 0, none⟩) ((List.replicate (n.cnt).toNat bl0).length) ((List.replicate (n.cnt).toNat bl0).length)) ng.length (ng.flatMap blC), rowE 4 1 (.slice (some ⟨g4, 0, none⟩) ((List.replicate (n.cnt).toNat bl0).length) ((List.replicate (n.cnt).toNat bl0).length)) p2.length (p2.flatMap blC), boxE b2 #[.int .i64 0, .slice none 0 0, .slice none 0 0, .slice none 0 0] 30, boxE b1 #[.int .i64 n.ins, n.sv, n.av, n.ov] 86]) (fun c9 p2 => [(12, .int .i64 c9)]) (fun c9 p2 => -1 ≤ c9 ∧ c9 < (rs.length : Int) ∧ p2.length = n.cnt.toNat ∧ RtsU p2 ng (rtsL n n.ss.length) (rtsL n n.ss.length).length ∧ ∀ q : Nat, c9 < q → q < rs.length → UseP n.fst rs p2 ng q) (fun c9 p2 => (c9 + 1).toNat) _ _ ⟨by omega, by omega, hpl, (by rw [show i = (rtsL n n.ss.length).length by omega] at hru; exact hru), fun q h1 h2 => absurd h1 (by omega)⟩ (saQ rfl) (pfQ rfl) ?_
  intro c9 p2 hi12
  obtain ⟨hc0, hc1, hpl2, hru2, hus2⟩ := hi12
  refine zaa (zaa (reQ 1 rfl ?_))
  refine zdo rfl rfl rfl rfl rfl rfl (fun h13 => ?_) (fun h13 => ?_)
  ·
   refine ntQ (zak rfl (zcn (sbQ (zbd 1 rfl ?_))))
   refine zax ?_
   refine lkQ2 (α := Nat) (β := List Bl) [0, 1, 2, 4, 5, 6, 7, 8, 9, 10, 12, 27, 42, 69] rfl (fun k9 p3 => [rowE 3 1 v6 ((rtsL n n.ss.length).length) ((rtsL n n.ss.length).map (Value.int .i64)), rowE 4 1 (.slice (some ⟨g5, 0, none⟩) ((List.replicate (n.cnt).toNat bl0).length) ((List.replicate (n.cnt).toNat bl0).length)) ng.length (ng.flatMap blC), rowE 4 1 (.slice (some ⟨g4, 0, none⟩) ((List.replicate (n.cnt).toNat bl0).length) ((List.replicate (n.cnt).toNat bl0).length)) p3.length (p3.flatMap blC), boxE b2 #[.int .i64 0, .slice none 0 0, .slice none 0 0, .slice none 0 0] 30, boxE b1 #[.int .i64 n.ins, n.sv, n.av, n.ov] 86]) (fun k9 p3 => [(13, .int .i64 (k9 : Int))]) (fun k9 p3 => k9 ≤ (rs.getD ((c9).toNat) crow0).xs.length ∧ p3.length = n.cnt.toNat ∧ RtsU p3 ng (rtsL n n.ss.length) (rtsL n n.ss.length).length ∧ (∀ q : Nat, c9 < q → q < rs.length → UseP n.fst rs p3 ng q) ∧ ∀ j, j < k9 → On p3 ((rs.getD ((c9).toNat) crow0).xs.getD j 0)) (fun k9 p3 => (rs.getD ((c9).toNat) crow0).xs.length - k9) 0 _ ⟨Nat.zero_le _, hpl2, hru2, hus2, fun j hj => absurd hj (Nat.not_lt_zero _)⟩ (saQ rfl) (pfQ rfl) ?_
   intro k9 p3 hi14
   obtain ⟨hk9, hpl3, hru3, hus3, hon⟩ := hi14
   have hx4 := h400 _ (zeh (es := rs) (i := c9.toNat) (d := crow0) (by omega))
   refine zaa (zaa (reQ 3 rfl (hvQ rfl (riQ 1 rfl rfl rfl rfl (zae hv.row)) ?_)))
   refine hvQ rfl (zar (u := (rs.getD ((c9).toNat) crow0).v) rfl rfl rfl (zae hv.row) (zcr crowC (fun r => r.v) (fun _ => rfl) rs crow0 (show (c9).toNat < _ by omega))) (hvQ rfl (lnQ rfl rfl rfl (zae (hv.at (k := ((c9).toNat)) (by omega)))) ?_)
   refine zbk rfl rfl rfl rfl rfl rfl (fun h15 => ?_) (fun h15 => ?_)
   ·
    refine zam 4 rfl (hvQ rfl (vaQ rfl rfl rfl) (hvQ rfl (riQ 1 rfl rfl rfl rfl (zac 2 rfl)) ?_))
    refine hvQ rfl (zar (u := .bool ((p3.getD ((n.fst + c9).toNat) bl0).b)) rfl rfl rfl (zac 2 rfl) (zcr blC (fun r => .bool r.b) (fun _ => rfl) p3 bl0 (show (n.fst + c9).toNat < _ by omega))) (zbx (fun h16 => ?_) (fun h16 => ?_))
    ·
     refine zba 9 rfl (zak rfl (zcn (sbQ (zay ?_))))
     have hbk := hmp.below hn (i := c9.toNat) (by omega) (k := k9) (by omega)
     refine zam 3 rfl (hvQ rfl (riQ 1 rfl rfl rfl rfl (zae hv.row)) ?_)
     refine hvQ rfl (zar (u := (rs.getD ((c9).toNat) crow0).v) rfl rfl rfl (zae hv.row) (zcr crowC (fun r => r.v) (fun _ => rfl) rs crow0 (show (c9).toNat < _ by omega))) (zam 1 rfl (hvQ rfl (riQ 1 rfl rfl rfl rfl (zae (hv.at (k := ((c9).toNat)) (by omega)))) (hvQ rfl (zar (u := .int .i64 (((rs.getD ((c9).toNat) crow0).xs).getD k9 0)) rfl rfl rfl (zae (hv.at (k := ((c9).toNat)) (by omega))) (zbu (show _ < ((rs.getD ((c9).toNat) crow0).xs).length by omega))) (hvQ rfl (riQ 1 rfl rfl rfl rfl (zac 2 rfl)) ?_))))
     refine zcu (i := 2) (n' := (p3.set ((((rs.getD ((c9).toNat) crow0).xs).getD k9 0).toNat) { p3.getD ((((rs.getD ((c9).toNat) crow0).xs).getD k9 0).toNat) bl0 with b := true }).length) rfl rfl rfl rfl rfl rfl rfl rfl (by first | omega | (simp only [List.length_set]; omega)) List.length_set.symm (zdh blC (fun r => .bool r.b) (fun _ => rfl) _ ({ p3.getD ((((rs.getD ((c9).toNat) crow0).xs).getD k9 0).toNat) bl0 with b := true }) rfl) rfl (zbr (zco (reQ 1 rfl (hvQ rfl (vaQ rfl rfl rfl) (enQ 1 rfl ?_)))))
     exact zbg (k9 + 1) (p3.set ((((rs.getD ((c9).toNat) crow0).xs).getD k9 0).toNat) { p3.getD ((((rs.getD ((c9).toNat) crow0).xs).getD k9 0).toNat) bl0 with b := true }) ⟨by omega, by rw [List.length_set]; exact hpl3, hru3.set _, fun q h1 h2 => (hus3 q h1 h2).set (by omega), fun j hj => by by_cases e : j = k9; (subst e; exact on_new rfl (by omega)); exact on_set (hon j (by omega))⟩ (by omega) (saQ rfl) (pfQ rfl)
    refine zam 4 rfl (hvQ rfl (vaQ rfl rfl rfl) (hvQ rfl (riQ 1 rfl rfl rfl rfl (zac 1 rfl)) ?_))
    refine hvQ rfl (zar (u := .bool ((ng.getD ((n.fst + c9).toNat) bl0).b)) rfl rfl rfl (zac 1 rfl) (zcr blC (fun r => .bool r.b) (fun _ => rfl) ng bl0 (show (n.fst + c9).toNat < _ by omega))) (zbx (fun h17 => ?_) (fun h17 => ?_))
    ·
     refine zba 2 rfl (zak rfl (zcn (sbQ (zay ?_))))
     have hbk := hmp.below hn (i := c9.toNat) (by omega) (k := k9) (by omega)
     refine zam 3 rfl (hvQ rfl (riQ 1 rfl rfl rfl rfl (zae hv.row)) ?_)
     refine hvQ rfl (zar (u := (rs.getD ((c9).toNat) crow0).v) rfl rfl rfl (zae hv.row) (zcr crowC (fun r => r.v) (fun _ => rfl) rs crow0 (show (c9).toNat < _ by omega))) (zam 1 rfl (hvQ rfl (riQ 1 rfl rfl rfl rfl (zae (hv.at (k := ((c9).toNat)) (by omega)))) (hvQ rfl (zar (u := .int .i64 (((rs.getD ((c9).toNat) crow0).xs).getD k9 0)) rfl rfl rfl (zae (hv.at (k := ((c9).toNat)) (by omega))) (zbu (show _ < ((rs.getD ((c9).toNat) crow0).xs).length by omega))) (hvQ rfl (riQ 1 rfl rfl rfl rfl (zac 2 rfl)) ?_))))
     refine zcu (i := 2) (n' := (p3.set ((((rs.getD ((c9).toNat) crow0).xs).getD k9 0).toNat) { p3.getD ((((rs.getD ((c9).toNat) crow0).xs).getD k9 0).toNat) bl0 with b := true }).length) rfl rfl rfl rfl rfl rfl rfl rfl (by first | omega | (simp only [List.length_set]; omega)) List.length_set.symm (zdh blC (fun r => .bool r.b) (fun _ => rfl) _ ({ p3.getD ((((rs.getD ((c9).toNat) crow0).xs).getD k9 0).toNat) bl0 with b := true }) rfl) rfl (zbr (zco (reQ 1 rfl (hvQ rfl (vaQ rfl rfl rfl) (enQ 1 rfl ?_)))))
     exact zbg (k9 + 1) (p3.set ((((rs.getD ((c9).toNat) crow0).xs).getD k9 0).toNat) { p3.getD ((((rs.getD ((c9).toNat) crow0).xs).getD k9 0).toNat) bl0 with b := true }) ⟨by omega, by rw [List.length_set]; exact hpl3, hru3.set _, fun q h1 h2 => (hus3 q h1 h2).set (by omega), fun j hj => by by_cases e : j = k9; (subst e; exact on_new rfl (by omega)); exact on_set (hon j (by omega))⟩ (by omega) (saQ rfl) (pfQ rfl)
    refine zba 2 rfl (zal rfl ?_)
    refine zaz (zds ?_)
    refine zag (zco (reQ 1 rfl (hvQ rfl (vsQ rfl rfl rfl) (enQ 1 rfl ?_))))
    exact zbg (c9 - 1) p3 ⟨by omega, by omega, hpl3, hru3, fun q h1 h2 => by by_cases e : q = c9.toNat; (subst e; intro h9; first | (exact fun k hk => hon k (by omega)) | (exfalso; revert h9; intro h9; exact absurd h9 (by intro h9; rw [show (Int.toNat c9 : Int) = c9 by omega] at h9; unfold On at h9; rcases h9 with h9 | h9; (rw [show (p3.getD (n.fst + c9).toNat bl0).b = false by assumption] at h9; cases h9); (rw [show (ng.getD (n.fst + c9).toNat bl0).b = false by assumption] at h9; cases h9)))); exact hus3 q (by omega) h2⟩ (by omega) (saQ rfl) (pfQ rfl)
   refine zba 16 rfl (zal rfl ?_)
   refine zaz (zds ?_)
   refine zag (zco (reQ 1 rfl (hvQ rfl (vsQ rfl rfl rfl) (enQ 1 rfl ?_))))
   exact zbg (c9 - 1) p3 ⟨by omega, by omega, hpl3, hru3, fun q h1 h2 => by by_cases e : q = c9.toNat; (subst e; intro h9; first | (exact fun k hk => hon k (by omega)) | (exfalso; revert h9; intro h9; exact absurd h9 (by intro h9; rw [show (Int.toNat c9 : Int) = c9 by omega] at h9; unfold On at h9; rcases h9 with h9 | h9; (rw [show (p3.getD (n.fst + c9).toNat bl0).b = false by assumption] at h9; cases h9); (rw [show (ng.getD (n.fst + c9).toNat bl0).b = false by assumption] at h9; cases h9)))); exact hus3 q (by omega) h2⟩ (by omega) (saQ rfl) (pfQ rfl)
  refine ntQ (zal rfl ?_)
  refine zaz (zds ?_)
  refine zag (zav (srQ (hvQ rfl (fdQ 0 rfl rfl rfl) (hvQ rfl (zaf rfl rfl rfl (zab 4 rfl rfl)) (hvQ rfl (zcq (cs := #[.int .i64 n.ins, .slice none 0 0, .slice none 0 0, .slice none 0 0]) rfl rfl rfl) ?_)))))
  refine zdt rfl (zbw (z := .agg #[.int .i64 0, .slice none 0 0, .slice none 0 0, .slice none 0 0]) rfl rfl) ?_
  intro b18
  refine zcd (cs' := #[.int .i64 n.ins, .slice none 0 0, .slice none 0 0, .slice none 0 0]) (i := 0) (off := 0) (us := [.int .i64 n.ins, .slice none 0 0, .slice none 0 0, .slice none 0 0]) rfl rfl rfl rfl rfl rfl rfl (zah rfl (zah rfl (zah rfl (zah rfl zbp)))) rfl rfl rfl (ntQ (srQ ?_))
  refine zdi rfl (zcb (s := 1) rfl Try.underlying28 rfl) ?_
  intro g19
  refine zba 1 rfl (zaa (reQ 1 rfl ?_))
  refine zdi rfl (zej (z := .int .i64 0) (s := 1) (bytes := 8) (n := (List.replicate (n.cnt).toNat (0 : Int)).length) (cs := ((List.replicate (n.cnt).toNat (0 : Int)).map (Value.int .i64))) rfl Try.underlying28 rfl (by decide) rfl rfl (by first | (rw [List.length_replicate]; done) | (rw [List.length_replicate]; omega)) (by first | (rw [List.length_replicate]; done) | (rw [List.length_replicate]; omega)) (by rw [List.length_replicate]; omega) (zez _)) ?_
  intro g20
  refine zba 1 rfl (zaa (zbd 1 rfl (zax ?_)))
  refine lkQ3 (α := Nat) (β := Value) (γ := List Int) [0, 1, 2, 4, 5, 6, 7, 8, 9, 10, 14, 16, 27, 42, 69] rfl (fun k1 u1 to1 => [rowE 3 1 (.slice (some ⟨g20, 0, none⟩) ((List.replicate (n.cnt).toNat (0 : Int)).length) ((List.replicate (n.cnt).toNat (0 : Int)).length)) ((List.replicate (n.cnt).toNat (0 : Int)).length) ((List.replicate (n.cnt).toNat (0 : Int)).map (Value.int .i64)), rowE 3 1 u1 to1.length (to1.map (Value.int .i64)), boxE b18 #[.int .i64 n.ins, .slice none 0 0, .slice none 0 0, .slice none 0 0] 30, rowE 3 1 v6 ((rtsL n n.ss.length).length) ((rtsL n n.ss.length).map (Value.int .i64)), rowE 4 1 (.slice (some ⟨g5, 0, none⟩) ((List.replicate (n.cnt).toNat bl0).length) ((List.replicate (n.cnt).toNat bl0).length)) ng.length (ng.flatMap blC), rowE 4 1 (.slice (some ⟨g4, 0, none⟩) ((List.replicate (n.cnt).toNat bl0).length) ((List.replicate (n.cnt).toNat bl0).length)) p2.length (p2.flatMap blC), boxE b2 #[.int .i64 0, .slice none 0 0, .slice none 0 0, .slice none 0 0] 30, boxE b1 #[.int .i64 n.ins, n.sv, n.av, n.ov] 86]) (fun k1 u1 to1 => [(15, u1), (17, .int .i64 (k1 : Int))]) (fun k1 u1 to1 => (k1 : Int) ≤ n.fst ∧ to1.length = k1 ∧ TosOk p2 n.fst 0 to1) (fun k1 u1 to1 => n.fst.toNat - k1) 0 _ [] ⟨by omega, rfl, TosOk.nil _ _⟩ (saQ rfl) (pfQ rfl) ?_
  intro k1 u1 to1 hi21
  obtain ⟨hk1, htl1, hto1⟩ := hi21
  refine zaa (zaa (reQ 2 rfl ?_))
  refine zbk rfl rfl rfl rfl rfl rfl (fun h22 => ?_) (fun h22 => ?_)
  ·
   refine ntQ (zak rfl (zcn (sbQ (reQ 2 rfl ?_))))
   refine zdi rfl (zas (z := .int .i64 0) (s := 1) (cs := ([(k1 : Int)].map (Value.int .i64))) rfl Try.underlying28 rfl (by decide) rfl (by kernel_rfl) rfl) ?_
   intro g23
   refine zcf (i := 2) (z := .int .i64 0) (bytes := 8) rfl rfl rfl rfl Try.underlying28 (by kernel_rfl) rfl rfl rfl rfl (zac 0 rfl) (zbm _) (by first | omega | (simp; done) | (simp; omega)) (zbt to1 ([(k1 : Int)])) (zcl to1 ([(k1 : Int)])) (fun _ => rfl) ?_
   intro v24
   refine enQ 1 rfl (zco (reQ 1 rfl (hvQ rfl (vaQ rfl rfl rfl) (enQ 1 rfl ?_))))
   exact zbh (k1 + 1) v24 (to1 ++ ([(k1 : Int)])) ⟨by omega, by rw [List.length_append, List.length_singleton]; omega, hto1.app (Nat.le_refl _) (fun _ => by omega)⟩ (by omega) (saQ rfl) (slQ [1, 0, 0, 0, 0, 0, 0, 0] rfl)
  refine ntQ (zal rfl ?_)
  refine zaz (zds ?_)
  refine zag (zav (zaa (zbd 1 rfl (zax ?_))))
  refine zfa [rowE 107 2 (.slice none 0 0) (([] : List Lt).length) (([] : List Lt).flatMap ltC), rowE 3 1 (.slice (some ⟨g20, 0, none⟩) ((List.replicate (n.cnt).toNat (0 : Int)).length) ((List.replicate (n.cnt).toNat (0 : Int)).length)) ((List.replicate (n.cnt).toNat (0 : Int)).length) ((List.replicate (n.cnt).toNat (0 : Int)).map (Value.int .i64)), rowE 3 1 u1 to1.length (to1.map (Value.int .i64)), boxE b18 #[.int .i64 n.ins, .slice none 0 0, .slice none 0 0, .slice none 0 0] 30, rowE 3 1 v6 ((rtsL n n.ss.length).length) ((rtsL n n.ss.length).map (Value.int .i64)), rowE 4 1 (.slice (some ⟨g5, 0, none⟩) ((List.replicate (n.cnt).toNat bl0).length) ((List.replicate (n.cnt).toNat bl0).length)) ng.length (ng.flatMap blC), rowE 4 1 (.slice (some ⟨g4, 0, none⟩) ((List.replicate (n.cnt).toNat bl0).length) ((List.replicate (n.cnt).toNat bl0).length)) p2.length (p2.flatMap blC), boxE b2 #[.int .i64 0, .slice none 0 0, .slice none 0 0, .slice none 0 0] 30, boxE b1 #[.int .i64 n.ins, n.sv, n.av, n.ov] 86] (fun w hm => hm.nilRow 107 2) ?_
  refine zfa [rowE 66 3 (.slice none 0 0) (([] : List Sq).length) (([] : List Sq).flatMap sqC), rowE 107 2 (.slice none 0 0) (([] : List Lt).length) (([] : List Lt).flatMap ltC), rowE 3 1 (.slice (some ⟨g20, 0, none⟩) ((List.replicate (n.cnt).toNat (0 : Int)).length) ((List.replicate (n.cnt).toNat (0 : Int)).length)) ((List.replicate (n.cnt).toNat (0 : Int)).length) ((List.replicate (n.cnt).toNat (0 : Int)).map (Value.int .i64)), rowE 3 1 u1 to1.length (to1.map (Value.int .i64)), boxE b18 #[.int .i64 n.ins, .slice none 0 0, .slice none 0 0, .slice none 0 0] 30, rowE 3 1 v6 ((rtsL n n.ss.length).length) ((rtsL n n.ss.length).map (Value.int .i64)), rowE 4 1 (.slice (some ⟨g5, 0, none⟩) ((List.replicate (n.cnt).toNat bl0).length) ((List.replicate (n.cnt).toNat bl0).length)) ng.length (ng.flatMap blC), rowE 4 1 (.slice (some ⟨g4, 0, none⟩) ((List.replicate (n.cnt).toNat bl0).length) ((List.replicate (n.cnt).toNat bl0).length)) p2.length (p2.flatMap blC), boxE b2 #[.int .i64 0, .slice none 0 0, .slice none 0 0, .slice none 0 0] 30, boxE b1 #[.int .i64 n.ins, n.sv, n.av, n.ov] 86] (fun w hm => hm.nilRow 66 3) ?_
  refine zfa _ zgg ?_
  refine lkQ4 (α := Nat) (β := List Int) (γ := List Lt) (δ := (Value × Value) × List HP) [0, 1, 2, 4, 5, 6, 7, 8, 9, 10, 14, 16, 27, 42, 69, 114] rfl (fun j2 to2 ls zt9 => [bigE zt9.2, rowE 66 3 (.slice none 0 0) (([] : List Sq).length) (([] : List Sq).flatMap sqC), rowE 107 2 zt9.1.2 ls.length (ls.flatMap ltC), rowE 3 1 (.slice (some ⟨g20, 0, none⟩) ((List.replicate (n.cnt).toNat (0 : Int)).length) ((List.replicate (n.cnt).toNat (0 : Int)).length)) ((List.replicate (n.cnt).toNat (0 : Int)).length) ((List.replicate (n.cnt).toNat (0 : Int)).map (Value.int .i64)), rowE 3 1 zt9.1.1 to2.length (to2.map (Value.int .i64)), boxE b18 #[.int .i64 n.ins, .slice none 0 0, zt9.1.2, .slice none 0 0] 30, rowE 4 1 (.slice (some ⟨g5, 0, none⟩) ((List.replicate (n.cnt).toNat bl0).length) ((List.replicate (n.cnt).toNat bl0).length)) ng.length (ng.flatMap blC), rowE 4 1 (.slice (some ⟨g4, 0, none⟩) ((List.replicate (n.cnt).toNat bl0).length) ((List.replicate (n.cnt).toNat bl0).length)) p2.length (p2.flatMap blC), boxE b2 #[.int .i64 0, .slice none 0 0, .slice none 0 0, .slice none 0 0] 30, boxE b1 #[.int .i64 n.ins, n.sv, n.av, n.ov] 86]) (fun j2 to2 ls zt9 => [(15, zt9.1.1), (18, .int .i64 (j2 : Int))]) (fun j2 to2 ls zt9 => j2 ≤ rs.length ∧ (to2.length : Int) = n.fst + (j2 : Int) ∧ ls.length ≤ j2 ∧ LutsOk n.fst ls ∧ TosOk p2 n.fst ls.length to2 ∧ ∀ w, (bigE zt9.2).holds w → RdsLuts w ls) (fun j2 to2 ls zt9 => rs.length - j2) 0 _ [] ((_, _), []) ⟨Nat.zero_le _, by omega, Nat.le_refl _, LutsOk.nil _, hto1, fun w _ => RdsLuts.nil w⟩ (saQ rfl) (slQ [0, 0, 0, 0, 0, 0, 1, 0, 0, 0] rfl) ?_
  intro j2 to2 ls zt9 hi25
  obtain ⟨hj2, htl2, hll, hlo, hto2, hbs⟩ := hi25
  refine zaa (zaa (reQ 2 rfl (hvQ rfl (lnQ rfl rfl rfl (zae hv.row)) ?_)))
  refine zbk rfl rfl rfl rfl rfl rfl (fun h26 => ?_) (fun h26 => ?_)
  ·
   refine ntQ (zak rfl (zcn (sbQ (zaa (reQ 2 rfl (hvQ rfl (fdQ 2 rfl rfl rfl) (hvQ rfl (zaf rfl rfl rfl (zab 5 rfl rfl)) (hvQ rfl (lnQ rfl rfl rfl (zac 2 rfl)) ?_))))))))
   refine hvQ rfl (vaQ rfl rfl rfl) (zdi rfl (zas (z := .int .i64 0) (s := 1) (cs := ([n.fst + (ls.length : Int)].map (Value.int .i64))) rfl Try.underlying28 rfl (by decide) rfl (by kernel_rfl) rfl) ?_)
   intro g27
   refine zcf (i := 5) (z := .int .i64 0) (bytes := 8) rfl rfl rfl rfl Try.underlying28 (by kernel_rfl) rfl rfl rfl rfl (zac 0 rfl) (zbm _) (by first | omega | (simp; done) | (simp; omega)) (zbt to2 ([n.fst + (ls.length : Int)])) (zcl to2 ([n.fst + (ls.length : Int)])) (fun _ => rfl) ?_
   intro v28
   refine zba 1 rfl (srQ ?_)
   have hcp := (hmp.cut j2 (by omega)).1
   have hcl4 := hcp.len
   have hbl9 : ∀ k, k < (rs.getD j2 crow0).xs.length → 0 ≤ (rs.getD j2 crow0).xs.getD k 0 ∧ (rs.getD j2 crow0).xs.getD k 0 < to2.length := fun k hk => by have := hmp.below hn (i := j2) (by omega) hk; omega
   refine zam 3 rfl (hvQ rfl (vaQ rfl rfl rfl) (hvQ rfl (riQ 1 rfl rfl rfl rfl (zac 8 rfl)) ?_))
   refine hvQ rfl (zar (u := .bool ((p2.getD ((n.fst + (j2 : Int)).toNat) bl0).b)) rfl rfl rfl (zac 8 rfl) (zcr blC (fun r => .bool r.b) (fun _ => rfl) p2 bl0 (show (n.fst + (j2 : Int)).toNat < _ by omega))) (zbx (fun h29 => ?_) (fun h29 => ?_))
   ·
    refine ntQ (zak rfl (zaa ?_))
    have huse := hus2 j2 (by omega) (by omega) (.inl (by assumption))
    refine zdg rfl 10 [0, 1, 2, 3, 4, 5, 6, 7, 8, 9] (List.take 10 _) (List.drop 10 _) [[], [], [], [1, 2], [], [], [4, 5], [6], [0, 3, 7], []] [141, 142, 143, 144, 145, 146, 147, 148, 149, 19] (fun i_ vs_ v_ p_ => match i_ with | 0 => v_ = .agg #[.int .i64 n.ins, n.sv, n.av, n.ov] ∧ p_ = [] | 1 => v_ = .int .i64 n.fst ∧ p_ = [] | 2 => v_ = .int .i64 (j2 : Int) ∧ p_ = [] | 3 => v_ = .int .i64 (n.fst + (j2 : Int)) ∧ p_ = [] | 4 => v_ = v ∧ p_ = [] | 5 => v_ = .int .i64 (j2 : Int) ∧ p_ = [] | 6 => v_ = elP v (((j2 : Int)).toNat * 1) ∧ p_ = [] | 7 => v_ = (rs.getD j2 crow0).v ∧ p_ = [] | 8 => (fun u_ p_ => ∃ b : Int, u_ = .agg #[.int .i64 (((rs.getD j2 crow0).xs).length : Int), .int .i64 b] ∧ p_ = [] ∧ TabOk (Tab.mk (((rs.getD j2 crow0).xs).length : Int) b)) v_ p_ | 9 => IsBox #[.int .i64 0, .int .i64 0] 110 v_ p_ | _ => True) (List.take_append_drop 10 _).symm (by kernel_rfl) (by kernel_rfl) rfl rfl ?_ ?_
    ·
     refine ⟨?_, ?_, ?_, ?_, ?_, ?_, ?_, ?_, ?_, ?_, trivial⟩
     ·
      intro vf pf hR
      exact olQ rfl (zai [2] rfl) (zbe (zao (cs := [.int .i64 n.ins, n.sv, n.av, n.ov]) rfl rfl rfl rfl rfl (zaj 10 rfl 0 rfl)))
     ·
      intro vf pf hR
      exact ovQ rfl (zai [7] rfl) (zbe (zat rfl))
     ·
      intro vf pf hR
      exact ovQ rfl (zai [18] rfl) (zbe (zat rfl))
     ·
      intro vf pf hR
      have e1 := hR 1 (by decide)
      have e2 := hR 2 (by decide)
      exact ovQ rfl (sk 142 (congrArg some e1.1) (sk 143 (congrArg some e2.1) (zad _))) (zbe (vaQ rfl rfl rfl))
     ·
      intro vf pf hR
      exact ovQ rfl (zai [1] rfl) (zbe (zat rfl))
     ·
      intro vf pf hR
      exact ovQ rfl (zai [18] rfl) (zbe (zat rfl))
     ·
      intro vf pf hR
      have e4 := hR 4 (by decide)
      have e5 := hR 5 (by decide)
      exact olQ rfl (sk 145 (congrArg some e4.1) (sk 146 (congrArg some e5.1) (zad _))) (zbe (riQ 1 rfl rfl rfl rfl (zae hv.row)))
     ·
      intro vf pf hR
      have e6 := hR 6 (by decide)
      exact olQ rfl (sk 147 (congrArg some e6.1) (zad _)) (zbe (zar (u := (rs.getD j2 crow0).v) rfl rfl rfl (zae hv.row) (zcr crowC (fun r => r.v) (fun _ => rfl) rs crow0 (show j2 < _ by omega))))
     ·
      intro vf pf hR
      have e0 := hR 0 (by decide)
      have e3 := hR 3 (by decide)
      have e7 := hR 7 (by decide)
      exact olQ rfl (sk 141 (congrArg some e0.1) (sk 144 (congrArg some e3.1) (sk 148 (congrArg some e7.1) (zad _)))) (zan rfl rfl (fun w hm => CutTableE_ret n (n.fst + (j2 : Int)) ((rs.getD j2 crow0).xs) _ w (hr.below hm.bel) hn ((zae (hv.at (k := j2) (by omega))) w hm) (by omega) hcp))
     intro vf pf hR
     exact olQ rfl (zad _) (zbw (z := .agg #[.int .i64 0, .int .i64 0]) rfl rfl)
    intro vf pf hR
    have e8 : (fun u_ p_ => ∃ b : Int, u_ = .agg #[.int .i64 (((rs.getD j2 crow0).xs).length : Int), .int .i64 b] ∧ p_ = [] ∧ TabOk (Tab.mk (((rs.getD j2 crow0).xs).length : Int) b)) (vf 8) (pf 8) := hR 8 (by decide)
    obtain ⟨v30, vE8⟩ : ∃ x, vf 8 = x := ⟨_, rfl⟩
    obtain ⟨p31, pE8⟩ : ∃ x, pf 8 = x := ⟨_, rfl⟩
    have hR32 := e8
    rw [vE8, pE8] at hR32
    obtain ⟨bq, rfl, rfl, hbq⟩ := hR32
    have e9 : IsBox #[.int .i64 0, .int .i64 0] 110 (vf 9) (pf 9) := hR 9 (by decide)
    obtain ⟨b33, vE9, pE9⟩ := e9
    have q0 := hR 0 (by decide)
    have q1 := hR 1 (by decide)
    have q2 := hR 2 (by decide)
    have q3 := hR 3 (by decide)
    have q4 := hR 4 (by decide)
    have q5 := hR 5 (by decide)
    have q6 := hR 6 (by decide)
    have q7 := hR 7 (by decide)
    refine zck (zbj [18, 16, 15, 14, 10, 9, 8, 7, 6, 5, 4, 2, 1, 0] _ (sk 19 (congrArg some vE9) (zbj [140, 124, 114, 69, 42, 27] _ (sk 149 (congrArg some vE8) (zad _)) rfl)) rfl) (by simp only [pE8, vE8, pE9, vE9, q0.2, q1.2, q2.2, q3.2, q4.2, q5.2, q6.2, q7.2, fS] <;> rfl) ?_
    simp only [List.drop_succ_cons, List.drop_zero]
    refine zcd (cs' := #[.int .i64 (((rs.getD j2 crow0).xs).length : Int), .int .i64 bq]) (i := 0) (off := 0) (us := [.int .i64 (((rs.getD j2 crow0).xs).length : Int), .int .i64 bq]) rfl rfl rfl rfl rfl rfl rfl (zah rfl (zah rfl zbp)) rfl rfl rfl (ntQ ?_)
    refine zdg rfl 12 [0, 1, 2, 3, 4, 5, 6, 7, 8, 9, 10, 11] (List.take 12 _) (List.drop 12 _) [[], [0], [], [], [], [3, 4], [5], [2, 6], [], [8], [7, 9], [7, 10]] [150, 151, 152, 153, 154, 155, 156, 157, 158, 159, 160, 161] (fun i_ vs_ v_ p_ => match i_ with | 0 => v_ = .pointer (some ⟨b18, 0 + 2, none⟩) ∧ p_ = [] | 1 => v_ = zt9.1.2 ∧ p_ = [] | 2 => v_ = v28 ∧ p_ = [] | 3 => v_ = v ∧ p_ = [] | 4 => v_ = .int .i64 (j2 : Int) ∧ p_ = [] | 5 => v_ = elP v (((j2 : Int)).toNat * 1) ∧ p_ = [] | 6 => v_ = (rs.getD j2 crow0).v ∧ p_ = [] | 7 => (fun v' post => post = [rowE 3 1 v' ((ndL (to2 ++ ([n.fst + (ls.length : Int)])) ((rs.getD j2 crow0).xs))).length (((ndL (to2 ++ ([n.fst + (ls.length : Int)])) ((rs.getD j2 crow0).xs))).map (Value.int .i64))]) v_ p_ | 8 => v_ = .pointer (some ⟨b33, 0 + 1, none⟩) ∧ p_ = [] | 9 => v_ = .int .i64 bq ∧ p_ = [] | 10 => v_ = .agg #[(List.getD vs_ 0 undef), .int .i64 bq] ∧ p_ = [] | 11 => IsRow 107 2 1 ([(List.getD vs_ 0 undef), .int .i64 bq]) v_ p_ | _ => True) (List.take_append_drop 12 _).symm (by kernel_rfl) (by kernel_rfl) rfl rfl ?_ ?_
    ·
     refine ⟨?_, ?_, ?_, ?_, ?_, ?_, ?_, ?_, ?_, ?_, ?_, ?_, trivial⟩
     ·
      intro vf pf hR
      exact ovQ rfl (zai [14] rfl) (zbe (fdQ 2 rfl rfl rfl))
     ·
      intro vf pf hR
      have e0 := hR 0 (by decide)
      exact olQ rfl (sk 150 (congrArg some e0.1) (zad _)) (zbe (zaf rfl rfl rfl (zab 7 rfl rfl)))
     ·
      intro vf pf hR
      exact ovQ rfl (zai [15] rfl) (zbe (zat rfl))
     ·
      intro vf pf hR
      exact ovQ rfl (zai [1] rfl) (zbe (zat rfl))
     ·
      intro vf pf hR
      exact ovQ rfl (zai [18] rfl) (zbe (zat rfl))
     ·
      intro vf pf hR
      have e3 := hR 3 (by decide)
      have e4 := hR 4 (by decide)
      exact olQ rfl (sk 153 (congrArg some e3.1) (sk 154 (congrArg some e4.1) (zad _))) (zbe (riQ 1 rfl rfl rfl rfl (zae hv.row)))
     ·
      intro vf pf hR
      have e5 := hR 5 (by decide)
      exact olQ rfl (sk 155 (congrArg some e5.1) (zad _)) (zbe (zar (u := (rs.getD j2 crow0).v) rfl rfl rfl (zae hv.row) (zcr crowC (fun r => r.v) (fun _ => rfl) rs crow0 (show j2 < _ by omega))))
     ·
      intro vf pf hR
      have e2 := hR 2 (by decide)
      have e6 := hR 6 (by decide)
      exact olQ rfl (sk 152 (congrArg some e2.1) (sk 156 (congrArg some e6.1) (zad _))) (zan rfl rfl (fun w hm => l20Nodes_ret (to2 ++ ([n.fst + (ls.length : Int)])) ((rs.getD j2 crow0).xs) _ _ w ((zac 6 rfl) w hm) ((zae (hv.at (k := j2) (by omega))) w hm) (fun k hk => by have := hbl9 k hk; rw [List.length_append]; omega) (by omega)))
     ·
      intro vf pf hR
      exact ovQ rfl (zai [19] rfl) (zbe (fdQ 1 rfl rfl rfl))
     ·
      intro vf pf hR
      have e8 := hR 8 (by decide)
      exact olQ rfl (sk 158 (congrArg some e8.1) (zad _)) (zbe (zaf rfl rfl rfl (zab 0 rfl rfl)))
     ·
      intro vf pf hR
      have e7 : (fun v' post => post = [rowE 3 1 v' ((ndL (to2 ++ ([n.fst + (ls.length : Int)])) ((rs.getD j2 crow0).xs))).length (((ndL (to2 ++ ([n.fst + (ls.length : Int)])) ((rs.getD j2 crow0).xs))).map (Value.int .i64))]) (vf 7) (pf 7) := hR 7 (by decide)
      obtain ⟨v34, vE7⟩ : ∃ x, vf 7 = x := ⟨_, rfl⟩
      obtain ⟨p35, pE7⟩ : ∃ x, pf 7 = x := ⟨_, rfl⟩
      have hR36 := e7
      rw [vE7, pE7] at hR36
      subst hR36
      have e9 := hR 9 (by decide)
      refine Or.inl ⟨rfl, ?_⟩
      exact zcj (sk 157 (congrArg some vE7) (sk 159 (congrArg some e9.1) (zad _))) (by simp only [pE7, vE7, e9.2, fS] <;> rfl) (zcy (zbe (zgh (cs := #[v34, .int .i64 bq]) rfl rfl (fun w hm => built_lutT v34 bq ((zac 0 rfl w hm).one)))) (fun _ _ h => ⟨h.1.trans (by show _ = (.agg #[(vf 7), .int .i64 bq] : Value); first | (rw [vE7]; done) | (rw [vE7]; rfl)), h.2⟩))
     intro vf pf hR
     have e7 : (fun v' post => post = [rowE 3 1 v' ((ndL (to2 ++ ([n.fst + (ls.length : Int)])) ((rs.getD j2 crow0).xs))).length (((ndL (to2 ++ ([n.fst + (ls.length : Int)])) ((rs.getD j2 crow0).xs))).map (Value.int .i64))]) (vf 7) (pf 7) := hR 7 (by decide)
     obtain ⟨v34, vE7⟩ : ∃ x, vf 7 = x := ⟨_, rfl⟩
     obtain ⟨p35, pE7⟩ : ∃ x, pf 7 = x := ⟨_, rfl⟩
     have hR36 := e7
     rw [vE7, pE7] at hR36
     subst hR36
     have e10 : (vf 10) = .agg #[(vf 7), .int .i64 bq] ∧ (pf 10) = [] := hR 10 (by decide)
     rw [vE7] at e10
     refine Or.inl ⟨rfl, ?_⟩
     exact zcj (sk 160 (congrArg some e10.1) (zad _)) (by simp only [pE7, vE7, e10.2, fS] <;> rfl) (zcy (zas (z := .agg #[.slice none 0 0, .int .i64 0]) (s := 2) (cs := [v34, .int .i64 bq]) rfl Try.underlying27 rfl (by decide) rfl (by kernel_rfl) rfl) (fun v_ p_ h => by show IsRow 107 2 1 ([(vf 7), .int .i64 bq]) v_ p_; rw [vE7]; exact h))
    intro vf pf hR
    have e1 := hR 1 (by decide)
    have e7 : (fun v' post => post = [rowE 3 1 v' ((ndL (to2 ++ ([n.fst + (ls.length : Int)])) ((rs.getD j2 crow0).xs))).length (((ndL (to2 ++ ([n.fst + (ls.length : Int)])) ((rs.getD j2 crow0).xs))).map (Value.int .i64))]) (vf 7) (pf 7) := hR 7 (by decide)
    obtain ⟨v34, vE7⟩ : ∃ x, vf 7 = x := ⟨_, rfl⟩
    obtain ⟨p35, pE7⟩ : ∃ x, pf 7 = x := ⟨_, rfl⟩
    have hR36 := e7
    rw [vE7, pE7] at hR36
    subst hR36
    have e11 : IsRow 107 2 1 ([(vf 7), .int .i64 bq]) (vf 11) (pf 11) := hR 11 (by decide)
    rw [vE7] at e11
    obtain ⟨g37, vE11, pE11⟩ := e11
    have q0 := hR 0 (by decide)
    have q1 := hR 1 (by decide)
    have q2 := hR 2 (by decide)
    have q3 := hR 3 (by decide)
    have q4 := hR 4 (by decide)
    have q5 := hR 5 (by decide)
    have q6 := hR 6 (by decide)
    have q8 := hR 8 (by decide)
    have q9 := hR 9 (by decide)
    have q10 := hR 10 (by decide)
    refine zck (zbj [140, 124, 114, 69, 42, 27, 19, 18, 16, 15, 14, 10, 9, 8, 7, 6, 5, 4, 2, 1, 0] _ (sk 151 (congrArg some e1.1) (sk 161 (congrArg some vE11) (zad _))) rfl) (by simp only [pE7, vE7, pE11, vE11, q0.2, q1.2, q2.2, q3.2, q4.2, q5.2, q6.2, q8.2, q9.2, q10.2, fS] <;> rfl) ?_
    simp only [List.drop_succ_cons, List.drop_zero]
    refine zdn (i := 0) rfl (fun ho38 => ?_)
    refine zcf (i := 6) (z := .agg #[.slice none 0 0, .int .i64 0]) (bytes := 32) rfl rfl rfl rfl Try.underlying27 (by kernel_rfl) rfl rfl rfl rfl (zac 1 rfl) (zah ho38 (zah rfl zbp)) (by first | omega | (simp only [List.length_append, List.length_cons, List.length_nil]; omega)) (zbt ls [(Lt.mk v34 (ndL (to2 ++ ([n.fst + (ls.length : Int)])) ((rs.getD j2 crow0).xs)) bq)]) (zcp ltC ls (Lt.mk v34 (ndL (to2 ++ ([n.fst + (ls.length : Int)])) ((rs.getD j2 crow0).xs)) bq) _ rfl) (fun _ => rfl) ?_
    intro v39
    refine hvQ rfl (fdQ 2 rfl rfl rfl) (zdn (i := 6) rfl (fun ho40 => ?_))
    refine zfj (i := 9) (cs' := #[.int .i64 n.ins, .slice none 0 0, v39, .slice none 0 0]) rfl rfl rfl rfl rfl rfl ho40 rfl rfl rfl rfl (zbr (zco (reQ 1 rfl (hvQ rfl (vaQ rfl rfl rfl) (enQ 1 rfl ?_)))))
    refine zbn 14 [13, 12, 11, 10, 9, 8, 7, 6, 5, 0, 4] rfl rfl (by decide) ?_
    refine zcs 2 rfl ?_
    exact zci (j2 + 1) (to2 ++ ([n.fst + (ls.length : Int)])) (ls ++ [(Lt.mk v34 (ndL (to2 ++ ([n.fst + (ls.length : Int)])) ((rs.getD j2 crow0).xs)) bq)]) ((v28, v39), [bigE zt9.2, rowE 3 1 v34 ((ndL (to2 ++ ([n.fst + (ls.length : Int)])) ((rs.getD j2 crow0).xs)).length) ((ndL (to2 ++ ([n.fst + (ls.length : Int)])) ((rs.getD j2 crow0).xs)).map (Value.int .i64))]) ⟨by omega, by rw [List.length_append, List.length_singleton]; omega, by rw [List.length_append, List.length_singleton]; omega, hlo.app (lutP_mk hbq (by show (_ : Int) = _; rw [ndL_len]) (by rw [ndL_len]; exact hcp.len) (by rw [ndL_app hbl9]; exact below_nd hto2 hbl9 huse)), (by rw [List.length_append, List.length_singleton]; exact hto2.app (Nat.le_succ _) (fun _ => by omega)), fun w hw => (hbs w (zbf hw List.mem_cons_self)).app (zcc (zbf hw (List.mem_cons_of_mem _ List.mem_cons_self)))⟩ (by omega) (saQ rfl) (pfQ rfl)
   refine ntQ (fsQ rfl (zco (reQ 1 rfl (hvQ rfl (vaQ rfl rfl rfl) (enQ 1 rfl ?_)))))
   exact zci (j2 + 1) (to2 ++ ([n.fst + (ls.length : Int)])) ls ((v28, zt9.1.2), zt9.2) ⟨by omega, by rw [List.length_append, List.length_singleton]; omega, by omega, hlo, hto2.app (Nat.le_refl _) (fun h9 => by rcases h9 with h9 | h9; (omega); (unfold On at h9; rw [show ((to2.length : Int)) = n.fst + (j2 : Int) by omega] at h9; rw [show (p2.getD (n.fst + (j2 : Int)).toNat bl0).b = false by assumption] at h9; cases h9)), hbs⟩ (by omega) (saQ rfl) (slQ [1, 0, 0, 0, 0, 0, 0, 0, 0, 0] rfl)
  refine ntQ (zal rfl ?_)
  refine zaz (zds ?_)
  refine zag (zav (zaa (zbd 1 rfl (zax ?_))))
  refine lkQ4 (α := Nat) (β := List Int) (γ := List Lt) (δ := Value × List HP) [0, 1, 2, 4, 5, 6, 7, 8, 9, 10, 14, 15, 16, 27, 42, 69, 114, 124] rfl (fun k3 nos ls2 yt9 => [bigE yt9.2, rowE 66 3 (.slice none 0 0) (([] : List Sq).length) (([] : List Sq).flatMap sqC), rowE 107 2 yt9.1 ls2.length (ls2.flatMap ltC), rowE 3 1 (.slice (some ⟨g20, 0, none⟩) ((List.replicate (n.cnt).toNat (0 : Int)).length) ((List.replicate (n.cnt).toNat (0 : Int)).length)) nos.length (nos.map (Value.int .i64)), rowE 3 1 zt9.1.1 to2.length (to2.map (Value.int .i64)), boxE b18 #[.int .i64 n.ins, .slice none 0 0, yt9.1, .slice none 0 0] 30, rowE 4 1 (.slice (some ⟨g5, 0, none⟩) ((List.replicate (n.cnt).toNat bl0).length) ((List.replicate (n.cnt).toNat bl0).length)) ng.length (ng.flatMap blC), rowE 4 1 (.slice (some ⟨g4, 0, none⟩) ((List.replicate (n.cnt).toNat bl0).length) ((List.replicate (n.cnt).toNat bl0).length)) p2.length (p2.flatMap blC), boxE b2 #[.int .i64 0, .slice none 0 0, .slice none 0 0, .slice none 0 0] 30, boxE b1 #[.int .i64 n.ins, n.sv, n.av, n.ov] 86]) (fun k3 nos ls2 yt9 => [(20, .int .i64 (k3 : Int))]) (fun k3 nos ls2 yt9 => (k3 : Int) ≤ n.cnt ∧ nos.length = n.cnt.toNat ∧ ls2.length ≤ rs.length + k3 ∧ LutsOk n.fst ls2 ∧ TosOk p2 n.fst ls2.length to2 ∧ NosOk ng n.fst ls2.length k3 nos ∧ ∀ w, (bigE yt9.2).holds w → RdsLuts w ls2) (fun k3 nos ls2 yt9 => n.cnt.toNat - k3) 0 _ _ (_, _) ⟨by omega, by rw [List.length_replicate], by omega, hlo, hto2, fun j hj => absurd hj (Nat.not_lt_zero _), hbs⟩ (saQ rfl) (pfQ rfl) ?_
  intro k3 nos ls2 yt9 hi41
  obtain ⟨hk3, hnol, hll2, hlo2, hto3, hno, hbs2⟩ := hi41
  refine zaa (zaa (reQ 2 rfl ?_))
  refine zbk rfl rfl rfl rfl rfl rfl (fun h42 => ?_) (fun h42 => ?_)
  ·
   refine ntQ (zak rfl (zcn (sbQ (zaa (zaa (reQ 2 rfl (hvQ rfl (riQ 1 rfl rfl rfl rfl (zac 6 rfl)) ?_)))))))
   refine hvQ rfl (zar (u := .bool ((ng.getD k3 bl0).b)) rfl rfl rfl (zac 6 rfl) (zcr blC (fun r => .bool r.b) (fun _ => rfl) ng bl0 (show k3 < _ by omega))) (zbx (fun h43 => ?_) (fun h43 => ?_))
   ·
    refine zba 1 rfl (zal rfl (zcn (zaa (reQ 3 rfl (hvQ rfl (fdQ 2 rfl rfl rfl) (hvQ rfl (zaf rfl rfl rfl (zab 5 rfl rfl)) (hvQ rfl (lnQ rfl rfl rfl (zac 2 rfl)) (hvQ rfl (vaQ rfl rfl rfl) ?_))))))))
    refine hvQ rfl (riQ 1 rfl rfl rfl rfl (zac 3 rfl)) (zcu (i := 3) (n' := (nos.set k3 (n.fst + (ls2.length : Int))).length) (xs' := ((nos.set k3 (n.fst + (ls2.length : Int))).map (Value.int .i64))) rfl rfl rfl rfl rfl rfl rfl rfl (by first | omega | (simp only [List.length_set]; omega)) List.length_set.symm (zcv _ _ _) rfl ?_)
    refine ntQ (srQ (hvQ rfl (zcq (cs := #[.slice none 0 0, .int .i64 1]) rfl rfl rfl) ?_))
    refine zdt rfl (zbw (z := .agg #[.slice none 0 0, .int .i64 0]) rfl rfl) ?_
    intro b44
    refine zcd (cs' := #[.slice none 0 0, .int .i64 1]) (i := 0) (off := 0) (us := [.slice none 0 0, .int .i64 1]) rfl rfl rfl rfl rfl rfl rfl (zah rfl (zah rfl zbp)) rfl rfl rfl (ntQ (zaa (zaa (reQ 2 rfl ?_))))
    refine zdo rfl rfl rfl rfl rfl rfl (fun h45 => ?_) (fun h45 => ?_)
    ·
     refine ntQ (zak rfl (zaa ?_))
     have hcp : CutP n (k3 : Int) (rs.getD (((k3 : Int) - n.fst).toNat) crow0).xs := by have h9 := (hmp.cut (((k3 : Int) - n.fst).toNat) (by omega)).1; rwa [show n.fst + ((((k3 : Int) - n.fst).toNat) : Int) = (k3 : Int) by omega] at h9
     have hcl4 := hcp.len
     have hbl9 : ∀ k, k < (rs.getD (((k3 : Int) - n.fst).toNat) crow0).xs.length → 0 ≤ (rs.getD (((k3 : Int) - n.fst).toNat) crow0).xs.getD k 0 ∧ (rs.getD (((k3 : Int) - n.fst).toNat) crow0).xs.getD k 0 < to2.length := fun k hk => by have := hmp.below hn (i := (((k3 : Int) - n.fst).toNat)) (by omega) hk; omega
     have huse := hus2 (((k3 : Int) - n.fst).toNat) (by omega) (by omega) (.inr (by rw [show n.fst + ((((k3 : Int) - n.fst).toNat) : Int) = (k3 : Int) by omega]; unfold On; rw [Int.toNat_natCast]; assumption))
     refine zdg rfl 11 [0, 1, 2, 3, 4, 5, 6, 7, 8, 9, 10] (List.take 11 _) (List.drop 11 _) [[], [], [], [], [], [3, 4], [2, 5], [6], [0, 1, 7], [8], []] [186, 187, 188, 189, 190, 191, 192, 193, 194, 195, 22] (fun i_ vs_ v_ p_ => match i_ with | 0 => v_ = .agg #[.int .i64 n.ins, n.sv, n.av, n.ov] ∧ p_ = [] | 1 => v_ = .int .i64 (k3 : Int) ∧ p_ = [] | 2 => v_ = v ∧ p_ = [] | 3 => v_ = .int .i64 (k3 : Int) ∧ p_ = [] | 4 => v_ = .int .i64 n.fst ∧ p_ = [] | 5 => v_ = .int .i64 ((k3 : Int) - n.fst) ∧ p_ = [] | 6 => v_ = elP v (((k3 : Int) - n.fst).toNat * 1) ∧ p_ = [] | 7 => v_ = (rs.getD (((k3 : Int) - n.fst).toNat) crow0).v ∧ p_ = [] | 8 => (fun u_ p_ => ∃ b : Int, u_ = .agg #[.int .i64 (((rs.getD (((k3 : Int) - n.fst).toNat) crow0).xs).length : Int), .int .i64 b] ∧ p_ = [] ∧ TabOk (Tab.mk (((rs.getD (((k3 : Int) - n.fst).toNat) crow0).xs).length : Int) b)) v_ p_ | 9 => (fun u_ p_ => p_ = [] ∧ ∃ t : Tab, TabOk t ∧ t.N = (((rs.getD (((k3 : Int) - n.fst).toNat) crow0).xs).length : Int) ∧ u_ = .agg #[.int .i64 t.N, .int .i64 t.B]) v_ p_ | 10 => IsBox #[.int .i64 0, .int .i64 0] 110 v_ p_ | _ => True) (List.take_append_drop 11 _).symm (by kernel_rfl) (by kernel_rfl) rfl rfl ?_ ?_
     ·
      refine ⟨?_, ?_, ?_, ?_, ?_, ?_, ?_, ?_, ?_, ?_, ?_, trivial⟩
      ·
       intro vf pf hR
       exact olQ rfl (zai [2] rfl) (zbe (zao (cs := [.int .i64 n.ins, n.sv, n.av, n.ov]) rfl rfl rfl rfl rfl (zaj 10 rfl 0 rfl)))
      ·
       intro vf pf hR
       exact ovQ rfl (zai [20] rfl) (zbe (zat rfl))
      ·
       intro vf pf hR
       exact ovQ rfl (zai [1] rfl) (zbe (zat rfl))
      ·
       intro vf pf hR
       exact ovQ rfl (zai [20] rfl) (zbe (zat rfl))
      ·
       intro vf pf hR
       exact ovQ rfl (zai [7] rfl) (zbe (zat rfl))
      ·
       intro vf pf hR
       have e3 := hR 3 (by decide)
       have e4 := hR 4 (by decide)
       exact ovQ rfl (sk 189 (congrArg some e3.1) (sk 190 (congrArg some e4.1) (zad _))) (zbe (vsQ rfl rfl rfl))
      ·
       intro vf pf hR
       have e2 := hR 2 (by decide)
       have e5 := hR 5 (by decide)
       exact olQ rfl (sk 188 (congrArg some e2.1) (sk 191 (congrArg some e5.1) (zad _))) (zbe (riQ 1 rfl rfl rfl rfl (zae hv.row)))
      ·
       intro vf pf hR
       have e6 := hR 6 (by decide)
       exact olQ rfl (sk 192 (congrArg some e6.1) (zad _)) (zbe (zar (u := (rs.getD (((k3 : Int) - n.fst).toNat) crow0).v) rfl rfl rfl (zae hv.row) (zcr crowC (fun r => r.v) (fun _ => rfl) rs crow0 (show ((k3 : Int) - n.fst).toNat < _ by omega))))
      ·
       intro vf pf hR
       have e0 := hR 0 (by decide)
       have e1 := hR 1 (by decide)
       have e7 := hR 7 (by decide)
       exact olQ rfl (sk 186 (congrArg some e0.1) (sk 187 (congrArg some e1.1) (sk 193 (congrArg some e7.1) (zad _)))) (zan rfl rfl (fun w hm => CutTableE_ret n (k3 : Int) ((rs.getD (((k3 : Int) - n.fst).toNat) crow0).xs) _ w (hr.below hm.bel) hn ((zae (hv.at (k := (((k3 : Int) - n.fst).toNat)) (by omega))) w hm) (by omega) hcp))
      ·
       intro vf pf hR
       have e8 : (fun u_ p_ => ∃ b : Int, u_ = .agg #[.int .i64 (((rs.getD (((k3 : Int) - n.fst).toNat) crow0).xs).length : Int), .int .i64 b] ∧ p_ = [] ∧ TabOk (Tab.mk (((rs.getD (((k3 : Int) - n.fst).toNat) crow0).xs).length : Int) b)) (vf 8) (pf 8) := hR 8 (by decide)
       obtain ⟨v46, vE8⟩ : ∃ x, vf 8 = x := ⟨_, rfl⟩
       obtain ⟨p47, pE8⟩ : ∃ x, pf 8 = x := ⟨_, rfl⟩
       have hR48 := e8
       rw [vE8, pE8] at hR48
       obtain ⟨bq, rfl, rfl, hbq⟩ := hR48
       exact olQ rfl (sk 194 (congrArg some vE8) (zad _)) (zan rfl rfl (fun w hm => TableNot_ret (((rs.getD (((k3 : Int) - n.fst).toNat) crow0).xs).length : Int) bq w hbq.1 hbq.2))
      intro vf pf hR
      exact olQ rfl (zad _) (zbw (z := .agg #[.int .i64 0, .int .i64 0]) rfl rfl)
     intro vf pf hR
     have e8 : (fun u_ p_ => ∃ b : Int, u_ = .agg #[.int .i64 (((rs.getD (((k3 : Int) - n.fst).toNat) crow0).xs).length : Int), .int .i64 b] ∧ p_ = [] ∧ TabOk (Tab.mk (((rs.getD (((k3 : Int) - n.fst).toNat) crow0).xs).length : Int) b)) (vf 8) (pf 8) := hR 8 (by decide)
     obtain ⟨v46, vE8⟩ : ∃ x, vf 8 = x := ⟨_, rfl⟩
     obtain ⟨p47, pE8⟩ : ∃ x, pf 8 = x := ⟨_, rfl⟩
     have hR48 := e8
     rw [vE8, pE8] at hR48
     obtain ⟨bq, rfl, rfl, hbq⟩ := hR48
     have e9 : (fun u_ p_ => p_ = [] ∧ ∃ t : Tab, TabOk t ∧ t.N = (((rs.getD (((k3 : Int) - n.fst).toNat) crow0).xs).length : Int) ∧ u_ = .agg #[.int .i64 t.N, .int .i64 t.B]) (vf 9) (pf 9) := hR 9 (by decide)
     obtain ⟨v49, vE9⟩ : ∃ x, vf 9 = x := ⟨_, rfl⟩
     obtain ⟨p50, pE9⟩ : ∃ x, pf 9 = x := ⟨_, rfl⟩
     have hR51 := e9
     rw [vE9, pE9] at hR51
     obtain ⟨rfl, tq, htq, htn, rfl⟩ := hR51
     have e10 : IsBox #[.int .i64 0, .int .i64 0] 110 (vf 10) (pf 10) := hR 10 (by decide)
     obtain ⟨b52, vE10, pE10⟩ := e10
     have q0 := hR 0 (by decide)
     have q1 := hR 1 (by decide)
     have q2 := hR 2 (by decide)
     have q3 := hR 3 (by decide)
     have q4 := hR 4 (by decide)
     have q5 := hR 5 (by decide)
     have q6 := hR 6 (by decide)
     have q7 := hR 7 (by decide)
     refine zck (zbj [21, 20, 16, 15, 14, 10, 9, 8, 7, 6, 5, 4, 2, 1, 0] _ (sk 22 (congrArg some vE10) (zbj [185, 173, 166, 124, 114, 69, 42, 27] _ (sk 195 (congrArg some vE9) (zad _)) rfl)) rfl) (by simp only [pE8, vE8, pE9, vE9, pE10, vE10, q0.2, q1.2, q2.2, q3.2, q4.2, q5.2, q6.2, q7.2, fS] <;> rfl) ?_
     simp only [List.drop_succ_cons, List.drop_zero]
     refine zcd (cs' := #[.int .i64 tq.N, .int .i64 tq.B]) (i := 0) (off := 0) (us := [.int .i64 tq.N, .int .i64 tq.B]) rfl rfl rfl rfl rfl rfl rfl (zah rfl (zah rfl zbp)) rfl rfl rfl (ntQ ?_)
     refine zdg rfl 11 [0, 1, 2, 3, 4, 5, 6, 7, 8, 9, 10] (List.take 11 _) (List.drop 11 _) [[], [], [], [], [2, 3], [1, 4], [5], [0, 6], [], [8], [7, 9]] [196, 197, 198, 199, 200, 201, 202, 203, 204, 205, 206] (fun i_ vs_ v_ p_ => match i_ with | 0 => v_ = zt9.1.1 ∧ p_ = [] | 1 => v_ = v ∧ p_ = [] | 2 => v_ = .int .i64 (k3 : Int) ∧ p_ = [] | 3 => v_ = .int .i64 n.fst ∧ p_ = [] | 4 => v_ = .int .i64 ((k3 : Int) - n.fst) ∧ p_ = [] | 5 => v_ = elP v (((k3 : Int) - n.fst).toNat * 1) ∧ p_ = [] | 6 => v_ = (rs.getD (((k3 : Int) - n.fst).toNat) crow0).v ∧ p_ = [] | 7 => (fun v' post => post = [rowE 3 1 v' ((ndL to2 ((rs.getD (((k3 : Int) - n.fst).toNat) crow0).xs))).length (((ndL to2 ((rs.getD (((k3 : Int) - n.fst).toNat) crow0).xs))).map (Value.int .i64))]) v_ p_ | 8 => v_ = .pointer (some ⟨b52, 0 + 1, none⟩) ∧ p_ = [] | 9 => v_ = .int .i64 tq.B ∧ p_ = [] | 10 => v_ = .agg #[(List.getD vs_ 0 undef), .int .i64 tq.B] ∧ p_ = [] | _ => True) (List.take_append_drop 11 _).symm (by kernel_rfl) (by kernel_rfl) rfl rfl ?_ ?_
     ·
      refine ⟨?_, ?_, ?_, ?_, ?_, ?_, ?_, ?_, ?_, ?_, ?_, trivial⟩
      ·
       intro vf pf hR
       exact ovQ rfl (zai [15] rfl) (zbe (zat rfl))
      ·
       intro vf pf hR
       exact ovQ rfl (zai [1] rfl) (zbe (zat rfl))
      ·
       intro vf pf hR
       exact ovQ rfl (zai [20] rfl) (zbe (zat rfl))
      ·
       intro vf pf hR
       exact ovQ rfl (zai [7] rfl) (zbe (zat rfl))
      ·
       intro vf pf hR
       have e2 := hR 2 (by decide)
       have e3 := hR 3 (by decide)
       exact ovQ rfl (sk 198 (congrArg some e2.1) (sk 199 (congrArg some e3.1) (zad _))) (zbe (vsQ rfl rfl rfl))
      ·
       intro vf pf hR
       have e1 := hR 1 (by decide)
       have e4 := hR 4 (by decide)
       exact olQ rfl (sk 197 (congrArg some e1.1) (sk 200 (congrArg some e4.1) (zad _))) (zbe (riQ 1 rfl rfl rfl rfl (zae hv.row)))
      ·
       intro vf pf hR
       have e5 := hR 5 (by decide)
       exact olQ rfl (sk 201 (congrArg some e5.1) (zad _)) (zbe (zar (u := (rs.getD (((k3 : Int) - n.fst).toNat) crow0).v) rfl rfl rfl (zae hv.row) (zcr crowC (fun r => r.v) (fun _ => rfl) rs crow0 (show ((k3 : Int) - n.fst).toNat < _ by omega))))
      ·
       intro vf pf hR
       have e0 := hR 0 (by decide)
       have e6 := hR 6 (by decide)
       exact olQ rfl (sk 196 (congrArg some e0.1) (sk 202 (congrArg some e6.1) (zad _))) (zan rfl rfl (fun w hm => l20Nodes_ret to2 ((rs.getD (((k3 : Int) - n.fst).toNat) crow0).xs) _ _ w ((zac 6 rfl) w hm) ((zae (hv.at (k := (((k3 : Int) - n.fst).toNat)) (by omega))) w hm) hbl9 (by omega)))
      ·
       intro vf pf hR
       exact ovQ rfl (zai [22] rfl) (zbe (fdQ 1 rfl rfl rfl))
      ·
       intro vf pf hR
       have e8 := hR 8 (by decide)
       exact olQ rfl (sk 204 (congrArg some e8.1) (zad _)) (zbe (zaf rfl rfl rfl (zab 0 rfl rfl)))
      intro vf pf hR
      have e7 : (fun v' post => post = [rowE 3 1 v' ((ndL to2 ((rs.getD (((k3 : Int) - n.fst).toNat) crow0).xs))).length (((ndL to2 ((rs.getD (((k3 : Int) - n.fst).toNat) crow0).xs))).map (Value.int .i64))]) (vf 7) (pf 7) := hR 7 (by decide)
      obtain ⟨v53, vE7⟩ : ∃ x, vf 7 = x := ⟨_, rfl⟩
      obtain ⟨p54, pE7⟩ : ∃ x, pf 7 = x := ⟨_, rfl⟩
      have hR55 := e7
      rw [vE7, pE7] at hR55
      subst hR55
      have e9 := hR 9 (by decide)
      refine Or.inl ⟨rfl, ?_⟩
      exact zcj (sk 203 (congrArg some vE7) (sk 205 (congrArg some e9.1) (zad _))) (by simp only [pE7, vE7, e9.2, fS] <;> rfl) (zcy (zbe (zgh (cs := #[v53, .int .i64 tq.B]) rfl rfl (fun w hm => built_lutT v53 tq.B ((zac 0 rfl w hm).one)))) (fun _ _ h => ⟨h.1.trans (by show _ = (.agg #[(vf 7), .int .i64 tq.B] : Value); first | (rw [vE7]; done) | (rw [vE7]; rfl)), h.2⟩))
     intro vf pf hR
     have e7 : (fun v' post => post = [rowE 3 1 v' ((ndL to2 ((rs.getD (((k3 : Int) - n.fst).toNat) crow0).xs))).length (((ndL to2 ((rs.getD (((k3 : Int) - n.fst).toNat) crow0).xs))).map (Value.int .i64))]) (vf 7) (pf 7) := hR 7 (by decide)
     obtain ⟨v53, vE7⟩ : ∃ x, vf 7 = x := ⟨_, rfl⟩
     obtain ⟨p54, pE7⟩ : ∃ x, pf 7 = x := ⟨_, rfl⟩
     have hR55 := e7
     rw [vE7, pE7] at hR55
     subst hR55
     have e10 : (vf 10) = .agg #[(vf 7), .int .i64 tq.B] ∧ (pf 10) = [] := hR 10 (by decide)
     rw [vE7] at e10
     have q0 := hR 0 (by decide)
     have q1 := hR 1 (by decide)
     have q2 := hR 2 (by decide)
     have q3 := hR 3 (by decide)
     have q4 := hR 4 (by decide)
     have q5 := hR 5 (by decide)
     have q6 := hR 6 (by decide)
     have q8 := hR 8 (by decide)
     have q9 := hR 9 (by decide)
     have q10 := hR 10 (by decide)
     refine zck (zbj [185, 173, 166, 124, 114, 69, 42, 27, 22, 21, 20, 16, 15, 14, 10, 9, 8, 7, 6, 5, 4, 2, 1, 0] _ (sk 206 (congrArg some e10.1) (zad _)) rfl) (by simp only [pE7, vE7, q0.2, q1.2, q2.2, q3.2, q4.2, q5.2, q6.2, q8.2, q9.2, q10.2, fS] <;> rfl) ?_
     simp only [List.drop_succ_cons, List.drop_zero]
     refine zdn (i := 0) rfl (fun ho56 => ?_)
     refine zcd (cs' := #[v53, .int .i64 tq.B]) (i := 2) (off := 0) (us := [v53, .int .i64 tq.B]) rfl rfl rfl rfl rfl rfl rfl (zah ho56 (zah rfl zbp)) rfl rfl rfl (ntQ (zay (hvQ rfl (fdQ 2 rfl rfl rfl) (hvQ rfl (zaf rfl rfl rfl (zab 8 rfl rfl)) (hvQ rfl (zao (cs := [v53, .int .i64 tq.B]) rfl rfl rfl rfl rfl (zaj 2 rfl 0 rfl)) ?_)))))
     refine zdi rfl (zas (z := .agg #[.slice none 0 0, .int .i64 0]) (s := 2) (cs := [v53, .int .i64 tq.B]) rfl Try.underlying27 rfl (by decide) rfl (by kernel_rfl) rfl) ?_
     intro g57
     refine zcf (i := 6) (z := .agg #[.slice none 0 0, .int .i64 0]) (bytes := 32) rfl rfl rfl rfl Try.underlying27 (by kernel_rfl) rfl rfl rfl rfl (zac 0 rfl) (zah ho56 (zah rfl zbp)) (by first | omega | (simp only [List.length_append, List.length_cons, List.length_nil]; omega)) (zbt ls2 [(Lt.mk v53 (ndL to2 ((rs.getD (((k3 : Int) - n.fst).toNat) crow0).xs)) tq.B)]) (zcp ltC ls2 (Lt.mk v53 (ndL to2 ((rs.getD (((k3 : Int) - n.fst).toNat) crow0).xs)) tq.B) _ rfl) (fun _ => rfl) ?_
     intro v58
     refine hvQ rfl (fdQ 2 rfl rfl rfl) (zdn (i := 6) rfl (fun ho59 => ?_))
     refine zfj (i := 9) (cs' := #[.int .i64 n.ins, .slice none 0 0, v58, .slice none 0 0]) rfl rfl rfl rfl rfl rfl ho59 rfl rfl rfl rfl (zbr (zco (reQ 1 rfl (hvQ rfl (vaQ rfl rfl rfl) (enQ 1 rfl ?_)))))
     refine zbn 14 [13, 12, 11, 10, 9, 8, 7, 6, 5, 1, 4] rfl rfl (by decide) ?_
     refine zcs 2 rfl ?_
     exact zci (k3 + 1) (nos.set k3 (n.fst + (ls2.length : Int))) (ls2 ++ [(Lt.mk v53 (ndL to2 ((rs.getD (((k3 : Int) - n.fst).toNat) crow0).xs)) tq.B)]) (v58, [bigE yt9.2, rowE 3 1 v53 ((ndL to2 ((rs.getD (((k3 : Int) - n.fst).toNat) crow0).xs)).length) ((ndL to2 ((rs.getD (((k3 : Int) - n.fst).toNat) crow0).xs)).map (Value.int .i64))]) ⟨by omega, by rw [List.length_set]; exact hnol, by rw [List.length_append, List.length_singleton]; omega, hlo2.app (lutP_mk htq (by rw [htn, ndL_len]) (by rw [ndL_len]; exact hcp.len) (below_nd hto3 hbl9 huse)), (by rw [List.length_append, List.length_singleton]; exact hto3.up (Nat.le_succ _)), (by rw [List.length_append, List.length_singleton]; exact hno.put (by omega) (Nat.le_succ _) ⟨by omega, by omega⟩), fun w hw => (hbs2 w (zbf hw List.mem_cons_self)).app (zcc (zbf hw (List.mem_cons_of_mem _ List.mem_cons_self)))⟩ (by omega) (saQ rfl) (pfQ rfl)
    refine ntQ (zal rfl (zaa (reQ 1 rfl ?_)))
    refine zff rfl rfl rfl rfl rfl rfl (fun h60 => ?_) (fun h60 => ?_)
    ·
     refine ntQ (zak rfl (reQ 1 rfl ?_))
     refine zdi rfl (zas (z := .int .i64 0) (s := 1) (cs := ([(k3 : Int)].map (Value.int .i64))) rfl Try.underlying28 rfl (by decide) rfl (by kernel_rfl) rfl) ?_
     intro g61
     refine hvQ rfl (fdQ 0 rfl rfl rfl) (zfj (i := 1) (cs' := #[.slice (some ⟨g61, 0, none⟩) 1 1, .int .i64 1]) rfl rfl rfl rfl rfl rfl rfl rfl rfl rfl rfl ?_)
     refine ntQ (zay (hvQ rfl (fdQ 2 rfl rfl rfl) (hvQ rfl (zaf rfl rfl rfl (zab 7 rfl rfl)) (hvQ rfl (zao (cs := [.slice (some ⟨g61, 0, none⟩) 1 1, .int .i64 1]) rfl rfl rfl rfl rfl (zaj 1 rfl 0 rfl)) ?_))))
     refine zdi rfl (zas (z := .agg #[.slice none 0 0, .int .i64 0]) (s := 2) (cs := [.slice (some ⟨g61, 0, none⟩) 1 1, .int .i64 1]) rfl Try.underlying27 rfl (by decide) rfl (by kernel_rfl) rfl) ?_
     intro g62
     refine zcf (i := 5) (z := .agg #[.slice none 0 0, .int .i64 0]) (bytes := 32) rfl rfl rfl rfl Try.underlying27 (by kernel_rfl) rfl rfl rfl rfl (zac 0 rfl) (by simp [Value.oneCell']) (by first | omega | (simp only [List.length_append, List.length_cons, List.length_nil]; omega)) (zbt ls2 [(Lt.mk (.slice (some ⟨g61, 0, none⟩) 1 1) ([(k3 : Int)]) 1)]) (zcp ltC ls2 (Lt.mk (.slice (some ⟨g61, 0, none⟩) 1 1) ([(k3 : Int)]) 1) _ rfl) (fun _ => rfl) ?_
     intro v63
     refine hvQ rfl (fdQ 2 rfl rfl rfl) (zdn (i := 5) rfl (fun ho64 => ?_))
     refine zfj (i := 8) (cs' := #[.int .i64 n.ins, .slice none 0 0, v63, .slice none 0 0]) rfl rfl rfl rfl rfl rfl ho64 rfl rfl rfl rfl (zbr (zco (reQ 1 rfl (hvQ rfl (vaQ rfl rfl rfl) (enQ 1 rfl ?_)))))
     refine zbn 13 [12, 11, 10, 9, 8, 7, 6, 5, 4, 1, 3] rfl rfl (by decide) ?_
     refine zcs 2 rfl ?_
     exact zci (k3 + 1) (nos.set k3 (n.fst + (ls2.length : Int))) (ls2 ++ [(Lt.mk (.slice (some ⟨g61, 0, none⟩) 1 1) ([(k3 : Int)]) 1)]) (v63, [bigE yt9.2, rowE 3 1 (.slice (some ⟨g61, 0, none⟩) 1 1) 1 ([(k3 : Int)].map (Value.int .i64))]) ⟨by omega, by rw [List.length_set]; exact hnol, by rw [List.length_append, List.length_singleton]; omega, hlo2.app (LutP.one (by omega) (by omega)), (by rw [List.length_append, List.length_singleton]; exact hto3.up (Nat.le_succ _)), (by rw [List.length_append, List.length_singleton]; exact hno.put (by omega) (Nat.le_succ _) ⟨by omega, by omega⟩), fun w hw => (hbs2 w (zbf hw List.mem_cons_self)).app (zcc (zbf hw (List.mem_cons_of_mem _ List.mem_cons_self)))⟩ (by omega) (saQ rfl) (pfQ rfl)
    refine ntQ (zal rfl (zcn (zay (hvQ rfl (fdQ 2 rfl rfl rfl) (hvQ rfl (zaf rfl rfl rfl (zab 6 rfl rfl)) (hvQ rfl (zao (cs := [.slice none 0 0, .int .i64 1]) rfl rfl rfl rfl rfl (zaj 0 rfl 0 rfl)) ?_))))))
    refine zdi rfl (zas (z := .agg #[.slice none 0 0, .int .i64 0]) (s := 2) (cs := [.slice none 0 0, .int .i64 1]) rfl Try.underlying27 rfl (by decide) rfl (by kernel_rfl) rfl) ?_
    intro g65
    refine zcf (i := 4) (z := .agg #[.slice none 0 0, .int .i64 0]) (bytes := 32) rfl rfl rfl rfl Try.underlying27 (by kernel_rfl) rfl rfl rfl rfl (zac 0 rfl) (by simp [Value.oneCell']) (by first | omega | (simp only [List.length_append, List.length_cons, List.length_nil]; omega)) (zbt ls2 [(Lt.mk (.slice none 0 0) ([]) 1)]) (zcp ltC ls2 (Lt.mk (.slice none 0 0) ([]) 1) _ rfl) (fun _ => rfl) ?_
    intro v66
    refine hvQ rfl (fdQ 2 rfl rfl rfl) (zdn (i := 4) rfl (fun ho67 => ?_))
    refine zfj (i := 7) (cs' := #[.int .i64 n.ins, .slice none 0 0, v66, .slice none 0 0]) rfl rfl rfl rfl rfl rfl ho67 rfl rfl rfl rfl (zbr (zco (reQ 1 rfl (hvQ rfl (vaQ rfl rfl rfl) (enQ 1 rfl ?_)))))
    refine zbn 12 [11, 10, 9, 8, 7, 6, 5, 4, 3, 2] rfl rfl (by decide) ?_
    refine zcs 1 rfl ?_
    exact zci (k3 + 1) (nos.set k3 (n.fst + (ls2.length : Int))) (ls2 ++ [(Lt.mk (.slice none 0 0) ([]) 1)]) (v66, [bigE yt9.2]) ⟨by omega, by rw [List.length_set]; exact hnol, by rw [List.length_append, List.length_singleton]; omega, hlo2.app (LutP.none), (by rw [List.length_append, List.length_singleton]; exact hto3.up (Nat.le_succ _)), (by rw [List.length_append, List.length_singleton]; exact hno.put (by omega) (Nat.le_succ _) ⟨by omega, by omega⟩), fun w hw => (hbs2 w (zbf hw List.mem_cons_self)).app (rd_nil (w0 := w) (l := []) w (Mem.refl w))⟩ (by omega) (saQ rfl) (pfQ rfl)
   refine zba 1 rfl (zak rfl ?_)
   refine zaz (zct ?_)
   refine zag (zav (reQ 1 rfl (hvQ rfl (vaQ rfl rfl rfl) (enQ 1 rfl ?_))))
   exact zci (k3 + 1) nos ls2 (yt9.1, yt9.2) ⟨by omega, hnol, by omega, hlo2, hto3, hno.skip (by assumption), hbs2⟩ (by omega) (saQ rfl) (pfQ rfl)
  refine ntQ (zal rfl ?_)
  refine zaz (zds ?_)
  refine zag (zav (zaa (zbd 1 rfl (zax ?_))))
  refine lkQ4 (α := Nat) (β := Value) (γ := List Sq) (δ := List HP) [0, 1, 2, 4, 5, 6, 7, 8, 9, 10, 14, 15, 16, 27, 42, 69, 114, 124, 166] rfl (fun j4 u5 ss bs3 => [bigE bs3, rowE 66 3 u5 ss.length (ss.flatMap sqC), rowE 107 2 yt9.1 ls2.length (ls2.flatMap ltC), rowE 3 1 (.slice (some ⟨g20, 0, none⟩) ((List.replicate (n.cnt).toNat (0 : Int)).length) ((List.replicate (n.cnt).toNat (0 : Int)).length)) nos.length (nos.map (Value.int .i64)), rowE 3 1 zt9.1.1 to2.length (to2.map (Value.int .i64)), boxE b18 #[.int .i64 n.ins, u5, yt9.1, .slice none 0 0] 30, rowE 4 1 (.slice (some ⟨g5, 0, none⟩) ((List.replicate (n.cnt).toNat bl0).length) ((List.replicate (n.cnt).toNat bl0).length)) ng.length (ng.flatMap blC), rowE 4 1 (.slice (some ⟨g4, 0, none⟩) ((List.replicate (n.cnt).toNat bl0).length) ((List.replicate (n.cnt).toNat bl0).length)) p2.length (p2.flatMap blC), boxE b2 #[.int .i64 0, .slice none 0 0, .slice none 0 0, .slice none 0 0] 30, boxE b1 #[.int .i64 n.ins, n.sv, n.av, n.ov] 86]) (fun j4 u5 ss bs3 => [(23, .int .i64 (j4 : Int))]) (fun j4 u5 ss bs3 => j4 ≤ n.ss.length ∧ ss.length = j4 ∧ SqsN (n.fst + (ls2.length : Int)) ss ∧ ∀ w, (bigE bs3).holds w → RdsLuts w ls2 ∧ RdsSqs w ss) (fun j4 u5 ss bs3 => n.ss.length - j4) 0 _ [] _ ⟨Nat.zero_le _, rfl, SqsN.nil _, fun w hw => ⟨hbs2 w hw, RdsSqs.nil w⟩⟩ (saQ rfl) (pfQ rfl) ?_
  intro j4 u5 ss bs3 hi68
  obtain ⟨hj4, hsl4, hsn, hbs3⟩ := hi68
  have hnoF : NosOk ng n.fst ls2.length nos.length nos := by rw [show nos.length = k3 by omega]; exact hno
  refine zaa (zaa (reQ 1 rfl (hvQ rfl (fdQ 1 rfl rfl rfl) (hvQ rfl (zaf rfl rfl rfl (zab 9 rfl rfl)) (hvQ rfl (lnQ rfl rfl rfl (zae hr.sq)) ?_)))))
  refine zbk rfl rfl rfl rfl rfl rfl (fun h69 => ?_) (fun h69 => ?_)
  ·
   refine ntQ (zak rfl (zcn (sbQ ?_)))
   refine zdg rfl 25 [0, 1, 2, 3, 4, 5, 6, 7, 8, 9, 10, 11, 12, 13, 14, 15, 16, 17, 18, 19, 20, 21, 22, 23, 24] (List.take 25 _) (List.drop 25 _) [[], [0], [], [2], [], [3, 4], [5], [6], [], [8], [], [9, 10], [11], [12], [], [], [], [16], [], [17, 18], [19], [20], [14, 15, 21], [7, 13, 22], [22, 23]] [225, 226, 227, 228, 229, 230, 231, 232, 233, 234, 235, 236, 237, 238, 239, 240, 241, 242, 243, 244, 245, 246, 247, 248, 249] (fun i_ vs_ v_ p_ => match i_ with | 0 => v_ = .pointer (some ⟨b18, 0 + 1, none⟩) ∧ p_ = [] | 1 => v_ = u5 ∧ p_ = [] | 2 => v_ = .pointer (some ⟨b1, 0 + 1, none⟩) ∧ p_ = [] | 3 => v_ = n.sv ∧ p_ = [] | 4 => v_ = .int .i64 (j4 : Int) ∧ p_ = [] | 5 => v_ = elP n.sv (((j4 : Int)).toNat * 3) ∧ p_ = [] | 6 => v_ = elP n.sv (((j4 : Int)).toNat * 3 + 0) ∧ p_ = [] | 7 => v_ = .int .i64 ((n.ss.getD j4 sq0).kd) ∧ p_ = [] | 8 => v_ = .pointer (some ⟨b1, 0 + 1, none⟩) ∧ p_ = [] | 9 => v_ = n.sv ∧ p_ = [] | 10 => v_ = .int .i64 (j4 : Int) ∧ p_ = [] | 11 => v_ = elP n.sv (((j4 : Int)).toNat * 3) ∧ p_ = [] | 12 => v_ = elP n.sv (((j4 : Int)).toNat * 3 + 1) ∧ p_ = [] | 13 => v_ = .int .i64 ((n.ss.getD j4 sq0).it) ∧ p_ = [] | 14 => v_ = zt9.1.1 ∧ p_ = [] | 15 => v_ = .slice (some ⟨g20, 0, none⟩) ((List.replicate (n.cnt).toNat (0 : Int)).length) ((List.replicate (n.cnt).toNat (0 : Int)).length) ∧ p_ = [] | 16 => v_ = .pointer (some ⟨b1, 0 + 1, none⟩) ∧ p_ = [] | 17 => v_ = n.sv ∧ p_ = [] | 18 => v_ = .int .i64 (j4 : Int) ∧ p_ = [] | 19 => v_ = elP n.sv (((j4 : Int)).toNat * 3) ∧ p_ = [] | 20 => v_ = elP n.sv (((j4 : Int)).toNat * 3 + 2) ∧ p_ = [] | 21 => v_ = (n.ss.getD j4 sq0).iv ∧ p_ = [] | 22 => (fun v' post => post = [rowE 3 1 v' ((rtL to2 nos ((n.ss.getD j4 sq0).xs))).length (((rtL to2 nos ((n.ss.getD j4 sq0).xs))).map (Value.int .i64))]) v_ p_ | 23 => v_ = .agg #[.int .i64 ((n.ss.getD j4 sq0).kd), .int .i64 ((n.ss.getD j4 sq0).it), (List.getD vs_ 2 undef)] ∧ p_ = [] | 24 => IsRow 66 3 1 ([.int .i64 ((n.ss.getD j4 sq0).kd), .int .i64 ((n.ss.getD j4 sq0).it), (List.getD vs_ 0 undef)]) v_ p_ | _ => True) (List.take_append_drop 25 _).symm (by kernel_rfl) (by kernel_rfl) rfl rfl ?_ ?_
   ·
    refine ⟨?_, ?_, ?_, ?_, ?_, ?_, ?_, ?_, ?_, ?_, ?_, ?_, ?_, ?_, ?_, ?_, ?_, ?_, ?_, ?_, ?_, ?_, ?_, ?_, ?_, trivial⟩
    ·
     intro vf pf hR
     exact ovQ rfl (zai [14] rfl) (zbe (fdQ 1 rfl rfl rfl))
    ·
     intro vf pf hR
     have e0 := hR 0 (by decide)
     exact olQ rfl (sk 225 (congrArg some e0.1) (zad _)) (zbe (zaf rfl rfl rfl (zab 5 rfl rfl)))
    ·
     intro vf pf hR
     exact ovQ rfl (zai [2] rfl) (zbe (fdQ 1 rfl rfl rfl))
    ·
     intro vf pf hR
     have e2 := hR 2 (by decide)
     exact olQ rfl (sk 227 (congrArg some e2.1) (zad _)) (zbe (zaf rfl rfl rfl (zab 9 rfl rfl)))
    ·
     intro vf pf hR
     exact ovQ rfl (zai [23] rfl) (zbe (zat rfl))
    ·
     intro vf pf hR
     have e3 := hR 3 (by decide)
     have e4 := hR 4 (by decide)
     exact olQ rfl (sk 228 (congrArg some e3.1) (sk 229 (congrArg some e4.1) (zad _))) (zbe (riQ 3 rfl rfl rfl rfl (zae hr.sq)))
    ·
     intro vf pf hR
     have e5 := hR 5 (by decide)
     exact olQ rfl (sk 230 (congrArg some e5.1) (zad _)) (zbe (zbb (k0 := 0) rfl rfl rfl (zae hr.sq) (by omega)))
    ·
     intro vf pf hR
     have e6 := hR 6 (by decide)
     exact olQ rfl (sk 231 (congrArg some e6.1) (zad _)) (zbe (zar (u := .int .i64 ((n.ss.getD j4 sq0).kd)) rfl rfl rfl (zae hr.sq) ((zbv sqC 3 (fun _ => rfl) n.ss sq0 (show j4 < _ by omega) (by decide)).trans rfl)))
    ·
     intro vf pf hR
     exact ovQ rfl (zai [2] rfl) (zbe (fdQ 1 rfl rfl rfl))
    ·
     intro vf pf hR
     have e8 := hR 8 (by decide)
     exact olQ rfl (sk 233 (congrArg some e8.1) (zad _)) (zbe (zaf rfl rfl rfl (zab 9 rfl rfl)))
    ·
     intro vf pf hR
     exact ovQ rfl (zai [23] rfl) (zbe (zat rfl))
    ·
     intro vf pf hR
     have e9 := hR 9 (by decide)
     have e10 := hR 10 (by decide)
     exact olQ rfl (sk 234 (congrArg some e9.1) (sk 235 (congrArg some e10.1) (zad _))) (zbe (riQ 3 rfl rfl rfl rfl (zae hr.sq)))
    ·
     intro vf pf hR
     have e11 := hR 11 (by decide)
     exact olQ rfl (sk 236 (congrArg some e11.1) (zad _)) (zbe (zbb (k0 := 1) rfl rfl rfl (zae hr.sq) (by omega)))
    ·
     intro vf pf hR
     have e12 := hR 12 (by decide)
     exact olQ rfl (sk 237 (congrArg some e12.1) (zad _)) (zbe (zar (u := .int .i64 ((n.ss.getD j4 sq0).it)) rfl rfl rfl (zae hr.sq) ((zbv sqC 3 (fun _ => rfl) n.ss sq0 (show j4 < _ by omega) (by decide)).trans rfl)))
    ·
     intro vf pf hR
     exact ovQ rfl (zai [15] rfl) (zbe (zat rfl))
    ·
     intro vf pf hR
     exact ovQ rfl (zai [16] rfl) (zbe (zat rfl))
    ·
     intro vf pf hR
     exact ovQ rfl (zai [2] rfl) (zbe (fdQ 1 rfl rfl rfl))
    ·
     intro vf pf hR
     have e16 := hR 16 (by decide)
     exact olQ rfl (sk 241 (congrArg some e16.1) (zad _)) (zbe (zaf rfl rfl rfl (zab 9 rfl rfl)))
    ·
     intro vf pf hR
     exact ovQ rfl (zai [23] rfl) (zbe (zat rfl))
    ·
     intro vf pf hR
     have e17 := hR 17 (by decide)
     have e18 := hR 18 (by decide)
     exact olQ rfl (sk 242 (congrArg some e17.1) (sk 243 (congrArg some e18.1) (zad _))) (zbe (riQ 3 rfl rfl rfl rfl (zae hr.sq)))
    ·
     intro vf pf hR
     have e19 := hR 19 (by decide)
     exact olQ rfl (sk 244 (congrArg some e19.1) (zad _)) (zbe (zbb (k0 := 2) rfl rfl rfl (zae hr.sq) (by omega)))
    ·
     intro vf pf hR
     have e20 := hR 20 (by decide)
     exact olQ rfl (sk 245 (congrArg some e20.1) (zad _)) (zbe (zar (u := (n.ss.getD j4 sq0).iv) rfl rfl rfl (zae hr.sq) ((zbv sqC 3 (fun _ => rfl) n.ss sq0 (show j4 < _ by omega) (by decide)).trans rfl)))
    ·
     intro vf pf hR
     have e14 := hR 14 (by decide)
     have e15 := hR 15 (by decide)
     have e21 := hR 21 (by decide)
     exact olQ rfl (sk 239 (congrArg some e14.1) (sk 240 (congrArg some e15.1) (sk 246 (congrArg some e21.1) (zad _)))) (zan rfl rfl (fun w hm => l20Roots_ret to2 nos ((n.ss.getD j4 sq0).xs) _ _ _ w ((zac 4 rfl) w hm) ((zac 3 rfl) w hm) ((zae (hr.at (k := j4) (by omega))) w hm) (fun k hk => by have h9 := hn.xs _ (zbs (d := sq0) (show j4 < n.ss.length by omega)) _ (zbs (d := (0 : Int)) hk); unfold LtOk at h9; omega) (by have h8 := (hn.sq _ (zbs (d := sq0) (show j4 < n.ss.length by omega))).len; omega) (by omega)))
    ·
     intro vf pf hR
     have e7 := hR 7 (by decide)
     have e13 := hR 13 (by decide)
     have e22 : (fun v' post => post = [rowE 3 1 v' ((rtL to2 nos ((n.ss.getD j4 sq0).xs))).length (((rtL to2 nos ((n.ss.getD j4 sq0).xs))).map (Value.int .i64))]) (vf 22) (pf 22) := hR 22 (by decide)
     obtain ⟨v70, vE22⟩ : ∃ x, vf 22 = x := ⟨_, rfl⟩
     obtain ⟨p71, pE22⟩ : ∃ x, pf 22 = x := ⟨_, rfl⟩
     have hR72 := e22
     rw [vE22, pE22] at hR72
     subst hR72
     refine Or.inl ⟨rfl, ?_⟩
     exact zcj (sk 232 (congrArg some e7.1) (sk 238 (congrArg some e13.1) (sk 247 (congrArg some vE22) (zad _)))) (by simp only [pE22, vE22, e7.2, e13.2, fS] <;> rfl) (zcy (zbe (zgh (cs := #[.int .i64 ((n.ss.getD j4 sq0).kd), .int .i64 ((n.ss.getD j4 sq0).it), v70]) rfl rfl (fun w hm => built_seqH ((n.ss.getD j4 sq0).kd) ((n.ss.getD j4 sq0).it) v70 ((zac 0 rfl w hm).one)))) (fun _ _ h => ⟨h.1.trans (by show _ = (.agg #[.int .i64 ((n.ss.getD j4 sq0).kd), .int .i64 ((n.ss.getD j4 sq0).it), (vf 22)] : Value); first | (rw [vE22]; done) | (rw [vE22]; rfl)), h.2⟩))
    intro vf pf hR
    have e22 : (fun v' post => post = [rowE 3 1 v' ((rtL to2 nos ((n.ss.getD j4 sq0).xs))).length (((rtL to2 nos ((n.ss.getD j4 sq0).xs))).map (Value.int .i64))]) (vf 22) (pf 22) := hR 22 (by decide)
    obtain ⟨v70, vE22⟩ : ∃ x, vf 22 = x := ⟨_, rfl⟩
    obtain ⟨p71, pE22⟩ : ∃ x, pf 22 = x := ⟨_, rfl⟩
    have hR72 := e22
    rw [vE22, pE22] at hR72
    subst hR72
    have e23 : (vf 23) = .agg #[.int .i64 ((n.ss.getD j4 sq0).kd), .int .i64 ((n.ss.getD j4 sq0).it), (vf 22)] ∧ (pf 23) = [] := hR 23 (by decide)
    rw [vE22] at e23
    refine Or.inl ⟨rfl, ?_⟩
    exact zcj (sk 248 (congrArg some e23.1) (zad _)) (by simp only [pE22, vE22, e23.2, fS] <;> rfl) (zcy (zas (z := .agg #[.int .i64 0, .int .i64 0, .slice none 0 0]) (s := 3) (cs := [.int .i64 ((n.ss.getD j4 sq0).kd), .int .i64 ((n.ss.getD j4 sq0).it), v70]) rfl Try.underlying26 rfl (by decide) rfl (by kernel_rfl) rfl) (fun v_ p_ h => by show IsRow 66 3 1 ([.int .i64 ((n.ss.getD j4 sq0).kd), .int .i64 ((n.ss.getD j4 sq0).it), (vf 22)]) v_ p_; rw [vE22]; exact h))
   intro vf pf hR
   have e1 := hR 1 (by decide)
   have e22 : (fun v' post => post = [rowE 3 1 v' ((rtL to2 nos ((n.ss.getD j4 sq0).xs))).length (((rtL to2 nos ((n.ss.getD j4 sq0).xs))).map (Value.int .i64))]) (vf 22) (pf 22) := hR 22 (by decide)
   obtain ⟨v70, vE22⟩ : ∃ x, vf 22 = x := ⟨_, rfl⟩
   obtain ⟨p71, pE22⟩ : ∃ x, pf 22 = x := ⟨_, rfl⟩
   have hR72 := e22
   rw [vE22, pE22] at hR72
   subst hR72
   have e24 : IsRow 66 3 1 ([.int .i64 ((n.ss.getD j4 sq0).kd), .int .i64 ((n.ss.getD j4 sq0).it), (vf 22)]) (vf 24) (pf 24) := hR 24 (by decide)
   rw [vE22] at e24
   obtain ⟨g73, vE24, pE24⟩ := e24
   have q0 := hR 0 (by decide)
   have q1 := hR 1 (by decide)
   have q2 := hR 2 (by decide)
   have q3 := hR 3 (by decide)
   have q4 := hR 4 (by decide)
   have q5 := hR 5 (by decide)
   have q6 := hR 6 (by decide)
   have q7 := hR 7 (by decide)
   have q8 := hR 8 (by decide)
   have q9 := hR 9 (by decide)
   have q10 := hR 10 (by decide)
   have q11 := hR 11 (by decide)
   have q12 := hR 12 (by decide)
   have q13 := hR 13 (by decide)
   have q14 := hR 14 (by decide)
   have q15 := hR 15 (by decide)
   have q16 := hR 16 (by decide)
   have q17 := hR 17 (by decide)
   have q18 := hR 18 (by decide)
   have q19 := hR 19 (by decide)
   have q20 := hR 20 (by decide)
   have q21 := hR 21 (by decide)
   have q23 := hR 23 (by decide)
   refine zck (zbj [222, 166, 124, 114, 69, 42, 27, 23, 16, 15, 14, 10, 9, 8, 7, 6, 5, 4, 2, 1, 0] _ (sk 226 (congrArg some e1.1) (sk 249 (congrArg some vE24) (zad _))) rfl) (by simp only [pE22, vE22, pE24, vE24, q0.2, q1.2, q2.2, q3.2, q4.2, q5.2, q6.2, q7.2, q8.2, q9.2, q10.2, q11.2, q12.2, q13.2, q14.2, q15.2, q16.2, q17.2, q18.2, q19.2, q20.2, q21.2, q23.2, fS] <;> rfl) ?_
   simp only [List.drop_succ_cons, List.drop_zero]
   refine zdn (i := 0) rfl (fun ho74 => ?_)
   refine zcf (i := 3) (z := .agg #[.int .i64 0, .int .i64 0, .slice none 0 0]) (bytes := 40) rfl rfl rfl rfl Try.underlying26 (by kernel_rfl) rfl rfl rfl rfl (zac 1 rfl) (zah rfl (zah rfl (zah ho74 zbp))) (by first | omega | (simp only [List.length_append, List.length_cons, List.length_nil]; omega)) (zbt ss [(Sq.mk ((n.ss.getD j4 sq0).kd) ((n.ss.getD j4 sq0).it) v70 (rtL to2 nos ((n.ss.getD j4 sq0).xs)))]) (zcp sqC ss (Sq.mk ((n.ss.getD j4 sq0).kd) ((n.ss.getD j4 sq0).it) v70 (rtL to2 nos ((n.ss.getD j4 sq0).xs))) _ rfl) (fun _ => rfl) ?_
   intro v75
   refine hvQ rfl (fdQ 1 rfl rfl rfl) (zdn (i := 3) rfl (fun ho76 => ?_))
   refine zfj (i := 7) (cs' := #[.int .i64 n.ins, v75, yt9.1, .slice none 0 0]) rfl rfl rfl rfl rfl rfl ho76 rfl rfl rfl rfl (zbr (zco (reQ 1 rfl (hvQ rfl (vaQ rfl rfl rfl) (enQ 1 rfl ?_)))))
   refine zbn 12 [11, 10, 9, 8, 7, 6, 5, 4, 3, 0, 2] rfl rfl (by decide) ?_
   refine zcs 2 rfl ?_
   exact zci (j4 + 1) v75 (ss ++ [(Sq.mk ((n.ss.getD j4 sq0).kd) ((n.ss.getD j4 sq0).it) v70 (rtL to2 nos ((n.ss.getD j4 sq0).xs)))]) [bigE bs3, rowE 3 1 v70 ((rtL to2 nos ((n.ss.getD j4 sq0).xs)).length) ((rtL to2 nos ((n.ss.getD j4 sq0).xs)).map (Value.int .i64))] ⟨by omega, by rw [List.length_append, List.length_singleton]; omega, hsn.app (sqOk_len (hn.sq _ (zbs (d := sq0) (by omega))) (rtL_len _ _ _) _) (below_rt hto3 hnoF (c := n.cnt) (by omega) (by omega) (fun l hl => ⟨hn.xs _ (zbs (d := sq0) (by omega)) l hl, hru2.all l (rts_sq (zbs (d := sq0) (by omega)) hl)⟩)), fun w hw => ⟨(hbs3 w (zbf hw List.mem_cons_self)).1, (hbs3 w (zbf hw List.mem_cons_self)).2.app (zcc (zbf hw (List.mem_cons_of_mem _ List.mem_cons_self)))⟩⟩ (by omega) (saQ rfl) (pfQ rfl)
  refine ntQ (zal rfl ?_)
  refine zaz (zds ?_)
  refine zag (zav (zaa (reQ 2 rfl (hvQ rfl (fdQ 3 rfl rfl rfl) (hvQ rfl (zaf rfl rfl rfl (zab 9 rfl rfl)) ?_)))))
  refine zfu rfl rfl rfl (zan rfl rfl (fun w hm => l20Roots_ret to2 nos n.os _ _ _ w ((zac 4 rfl) w hm) ((zac 3 rfl) w hm) ((zae hr.ou) w hm) (fun k hk => by have h9 := hn.ou _ (zbs (d := (0 : Int)) hk); unfold LtOk at h9; omega) (by omega) (by omega))) ?_
  intro v77 p78 hR79
  subst hR79
  refine hvQ rfl (fdQ 3 rfl rfl rfl) (zdn (i := 0) rfl (fun ho80 => ?_))
  refine zfj (i := 6) (cs' := #[.int .i64 n.ins, u5, yt9.1, v77]) rfl rfl rfl rfl rfl rfl ho80 rfl rfl rfl rfl (ntQ (srQ (hvQ rfl (zao (cs := [.int .i64 n.ins, u5, yt9.1, v77]) rfl rfl rfl rfl rfl (zaj 6 rfl 0 rfl)) ?_)))
  refine zdn (i := 3) rfl (fun ho81 => ?_)
  refine zdn (i := 2) rfl (fun ho82 => ?_)
  refine zcd (cs' := #[.int .i64 n.ins, u5, yt9.1, v77]) (i := 9) (off := 0) (us := [.int .i64 n.ins, u5, yt9.1, v77]) rfl rfl rfl rfl rfl rfl rfl (zah rfl (zah ho82 (zah ho81 (zah ho80 zbp)))) rfl rfl rfl (zba 1 rfl ?_)
  refine zaw (zdw (fun w hm => (zac 2 rfl w hm).one) (fun ho1 => ?_))
  refine zdw (fun w hm => (zac 3 rfl w hm).one) (fun ho2 => ?_)
  refine zdw (fun w hm => (zac 0 rfl w hm).one) (fun ho3 => ?_)
  refine zbn 11 [9, 1, 0, 3, 2] rfl rfl (by decide) ?_
  refine zcs 4 rfl ?_
  exact zdb (rs := [.cell 4 30, .tmp 5]) (vs := [.agg #[.int .i64 n.ins, u5, yt9.1, v77], .bool true]) (post := [bigE [rowE 66 3 u5 ss.length (ss.flatMap sqC), rowE 107 2 yt9.1 ls2.length (ls2.flatMap ltC), rowE 3 1 v77 ((rtL to2 nos n.os).length) ((rtL to2 nos n.os).map (Value.int .i64)), bigE bs3]]) rfl ⟨⟨b2, 0, [.int .i64 n.ins, u5, yt9.1, v77], rfl, rfl, by kernel_rfl, by kernel_rfl, zaj 1 rfl 0 rfl⟩, rfl, trivial⟩ rfl (slQ [0] rfl) ⟨_, (Ln.mk n.ins u5 yt9.1 v77 ss ls2 (rtL to2 nos n.os)), true, rfl, rfl, fun w hw => ⟨⟨zcc (zbf hw List.mem_cons_self), (hbs3 w (zbf hw (List.mem_cons_of_mem _ (List.mem_cons_of_mem _ (List.mem_cons_of_mem _ List.mem_cons_self))))).2⟩, ⟨zcc (zbf hw (List.mem_cons_of_mem _ List.mem_cons_self)), (hbs3 w (zbf hw (List.mem_cons_of_mem _ (List.mem_cons_of_mem _ (List.mem_cons_of_mem _ List.mem_cons_self))))).1⟩, zcc (zbf hw (List.mem_cons_of_mem _ (List.mem_cons_of_mem _ List.mem_cons_self)))⟩, ⟨ho1, ho2, ho3⟩, ln_mk hn (by omega) (by omega) (by rw [rtL_len]; exact hn.o1) (below_rt hto3 hnoF (c := n.cnt) (by omega) (by omega) (fun l hl => ⟨hn.ou l hl, hru2.all l (rts_os hl)⟩)) hsn hlo2⟩
 refine zba 1 rfl (zak rfl (srQ (hvQ rfl (zcq (cs := #[.int .i64 0, .slice none 0 0, .slice none 0 0, .slice none 0 0]) rfl rfl rfl) ?_)))
 refine zcd (cs' := #[.int .i64 0, .slice none 0 0, .slice none 0 0, .slice none 0 0]) (i := 0) (off := 0) (us := [.int .i64 0, .slice none 0 0, .slice none 0 0, .slice none 0 0]) rfl rfl rfl rfl rfl rfl rfl (zah rfl (zah rfl (zah rfl (zah rfl zbp)))) rfl rfl rfl (zba 1 rfl ?_)
 refine zaw (zap ?_)
 refine zbn 2 [1, 0] rfl rfl (by decide) ?_
 refine zfr _ zgg ?_
 exact zdb (rs := [.cell 4 30, .tmp 5]) (vs := [.agg #[.int .i64 0, .slice none 0 0, .slice none 0 0, .slice none 0 0], .bool false]) (post := [bigE ([] : List HP)]) rfl ⟨⟨b2, 0, [.int .i64 0, .slice none 0 0, .slice none 0 0, .slice none 0 0], rfl, rfl, by kernel_rfl, by kernel_rfl, zaj 1 rfl 0 rfl⟩, rfl, trivial⟩ rfl (slQ [0] rfl) ⟨_, ln00, false, rfl, rfl, fun w hw => ⟨⟨rd_nil (w0 := w) (l := []) w (Mem.refl w), fun r hr => by cases hr⟩, ⟨rd_nil (w0 := w) (l := []) w (Mem.refl w), fun r hr => by cases hr⟩, rd_nil (w0 := w) (l := []) w (Mem.refl w)⟩, ⟨rfl, rfl, rfl⟩, ln00_ok⟩
open Go.RowKit
theorem sample_ok (iv sv av ov : Value) : NtOk (Nt.mk 2 sv av ov [Sq.mk 0 1 iv [9]] [An.mk 2 6] [8, 7]) := by
  have hc : (Nt.mk 2 sv av ov [Sq.mk 0 1 iv [9]] [An.mk 2 6] [8, 7]).cnt = 5 := rfl
  have hf : (Nt.mk 2 sv av ov [Sq.mk 0 1 iv [9]] [An.mk 2 6] [8, 7]).fst = 4 := rfl
  refine ⟨(show (0 : Int) ≤ 2 by decide), (show (2 : Int) ≤ 20 by decide), by simp, by simp, by simp, fun s hs => ?_, fun s hs x hx => ?_, fun k hk => ?_, fun x hx => ?_⟩
  · obtain rfl : s = Sq.mk 0 1 iv [9] := List.mem_singleton.1 hs
    exact ⟨.inl ⟨rfl, ⟨(show (0 : Int) ≤ 1 by decide), (show (1 : Int) ≤ 1 by decide)⟩, rfl⟩⟩
  · obtain rfl : s = Sq.mk 0 1 iv [9] := List.mem_singleton.1 hs
    obtain rfl : x = 9 := List.mem_singleton.1 hx
    rw [hc]; exact ⟨by decide, by decide⟩
  · have : k = 0 := by have : k < 1 := hk; omega
    subst this
    rw [hf]; exact ⟨⟨(show (0 : Int) ≤ 2 by decide), (show (2 : Int) < 2 * (4 + ((0 : Nat) : Int)) by decide)⟩, ⟨(show (0 : Int) ≤ 6 by decide), (show (6 : Int) < 2 * (4 + ((0 : Nat) : Int)) by decide)⟩⟩
  · rw [hc]
    rcases List.mem_cons.1 hx with rfl | hx
    · exact ⟨by decide, by decide⟩
    · obtain rfl : x = 7 := List.mem_singleton.1 hx
      exact ⟨by decide, by decide⟩
theorem SampleNet_ret  (w : World)  :
   Calls Try.prog 60 #[] w (Ret w (fun u_ p_ => ∃ (ps : List HP) (m : Nt), u_ = m.agg ∧ p_ = [bigE ps] ∧ (∀ w, (bigE ps).holds w → RdsNt w m) ∧ (m.sv.oneCell' = true ∧ m.av.oneCell' = true ∧ m.ov.oneCell' = true) ∧ NtOk m ∧ m.gs.length ≤ 30)) := by
 refine zbl (N := 8) (args := []) Try.func60 rfl rfl (hc_keep _ [] rfl (srQ ?_))
 refine zdt rfl (zbw (z := .agg #[.int .i64 0, .slice none 0 0, .slice none 0 0, .slice none 0 0]) rfl rfl) ?_
 intro b1
 refine ntQ (srQ ?_)
 refine zdi rfl (zas (z := .int .i64 0) (s := 1) (cs := ([9].map (Value.int .i64))) rfl Try.underlying28 rfl (by decide) rfl (by kernel_rfl) rfl) ?_
 intro g2
 refine hvQ rfl (zcq (cs := #[.int .i64 0, .int .i64 1, .slice (some ⟨g2, 0, none⟩) 1 1]) rfl rfl rfl) (zdi rfl (zas (z := .agg #[.int .i64 0, .int .i64 0, .slice none 0 0]) (s := 3) (cs := [.int .i64 0, .int .i64 1, .slice (some ⟨g2, 0, none⟩) 1 1]) rfl Try.underlying26 rfl (by decide) rfl (by kernel_rfl) rfl) ?_)
 intro g3
 refine hvQ rfl (zcq (cs := #[.int .i64 2, .int .i64 6]) rfl rfl rfl) (zdi rfl (zas (z := .agg #[.int .i64 0, .int .i64 0]) (s := 2) (cs := ([2, 6].map (Value.int .i64))) rfl Try.underlying84 rfl (by decide) rfl (by kernel_rfl) rfl) ?_)
 intro g4
 refine zdi rfl (zas (z := .int .i64 0) (s := 1) (cs := ([8, 7].map (Value.int .i64))) rfl Try.underlying28 rfl (by decide) rfl (by kernel_rfl) rfl) ?_
 intro g5
 refine hvQ rfl (zcq (cs := #[.int .i64 2, .slice (some ⟨g3, 0, none⟩) 1 1, .slice (some ⟨g4, 0, none⟩) 1 1, .slice (some ⟨g5, 0, none⟩) 2 2]) rfl rfl rfl) (zcd (cs' := #[.int .i64 2, .slice (some ⟨g3, 0, none⟩) 1 1, .slice (some ⟨g4, 0, none⟩) 1 1, .slice (some ⟨g5, 0, none⟩) 2 2]) (i := 4) (off := 0) (us := [.int .i64 2, .slice (some ⟨g3, 0, none⟩) 1 1, .slice (some ⟨g4, 0, none⟩) 1 1, .slice (some ⟨g5, 0, none⟩) 2 2]) rfl rfl rfl rfl rfl rfl rfl (zah rfl (zah rfl (zah rfl (zah rfl zbp)))) rfl rfl rfl ?_)
 refine ntQ ?_
 refine zaw (zbn 5 [4, 0, 1, 3, 2] rfl rfl (by decide) ?_)
 refine zcs 4 rfl ?_
 exact zdb (rs := [.cell 0 86]) (vs := [.agg #[.int .i64 2, .slice (some ⟨g3, 0, none⟩) 1 1, .slice (some ⟨g4, 0, none⟩) 1 1, .slice (some ⟨g5, 0, none⟩) 2 2]]) (post := [bigE [rowE 66 3 (.slice (some ⟨g3, 0, none⟩) 1 1) 1 ([.int .i64 0, .int .i64 1, .slice (some ⟨g2, 0, none⟩) 1 1]), rowE 3 1 (.slice (some ⟨g2, 0, none⟩) 1 1) 1 ([9].map (Value.int .i64)), rowE 126 2 (.slice (some ⟨g4, 0, none⟩) 1 1) 1 ([2, 6].map (Value.int .i64)), rowE 3 1 (.slice (some ⟨g5, 0, none⟩) 2 2) 2 ([8, 7].map (Value.int .i64))]]) rfl ⟨⟨b1, 0, [.int .i64 2, .slice (some ⟨g3, 0, none⟩) 1 1, .slice (some ⟨g4, 0, none⟩) 1 1, .slice (some ⟨g5, 0, none⟩) 2 2], rfl, rfl, by kernel_rfl, by kernel_rfl, zaj 1 rfl 0 rfl⟩, trivial⟩ rfl (slQ [0] rfl) ⟨_, Nt.mk 2 (.slice (some ⟨g3, 0, none⟩) 1 1) (.slice (some ⟨g4, 0, none⟩) 1 1) (.slice (some ⟨g5, 0, none⟩) 2 2) [Sq.mk 0 1 (.slice (some ⟨g2, 0, none⟩) 1 1) [9]] [An.mk 2 6] [8, 7], rfl, rfl, fun w hw => ⟨zcc (zbf hw List.mem_cons_self), (fun q hq => by obtain rfl := List.mem_singleton.1 hq; exact zcc (zbf hw (List.mem_cons_of_mem _ List.mem_cons_self))), zcc (zbf hw (List.mem_cons_of_mem _ (List.mem_cons_of_mem _ List.mem_cons_self))), zcc (zbf hw (List.mem_cons_of_mem _ (List.mem_cons_of_mem _ (List.mem_cons_of_mem _ List.mem_cons_self))))⟩, ⟨rfl, rfl, rfl⟩, sample_ok _ _ _ _, by simp⟩
def tL0 (v : Value) : Int := match v with | .tuple #[.agg #[.int _ i, _, _, _], _] => i | _ => 0
def tLk (k : Nat) (v : Value) : Value := match v with | .tuple #[.agg xs, _] => xs.getD k undef | _ => undef
def tLb (v : Value) : Bool := match v with | .tuple #[_, .bool b] => b | _ => false
theorem ln_nil : LnOk (Ln.mk 0 (.slice none 0 0) (.slice none 0 0) (.slice none 0 0) [] [] []) := ⟨⟨⟨(show (0 : Int) ≤ 0 by decide), (show (0 : Int) ≤ 20 by decide)⟩, Nat.zero_le _, Nat.zero_le _, Nat.zero_le _⟩, fun j hj => absurd hj (by simp), fun k hk => absurd hk (by simp), fun k hk => absurd hk (by simp)⟩
theorem nil_rds (w : World) (s : Nat) : RdsW w (.slice none 0 0) s 0 [] := ⟨_, _, rfl, (by simp), ⟨by decide, by decide⟩, fun h => absurd h (by decide)⟩
theorem ln_nil_rds (w : World) : RdsLn w (Ln.mk 0 (.slice none 0 0) (.slice none 0 0) (.slice none 0 0) [] [] []) := ⟨⟨nil_rds w 3, fun r hr => by cases hr⟩, ⟨nil_rds w 2, fun r hr => by cases hr⟩, nil_rds w 1⟩
theorem dev_drawn {a b c : Int} (ha : 0 ≤ a ∧ a < 2) (hb : 0 ≤ b ∧ b < 2) (hc : 0 ≤ c ∧ c < 3) : devB (Dev.mk (4 + a) (4 + b) (2 + c) 1) = true := (zeq _).2 ⟨⟨by show 3 ≤ 4 + a; omega, by show 4 + a ≤ 6; omega⟩, ⟨by show 3 ≤ 4 + b; omega, by show 4 + b ≤ 6; omega⟩, ⟨by show 1 ≤ 2 + c; omega, by show 2 + c ≤ 4; omega⟩, .inr ⟨(show (1 : Int) ≤ 1 by decide), by show (1 : Int) ≤ 4 + a - 2; omega⟩⟩
theorem fits_nil (d : Dev) : Fits d [] := fun c => Nat.zero_le _
theorem l29Task_mut (g : Nat) (a : Option Addr) (len cap : Nat) (z : List Int) (w0 : World) (l : List HP) (w : World) (hm0 : Mem w0 (curE g a len cap :: l) w) (hb : BRow .u8 w0 a len cap z) :
   Calls Try.prog 27 #[.pointer (some ⟨g, 0, none⟩)] w (fun e_ w_ => ∃ v_ p_, e_ = .returned v_ ∧ (fun u_ p_ => ∃ (d : Dev) (n : Ln) (ps : List HP) (bs : List Bk) (bv : Value), u_ = .tuple #[.agg #[.int .i64 d.W, .int .i64 d.H, .int .i64 d.T, .int .i64 d.R], n.agg, bv] ∧ p_ = bigE [curE g a len cap, bigE ps] ∧ (∀ w, (bigE ps).holds w → RdsLn w n ∧ RdsBk w bv bs) ∧ (n.sv.oneCell' = true ∧ n.lv.oneCell' = true ∧ n.ov.oneCell' = true) ∧ bv.oneCell' = true ∧ LnOk n ∧ BsOk bs ∧ bs.length ≤ 64 ∧ devB d = true ∧ Fits d (bs.map Bk.kd)) v_ p_ ∧ Mem w0 (p_ :: l) w_) := by
 refine zfy (N := 62) (args := [.pointer (some ⟨g, 0, none⟩)]) Try.func27 rfl rfl hm0 (srQ ?_)
 refine zdt rfl (zbw (z := .agg #[.int .i64 0, .int .i64 0, .int .i64 0, .int .i64 0]) rfl rfl) ?_
 intro b1
 refine zdt rfl (zbw (z := .agg #[.int .i64 0, .slice none 0 0, .slice none 0 0, .slice none 0 0]) rfl rfl) ?_
 intro b2
 refine zba 1 rfl (zaa (reQ 1 rfl ?_))
 refine zdc (R := (fun u_ p_ => (∃ x_ : Int, u_ = .int .i64 x_ ∧ 0 ≤ x_ ∧ x_ < 2) ∧ p_ = curE g a len cap)) 2 rfl rfl rfl rfl rfl (fun l' w hm => zdd g a len cap z 2 _ _ _ hm hb (by constructor <;> omega)) ?_
 intro v3 p4 hR5
 obtain ⟨⟨xhR5, rfl, xhR50, xhR51⟩, rfl⟩ := hR5
 refine zdz (l' := (boxE b2 #[.int .i64 0, .slice none 0 0, .slice none 0 0, .slice none 0 0] 30 :: boxE b1 #[.int .i64 0, .int .i64 0, .int .i64 0, .int .i64 0] 25 :: curE g a len cap :: l)) rfl ?_
 refine hvQ rfl (vaQ rfl rfl rfl) (zam 1 rfl ?_)
 refine zdc (R := (fun u_ p_ => (∃ x_ : Int, u_ = .int .i64 x_ ∧ 0 ≤ x_ ∧ x_ < 2) ∧ p_ = curE g a len cap)) 2 rfl rfl rfl rfl rfl (fun l' w hm => zdd g a len cap z 2 _ _ _ hm hb (by constructor <;> omega)) ?_
 intro v6 p7 hR8
 obtain ⟨⟨xhR8, rfl, xhR80, xhR81⟩, rfl⟩ := hR8
 refine zdz (l' := (boxE b2 #[.int .i64 0, .slice none 0 0, .slice none 0 0, .slice none 0 0] 30 :: boxE b1 #[.int .i64 0, .int .i64 0, .int .i64 0, .int .i64 0] 25 :: curE g a len cap :: l)) rfl ?_
 refine hvQ rfl (vaQ rfl rfl rfl) (zam 1 rfl ?_)
 refine zdc (R := (fun u_ p_ => (∃ x_ : Int, u_ = .int .i64 x_ ∧ 0 ≤ x_ ∧ x_ < 3) ∧ p_ = curE g a len cap)) 2 rfl rfl rfl rfl rfl (fun l' w hm => zdd g a len cap z 3 _ _ _ hm hb (by constructor <;> omega)) ?_
 intro v9 p10 hR11
 obtain ⟨⟨xhR11, rfl, xhR110, xhR111⟩, rfl⟩ := hR11
 refine zdz (l' := (boxE b2 #[.int .i64 0, .slice none 0 0, .slice none 0 0, .slice none 0 0] 30 :: boxE b1 #[.int .i64 0, .int .i64 0, .int .i64 0, .int .i64 0] 25 :: curE g a len cap :: l)) rfl ?_
 refine hvQ rfl (vaQ rfl rfl rfl) (hvQ rfl (zcq (cs := #[.int .i64 (4 + xhR5), .int .i64 (4 + xhR8), .int .i64 (2 + xhR11), .int .i64 1]) rfl rfl rfl) ?_)
 refine zdt rfl (zbw (z := .agg #[.int .i64 0, .int .i64 0, .int .i64 0, .int .i64 0]) rfl rfl) ?_
 intro b12
 refine zcd (cs' := #[.int .i64 (4 + xhR5), .int .i64 (4 + xhR8), .int .i64 (2 + xhR11), .int .i64 1]) (i := 0) (off := 0) (us := [.int .i64 (4 + xhR5), .int .i64 (4 + xhR8), .int .i64 (2 + xhR11), .int .i64 1]) rfl rfl rfl rfl rfl rfl rfl (zah rfl (zah rfl (zah rfl (zah rfl zbp)))) rfl rfl rfl (ntQ (zfc ?_))
 have hdv9 : devB (Dev.mk (4 + xhR5) (4 + xhR8) (2 + xhR11) 1) = true := dev_drawn ⟨by omega, by omega⟩ ⟨by omega, by omega⟩ ⟨by omega, by omega⟩
 refine zba 1 rfl (zax ?_)
 refine lkQ1 (α := Nat) [0, 2, 3, 4, 5] rfl (fun t => (boxE b12 #[.int .i64 (4 + xhR5), .int .i64 (4 + xhR8), .int .i64 (2 + xhR11), .int .i64 1] 25 :: boxE b2 #[.int .i64 0, .slice none 0 0, .slice none 0 0, .slice none 0 0] 30 :: boxE b1 #[.int .i64 0, .int .i64 0, .int .i64 0, .int .i64 0] 25 :: curE g a len cap :: l)) (fun t => [(6, .int .i64 (t : Int))]) (fun t => t ≤ 4) (fun t => 4 - t) 0 (Nat.zero_le _) (saQ rfl) (.refl _) ?_
 intro t hi13
 have ht := hi13
 refine zaa (zaa (reQ 1 rfl ?_))
 refine zbk rfl rfl rfl rfl rfl rfl (fun h14 => ?_) (fun h14 => ?_)
 ·
  refine ntQ (zak rfl (zcn (sbQ (zaa (reQ 1 rfl ?_)))))
  refine zdc (R := (fun u_ p_ => ∃ n : Nt, u_ = n.agg ∧ p_ = bigE [curE g a len cap, ntE n] ∧ (n.sv.oneCell' = true ∧ n.av.oneCell' = true ∧ n.ov.oneCell' = true) ∧ NtOk n ∧ n.ins ≤ 3 ∧ (n.ss.length : Int) ≤ 2 ∧ (n.gs.length : Int) ≤ 8)) 3 rfl rfl rfl rfl rfl (fun l' w hm => l08Sized_mut g a len cap z 3 2 8 _ _ _ hm hb (by decide) (by decide) (by decide)) ?_
  intro v15 p16 hR17
  obtain ⟨n, rfl, rfl, ⟨o1n, o2n, o3n⟩, hn, hnq1, hnq2, hnq3⟩ := hR17
  refine zdz (l' := (boxE b12 #[.int .i64 (4 + xhR5), .int .i64 (4 + xhR8), .int .i64 (2 + xhR11), .int .i64 1] 25 :: boxE b2 #[.int .i64 0, .slice none 0 0, .slice none 0 0, .slice none 0 0] 30 :: boxE b1 #[.int .i64 0, .int .i64 0, .int .i64 0, .int .i64 0] 25 :: bigE [curE g a len cap, ntE n] :: l)) rfl ?_
  refine hl_pick 4 [2, 1, 0, 3] rfl rfl (by decide) ?_
  refine hl_conv (curE g a len cap :: ntE n :: boxE b12 #[.int .i64 (4 + xhR5), .int .i64 (4 + xhR8), .int .i64 (2 + xhR11), .int .i64 1] 25 :: boxE b2 #[.int .i64 0, .slice none 0 0, .slice none 0 0, .slice none 0 0] 30 :: boxE b1 #[.int .i64 0, .int .i64 0, .int .i64 0, .int .i64 0] 25 :: l) zfk ?_
  refine zfu rfl rfl rfl (zan rfl rfl (fun w hm => Hash_ret n w (nt_rds 1 rfl w hm) hn)) ?_
  intro v18 p19 hR20
  obtain ⟨qs, m, rfl, rfl, hqs, ⟨o1m, o2m, o3m⟩, hmok, hsk, hml⟩ := hR20
  refine zdt rfl (zbw (z := .agg #[.int .i64 0, .slice none 0 0, .slice none 0 0, .slice none 0 0]) rfl rfl) ?_
  intro b21
  refine zcd (cs' := #[.int .i64 m.ins, m.sv, m.av, m.ov]) (i := 0) (off := 0) (us := [.int .i64 m.ins, m.sv, m.av, m.ov]) rfl rfl rfl rfl rfl rfl rfl (zah rfl (zah o1m (zah o2m (zah o3m zbp)))) rfl rfl rfl (ntQ ?_)
  refine zhe (α := Nt) (β := List HP) (fun m qs => (boxE b21 #[.int .i64 m.ins, m.sv, m.av, m.ov] 86 :: bigE qs :: curE g a len cap :: boxE b12 #[.int .i64 (4 + xhR5), .int .i64 (4 + xhR8), .int .i64 (2 + xhR11), .int .i64 1] 25 :: boxE b2 #[.int .i64 0, .slice none 0 0, .slice none 0 0, .slice none 0 0] 30 :: boxE b1 #[.int .i64 0, .int .i64 0, .int .i64 0, .int .i64 0] 25 :: l)) (fun m qs => [(0, .pointer (some ⟨g, 0, none⟩)), (2, .pointer (some ⟨b1, 0, none⟩)), (3, .pointer (some ⟨b2, 0, none⟩)), (4, .slice none 0 0), (5, .pointer (some ⟨b12, 0, none⟩)), (6, .int .i64 (t : Int)), (7, .pointer (some ⟨b21, 0, none⟩)), (23, .bool true)]) (fun m qs => (∀ w, (bigE qs).holds w → RdsNt w m) ∧ (m.sv.oneCell' = true ∧ m.av.oneCell' = true ∧ m.ov.oneCell' = true) ∧ NtOk m ∧ m.gs.length ≤ 30) ?_ ?_
  ·
   refine zaa (reQ 1 rfl ?_)
   refine zby rfl rfl rfl rfl rfl rfl (fun h22 => ?_) (fun h22 => ?_)
   ·
    refine ntQ (zak rfl (zay ?_))
    refine zfu rfl rfl rfl (zan rfl rfl (fun w hm => SampleNet_ret w)) ?_
    intro v23 p24 hR25
    obtain ⟨qs2, m2, rfl, rfl, hqs2, ⟨o1m2, o2m2, o3m2⟩, hmok2, hml2⟩ := hR25
    refine zcd (cs' := #[.int .i64 m2.ins, m2.sv, m2.av, m2.ov]) (i := 1) (off := 0) (us := [.int .i64 m2.ins, m2.sv, m2.av, m2.ov]) rfl rfl rfl rfl rfl rfl rfl (zah rfl (zah o1m2 (zah o2m2 (zah o3m2 zbp)))) rfl rfl rfl (zbr ?_)
    refine zbn 8 [7, 6, 5, 3, 0, 1] rfl rfl (by decide) ?_
    exact zdr m2 qs2 ⟨hqs2, ⟨o1m2, o2m2, o3m2⟩, hmok2, hml2⟩ (saQ rfl) (.refl _)
   refine ntQ (fsQ rfl ?_)
   exact zdr m qs ⟨hqs, ⟨o1m, o2m, o3m⟩, hmok, by omega⟩ (saQ rfl) (.cons_cons _ (.cons_cons _ (.cons_cons _ (.cons _ (.refl _)))))
  intro m qs hm26
  obtain ⟨hqs, ⟨o1m, o2m, o3m⟩, hmok, hml9⟩ := hm26
  refine zaa ?_
  refine hc_draw4 (l := (boxE b21 #[.int .i64 m.ins, m.sv, m.av, m.ov] 86 :: bigE qs :: curE g a len cap :: boxE b12 #[.int .i64 (4 + xhR5), .int .i64 (4 + xhR8), .int .i64 (2 + xhR11), .int .i64 1] 25 :: boxE b2 #[.int .i64 0, .slice none 0 0, .slice none 0 0, .slice none 0 0] 30 :: boxE b1 #[.int .i64 0, .int .i64 0, .int .i64 0, .int .i64 0] 25 :: l)) rfl 9 [0, 1, 2, 3, 4, 5, 6, 7, 8] (List.take 9 _) (List.drop 9 _) [[], [], [1], [0, 2], [3], [3, 4], [3, 4], [], [3, 5, 7]] [some 33, some 34, some 35, some 36, some 32, some 37, some 38, some 8, none] (fun i_ vs_ v_ p_ => match i_ with | 0 => v_ = .agg #[.int .i64 m.ins, m.sv, m.av, m.ov] ∧ p_ = [] | 1 => v_ = .agg #[.int .i64 m.ins, m.sv, m.av, m.ov] ∧ p_ = [] | 2 => (fun u_ p_ => ∃ (ps : List HP) (rs : List CRow), p_ = [rowE 28 1 u_ rs.length (rs.flatMap crowC), bigE ps] ∧ (∀ w, (bigE ps).holds w → RdsAll w rs) ∧ rs.length = m.gs.length ∧ ∀ r ∈ rs, r.xs.length ≤ 400) v_ p_ | 3 => (fun u_ p_ => ∃ (ps : List HP) (m : Ln) (b : Bool), u_ = .tuple #[m.agg, .bool b] ∧ p_ = [bigE ps] ∧ (∀ w, (bigE ps).holds w → RdsLn w m) ∧ (m.sv.oneCell' = true ∧ m.lv.oneCell' = true ∧ m.ov.oneCell' = true) ∧ LnOk m) v_ p_ | 4 => v_ = .tuple #[.agg #[.int .i64 (tL0 (List.getD vs_ 0 undef)), (tLk 1 (List.getD vs_ 0 undef)), (tLk 2 (List.getD vs_ 0 undef)), (tLk 3 (List.getD vs_ 0 undef))], .bool (tLb (List.getD vs_ 0 undef))] ∧ p_ = [] | 5 => v_ = .agg #[.int .i64 (tL0 (List.getD vs_ 0 undef)), (tLk 1 (List.getD vs_ 0 undef)), (tLk 2 (List.getD vs_ 0 undef)), (tLk 3 (List.getD vs_ 0 undef))] ∧ p_ = [] | 6 => v_ = .bool (tLb (List.getD vs_ 0 undef)) ∧ p_ = [] | 7 => IsBox #[.int .i64 0, .slice none 0 0, .slice none 0 0, .slice none 0 0] 30 v_ p_ | 8 => p_ = [boxE (blkOf (List.getD vs_ 2 undef)) #[.int .i64 (tL0 (List.getD vs_ 0 undef)), (tLk 1 (List.getD vs_ 0 undef)), (tLk 2 (List.getD vs_ 0 undef)), (tLk 3 (List.getD vs_ 0 undef))] 30] | _ => True) [[], [], [1], [0, 2], [3], [3, 4], [3, 4], [], [3, 5]] [none, none, none, none, none, none, none, none, some 7] [] [0, 1, 2, 3, 4, 5, 6, 8] 10 (List.take_append_drop 9 _).symm (by kernel_rfl) (by kernel_rfl) (by kernel_rfl) rfl rfl ?_ ?_
  ·
   refine ⟨?_, ?_, ?_, ?_, ?_, ?_, ?_, ?_, ?_, trivial⟩
   ·
    intro vf pf hmu hR
    refine zec [] [] rfl (zbo (zai [7] rfl) (List.sublist_append_right _ _) ?_)
    exact zbe (zao (cs := [.int .i64 m.ins, m.sv, m.av, m.ov]) rfl rfl rfl rfl rfl (zaj 0 rfl 0 rfl))
   ·
    intro vf pf hmu hR
    refine zec [] [] rfl (zbo (zai [7] rfl) (List.sublist_append_right _ _) ?_)
    exact zbe (zao (cs := [.int .i64 m.ins, m.sv, m.av, m.ov]) rfl rfl rfl rfl rfl (zaj 0 rfl 0 rfl))
   ·
    intro vf pf hmu hR
    have e1 := hR 1 (by decide)
    refine zec [1] [1] rfl (zbo (sk 34 (congrArg some e1.1) (zad _)) (List.sublist_append_right _ _) ?_)
    exact zan rfl rfl (fun w hm => DepthMapping_ret m w (hqs w (hm.holds _ (zdj (i := 1) rfl))) hmok)
   ·
    intro vf pf hmu hR
    have e0 := hR 0 (by decide)
    have e2 : (fun u_ p_ => ∃ (ps : List HP) (rs : List CRow), p_ = [rowE 28 1 u_ rs.length (rs.flatMap crowC), bigE ps] ∧ (∀ w, (bigE ps).holds w → RdsAll w rs) ∧ rs.length = m.gs.length ∧ ∀ r ∈ rs, r.xs.length ≤ 400) (vf 2) (pf 2) := hR 2 (by decide)
    obtain ⟨v27, vE2⟩ : ∃ x, vf 2 = x := ⟨_, rfl⟩
    obtain ⟨p28, pE2⟩ : ∃ x, pf 2 = x := ⟨_, rfl⟩
    have hR29 := e2
    rw [vE2, pE2] at hR29
    obtain ⟨ds, rs, rfl, hds, hrl, h400⟩ := hR29
    refine zec [0, 2] [0, 2] rfl (zcj (sk 33 (congrArg some e0.1) (sk 35 (congrArg some vE2) (zad _))) (by simp only [pE2, vE2, e0.2, fS] <;> rfl) ?_)
    exact zan rfl rfl (fun w hm => ToLuts_ret m rs _ w (hqs w (hm.holds _ (zdj (i := 3) rfl))) hmok ⟨zac 0 rfl w hm, hds w (hm.holds _ (zdj (i := 1) rfl))⟩ h400 (by omega))
   ·
    intro vf pf hmu hR
    have e3 : (fun u_ p_ => ∃ (ps : List HP) (m : Ln) (b : Bool), u_ = .tuple #[m.agg, .bool b] ∧ p_ = [bigE ps] ∧ (∀ w, (bigE ps).holds w → RdsLn w m) ∧ (m.sv.oneCell' = true ∧ m.lv.oneCell' = true ∧ m.ov.oneCell' = true) ∧ LnOk m) (vf 3) (pf 3) := hR 3 (by decide)
    obtain ⟨v30, vE3⟩ : ∃ x, vf 3 = x := ⟨_, rfl⟩
    obtain ⟨p31, pE3⟩ : ∃ x, pf 3 = x := ⟨_, rfl⟩
    have hR32 := e3
    rw [vE3, pE3] at hR32
    obtain ⟨ls_, tl, tb, rfl, rfl, hls, ⟨o1t, o2t, o3t⟩, htl⟩ := hR32
    refine zec [3] [3] rfl (zcj (sk 36 (congrArg some vE3) (zad _)) (by simp only [pE3, vE3, fS] <;> rfl) ?_)
    exact zcy (zbe (zat rfl)) (fun _ _ h => ⟨h.1.trans (by show _ = (.tuple #[.agg #[.int .i64 (tL0 (vf 3)), (tLk 1 (vf 3)), (tLk 2 (vf 3)), (tLk 3 (vf 3))], .bool (tLb (vf 3))] : Value); first | (rw [vE3]; done) | (rw [vE3]; rfl)), h.2⟩)
   ·
    intro vf pf hmu hR
    have e3 : (fun u_ p_ => ∃ (ps : List HP) (m : Ln) (b : Bool), u_ = .tuple #[m.agg, .bool b] ∧ p_ = [bigE ps] ∧ (∀ w, (bigE ps).holds w → RdsLn w m) ∧ (m.sv.oneCell' = true ∧ m.lv.oneCell' = true ∧ m.ov.oneCell' = true) ∧ LnOk m) (vf 3) (pf 3) := hR 3 (by decide)
    obtain ⟨v30, vE3⟩ : ∃ x, vf 3 = x := ⟨_, rfl⟩
    obtain ⟨p31, pE3⟩ : ∃ x, pf 3 = x := ⟨_, rfl⟩
    have hR32 := e3
    rw [vE3, pE3] at hR32
    obtain ⟨ls_, tl, tb, rfl, rfl, hls, ⟨o1t, o2t, o3t⟩, htl⟩ := hR32
    have e4 : (vf 4) = .tuple #[.agg #[.int .i64 (tL0 (vf 3)), (tLk 1 (vf 3)), (tLk 2 (vf 3)), (tLk 3 (vf 3))], .bool (tLb (vf 3))] ∧ (pf 4) = [] := hR 4 (by decide)
    rw [vE3] at e4
    refine zec [3, 4] [3, 4] rfl (zcj (sk 32 (congrArg some e4.1) (zad _)) (by simp only [pE3, vE3, e4.2, fS] <;> rfl) ?_)
    exact zcy (zbe (zat rfl)) (fun _ _ h => ⟨h.1.trans (by show _ = (.agg #[.int .i64 (tL0 (vf 3)), (tLk 1 (vf 3)), (tLk 2 (vf 3)), (tLk 3 (vf 3))] : Value); first | (rw [vE3]; done) | (rw [vE3]; rfl)), h.2⟩)
   ·
    intro vf pf hmu hR
    have e3 : (fun u_ p_ => ∃ (ps : List HP) (m : Ln) (b : Bool), u_ = .tuple #[m.agg, .bool b] ∧ p_ = [bigE ps] ∧ (∀ w, (bigE ps).holds w → RdsLn w m) ∧ (m.sv.oneCell' = true ∧ m.lv.oneCell' = true ∧ m.ov.oneCell' = true) ∧ LnOk m) (vf 3) (pf 3) := hR 3 (by decide)
    obtain ⟨v30, vE3⟩ : ∃ x, vf 3 = x := ⟨_, rfl⟩
    obtain ⟨p31, pE3⟩ : ∃ x, pf 3 = x := ⟨_, rfl⟩
    have hR32 := e3
    rw [vE3, pE3] at hR32
    obtain ⟨ls_, tl, tb, rfl, rfl, hls, ⟨o1t, o2t, o3t⟩, htl⟩ := hR32
    have e4 : (vf 4) = .tuple #[.agg #[.int .i64 (tL0 (vf 3)), (tLk 1 (vf 3)), (tLk 2 (vf 3)), (tLk 3 (vf 3))], .bool (tLb (vf 3))] ∧ (pf 4) = [] := hR 4 (by decide)
    rw [vE3] at e4
    refine zec [3, 4] [3, 4] rfl (zcj (sk 32 (congrArg some e4.1) (zad _)) (by simp only [pE3, vE3, e4.2, fS] <;> rfl) ?_)
    exact zcy (zbe (zat rfl)) (fun _ _ h => ⟨h.1.trans (by show _ = (.bool (tLb (vf 3)) : Value); first | (rw [vE3]; done) | (rw [vE3]; rfl)), h.2⟩)
   ·
    intro vf pf hmu hR
    refine zec [] [] rfl (zbo (zad _) (List.sublist_append_right _ _) ?_)
    exact zbw (z := .agg #[.int .i64 0, .slice none 0 0, .slice none 0 0, .slice none 0 0]) rfl rfl
   intro vf pf hmu hR
   have e3 : (fun u_ p_ => ∃ (ps : List HP) (m : Ln) (b : Bool), u_ = .tuple #[m.agg, .bool b] ∧ p_ = [bigE ps] ∧ (∀ w, (bigE ps).holds w → RdsLn w m) ∧ (m.sv.oneCell' = true ∧ m.lv.oneCell' = true ∧ m.ov.oneCell' = true) ∧ LnOk m) (vf 3) (pf 3) := hR 3 (by decide)
   obtain ⟨v30, vE3⟩ : ∃ x, vf 3 = x := ⟨_, rfl⟩
   obtain ⟨p31, pE3⟩ : ∃ x, pf 3 = x := ⟨_, rfl⟩
   have hR32 := e3
   rw [vE3, pE3] at hR32
   obtain ⟨ls_, tl, tb, rfl, rfl, hls, ⟨o1t, o2t, o3t⟩, htl⟩ := hR32
   have e5 : (vf 5) = .agg #[.int .i64 (tL0 (vf 3)), (tLk 1 (vf 3)), (tLk 2 (vf 3)), (tLk 3 (vf 3))] ∧ (pf 5) = [] := hR 5 (by decide)
   rw [vE3] at e5
   have e7 : IsBox #[.int .i64 0, .slice none 0 0, .slice none 0 0, .slice none 0 0] 30 (vf 7) (pf 7) := hR 7 (by decide)
   obtain ⟨b33, vE7, pE7⟩ := e7
   refine Or.inl ⟨rfl, ?_⟩
   show RunM _ _ _ (pf 7) (([3, 5] : List Nat).flatMap pf ++ _) (envOf3 _ vf [3, 5, 7] ++ _) _ _
   rw [pE7]
   exact zdq (sk 8 (congrArg some vE7) (sk 37 (congrArg some e5.1) (zad _))) (by simp only [pE3, vE3, e5.2, fS] <;> rfl) (rm_mono (zfi (us := [.int .i64 tl.ins, tl.sv, tl.lv, tl.ov]) (off := 0) 0 rfl rfl rfl rfl rfl rfl (zah rfl (zah o1t (zah o2t (zah o3t zbp)))) rfl rfl) (fun v_ p_ h => by show p_ = [boxE (blkOf (vf 7)) #[.int .i64 (tL0 (vf 3)), (tLk 1 (vf 3)), (tLk 2 (vf 3)), (tLk 3 (vf 3))] 30]; rw [vE3, vE7]; exact h))
  intro vf pf hmu hR
  have e2 : (fun u_ p_ => ∃ (ps : List HP) (rs : List CRow), p_ = [rowE 28 1 u_ rs.length (rs.flatMap crowC), bigE ps] ∧ (∀ w, (bigE ps).holds w → RdsAll w rs) ∧ rs.length = m.gs.length ∧ ∀ r ∈ rs, r.xs.length ≤ 400) (vf 2) (pf 2) := hR 2 (by decide)
  obtain ⟨v27, vE2⟩ : ∃ x, vf 2 = x := ⟨_, rfl⟩
  obtain ⟨p28, pE2⟩ : ∃ x, pf 2 = x := ⟨_, rfl⟩
  have hR29 := e2
  rw [vE2, pE2] at hR29
  obtain ⟨ds, rs, rfl, hds, hrl, h400⟩ := hR29
  have e3 : (fun u_ p_ => ∃ (ps : List HP) (m : Ln) (b : Bool), u_ = .tuple #[m.agg, .bool b] ∧ p_ = [bigE ps] ∧ (∀ w, (bigE ps).holds w → RdsLn w m) ∧ (m.sv.oneCell' = true ∧ m.lv.oneCell' = true ∧ m.ov.oneCell' = true) ∧ LnOk m) (vf 3) (pf 3) := hR 3 (by decide)
  obtain ⟨v30, vE3⟩ : ∃ x, vf 3 = x := ⟨_, rfl⟩
  obtain ⟨p31, pE3⟩ : ∃ x, pf 3 = x := ⟨_, rfl⟩
  have hR32 := e3
  rw [vE3, pE3] at hR32
  obtain ⟨ls_, tl, tb, rfl, rfl, hls, ⟨o1t, o2t, o3t⟩, htl⟩ := hR32
  have e6 : (vf 6) = .bool (tLb (vf 3)) ∧ (pf 6) = [] := hR 6 (by decide)
  rw [vE3] at e6
  have e7 : IsBox #[.int .i64 0, .slice none 0 0, .slice none 0 0, .slice none 0 0] 30 (vf 7) (pf 7) := hR 7 (by decide)
  obtain ⟨b33, vE7, pE7⟩ := e7
  have e8 : (pf 8) = [boxE (blkOf (vf 7)) #[.int .i64 (tL0 (vf 3)), (tLk 1 (vf 3)), (tLk 2 (vf 3)), (tLk 3 (vf 3))] 30] := hR 8 (by decide)
  rw [vE3, vE7] at e8
  have pE8 := e8
  have q0 := hR 0 (by decide)
  have q1 := hR 1 (by decide)
  have q4 := hR 4 (by decide)
  have q5 := hR 5 (by decide)
  have q6 := hR 6 (by decide)
  refine zck (zbj [7, 6, 5, 4, 3, 2, 0] _ (sk 8 (congrArg some vE7) (sk 23 rfl (sk 38 (congrArg some e6.1) (zad _)))) rfl) (by simp only [pE2, vE2, pE3, vE3, pE8, q0.2, q1.2, q4.2, q5.2, q6.2, fS] <;> rfl) ?_
  simp only [List.drop_succ_cons, List.drop_zero]
  refine zba 1 rfl (srQ (hvQ rfl (zao (cs := [.int .i64 tl.ins, tl.sv, tl.lv, tl.ov]) rfl rfl rfl rfl rfl (zaj 3 rfl 0 rfl)) ?_))
  refine zfu rfl rfl rfl (zan rfl rfl (fun w hm => Pack_ret tl w (hls w (hm.holds _ (zdj (i := 2) rfl))) htl)) ?_
  intro v34 p35 hR36
  obtain ⟨kp, bs, bv, okp, rfl, rfl, hkp, o1b, hbo, hb64⟩ := hR36
  refine zam 3 rfl (zbx (fun h37 => ?_) (fun h37 => ?_))
  ·
   refine zba 2 rfl (zaa ?_)
   refine zhd 11 [10, 9, 8, 6, 5, 4, 3, 2, 1, 0, 7] rfl rfl (by decide) ?_
   refine hc_draw2 (l := (bigE kp :: rowE 28 1 v27 rs.length (rs.flatMap crowC) :: bigE ds :: bigE ls_ :: boxE b33 #[.int .i64 tl.ins, tl.sv, tl.lv, tl.ov] 30 :: boxE b21 #[.int .i64 m.ins, m.sv, m.av, m.ov] 86 :: bigE qs :: boxE b12 #[.int .i64 (4 + xhR5), .int .i64 (4 + xhR8), .int .i64 (2 + xhR11), .int .i64 1] 25 :: boxE b2 #[.int .i64 0, .slice none 0 0, .slice none 0 0, .slice none 0 0] 30 :: boxE b1 #[.int .i64 0, .int .i64 0, .int .i64 0, .int .i64 0] 25 :: l)) rfl 12 [0, 1, 2, 3, 4, 5, 6, 7, 8, 9, 10, 11] (List.take 12 _) (List.drop 12 _) [[], [0], [1], [1], [1], [1, 4], [1, 2, 3, 5], [1, 6], [1], [1, 8], [1, 6, 7, 9], [1, 6, 10]] [44, 45, 46, 47, 48, 49, 50, 51, 52, 53, 54, 55] (fun i_ vs_ v_ p_ => match i_ with | 0 => v_ = .bool true ∧ p_ = [] | 1 => v_ = .bool true ∧ p_ = [] | 2 => v_ = .pointer (some ⟨g, 0, none⟩) ∧ p_ = [] | 3 => v_ = .agg #[.int .i64 (4 + xhR5), .int .i64 (4 + xhR8), .int .i64 (2 + xhR11), .int .i64 1] ∧ p_ = [] | 4 => v_ = bv ∧ p_ = [] | 5 => (fun v' post => post = [rowE 3 1 v' ((bs.map Bk.kd)).length (((bs.map Bk.kd)).map (Value.int .i64))]) v_ p_ | 6 => (∃ pm_, p_ = [pm_] ∧ (fun u_ p_ => ∃ zs : List Int, p_ = bigE [curE g a len cap, rowE 3 1 u_ zs.length (zs.map (Value.int .i64))] ∧ (lenN u_ = zs.length ∧ u_.oneCell' = true) ∧ ((Fits (Dev.mk (4 + xhR5) (4 + xhR8) (2 + xhR11) 1) (bs.map Bk.kd) ∧ zs.length = (bs.map Bk.kd).length ∧ PlP (Dev.mk (4 + xhR5) (4 + xhR8) (2 + xhR11) 1) (bs.map Bk.kd) zs) ∨ (¬ Fits (Dev.mk (4 + xhR5) (4 + xhR8) (2 + xhR11) 1) (bs.map Bk.kd) ∧ zs = []))) v_ pm_) | 7 => v_ = .int .i64 (lenN (List.getD vs_ 1 undef) : Int) ∧ p_ = [] | 8 => v_ = bv ∧ p_ = [] | 9 => v_ = .int .i64 (bs.length : Int) ∧ p_ = [] | 10 => v_ = .bool ((lenN (List.getD vs_ 1 undef) : Int) == (bs.length : Int)) ∧ p_ = [] | 11 => v_ = .bool ((lenN (List.getD vs_ 1 undef) : Int) == (bs.length : Int)) ∧ p_ = [] | _ => True) [[], [0], [1], [1], [1], [1, 4], [1, 2, 3, 5], [1, 6], [1], [1, 8], [1, 6, 7, 9], [1, 6, 10]] [none, none, none, none, none, none, some 12, none, none, none, none, none] [curE g a len cap] [0, 1, 2, 3, 4, 5, 6, 7, 8, 9, 10, 11] 12 (List.take_append_drop 12 _).symm (by kernel_rfl) (by kernel_rfl) (by kernel_rfl) rfl rfl ?_ ?_
   ·
    refine ⟨?_, ?_, ?_, ?_, ?_, ?_, ?_, ?_, ?_, ?_, ?_, ?_, trivial⟩
    ·
     intro vf pf hmu hR
     refine dqQ [] [] rfl (zce (zai [11] rfl) ?_)
     exact zbe (zat rfl)
    ·
     intro vf pf hmu hR
     have e0 := hR 0 (by decide)
     refine dqQ [0] [0] rfl (zce (sk 44 (congrArg some e0.1) (zad _)) ?_)
     exact zbe (zat rfl)
    ·
     intro vf pf hmu hR
     have e1 := hR 1 (by decide)
     refine Or.inl ⟨zda (congrArg some e1.1) rfl, ?_⟩
     show RunQ _ _ _ (([1] : List Nat).flatMap pf ++ _) (envOf _ vf [1] ++ _) _ _
     exact zce (zai [0] rfl) (zbe (zat rfl))
    ·
     intro vf pf hmu hR
     have e1 := hR 1 (by decide)
     refine Or.inl ⟨zda (congrArg some e1.1) rfl, ?_⟩
     show RunQ _ _ _ (([1] : List Nat).flatMap pf ++ _) (envOf _ vf [1] ++ _) _ _
     exact zbo (zai [5] rfl) (List.sublist_append_right _ _) (zbe (zao (cs := [.int .i64 (4 + xhR5), .int .i64 (4 + xhR8), .int .i64 (2 + xhR11), .int .i64 1]) rfl rfl rfl rfl rfl (zaj 7 rfl 0 rfl)))
    ·
     intro vf pf hmu hR
     have e1 := hR 1 (by decide)
     refine Or.inl ⟨zda (congrArg some e1.1) rfl, ?_⟩
     show RunQ _ _ _ (([1] : List Nat).flatMap pf ++ _) (envOf _ vf [1] ++ _) _ _
     exact zce (zai [10] rfl) (zbe (zat rfl))
    ·
     intro vf pf hmu hR
     have e1 := hR 1 (by decide)
     have e4 := hR 4 (by decide)
     refine Or.inl ⟨zda (congrArg some e1.1) rfl, ?_⟩
     show RunQ _ _ _ (([1, 4] : List Nat).flatMap pf ++ _) (envOf _ vf [1, 4] ++ _) _ _
     exact zbo (sk 48 (congrArg some e4.1) (zad _)) (List.sublist_append_right _ _) (zan rfl rfl (fun w hm => l29Kinds_ret bs _ w (hkp w (hm.holds _ (zdj (i := 0) rfl))) (by omega)))
    ·
     intro vf pf hmu hR
     have e1 := hR 1 (by decide)
     have e2 := hR 2 (by decide)
     have e3 := hR 3 (by decide)
     have e5 : (fun v' post => post = [rowE 3 1 v' ((bs.map Bk.kd)).length (((bs.map Bk.kd)).map (Value.int .i64))]) (vf 5) (pf 5) := hR 5 (by decide)
     obtain ⟨v38, vE5⟩ : ∃ x, vf 5 = x := ⟨_, rfl⟩
     obtain ⟨p39, pE5⟩ : ∃ x, pf 5 = x := ⟨_, rfl⟩
     have hR40 := e5
     rw [vE5, pE5] at hR40
     subst hR40
     refine Or.inl ⟨zda (congrArg some e1.1) rfl, ?_⟩
     show RunM _ _ _ (pf 12) (([1, 2, 3, 5] : List Nat).flatMap pf ++ _) (envOf _ vf [1, 2, 3, 5] ++ _) _ _
     rw [hmu]
     exact zdq (sk 46 (congrArg some e2.1) (sk 47 (congrArg some e3.1) (sk 49 (congrArg some vE5) (zad _)))) (by simp only [pE5, vE5, e1.2, e2.2, e3.2, fS] <;> rfl) (zfd (R := (fun u_ p_ => ∃ zs : List Int, p_ = bigE [curE g a len cap, rowE 3 1 u_ zs.length (zs.map (Value.int .i64))] ∧ (lenN u_ = zs.length ∧ u_.oneCell' = true) ∧ ((Fits (Dev.mk (4 + xhR5) (4 + xhR8) (2 + xhR11) 1) (bs.map Bk.kd) ∧ zs.length = (bs.map Bk.kd).length ∧ PlP (Dev.mk (4 + xhR5) (4 + xhR8) (2 + xhR11) 1) (bs.map Bk.kd) zs) ∨ (¬ Fits (Dev.mk (4 + xhR5) (4 + xhR8) (2 + xhR11) 1) (bs.map Bk.kd) ∧ zs = [])))) rfl rfl (fun L w hX hm => zgf g a len cap z (Dev.mk (4 + xhR5) (4 + xhR8) (2 + xhR11) 1) (bs.map Bk.kd) v38 _ _ _ hm hb hdv9 (fun w hm9 => by have h9 := hX w hm9; exact zac 0 rfl w h9) (by rw [List.length_map]; omega)))
    ·
     intro vf pf hmu hR
     have e1 := hR 1 (by decide)
     have e6 : (∃ pm_, (pf 6) = [pm_] ∧ (fun u_ p_ => ∃ zs : List Int, p_ = bigE [curE g a len cap, rowE 3 1 u_ zs.length (zs.map (Value.int .i64))] ∧ (lenN u_ = zs.length ∧ u_.oneCell' = true) ∧ ((Fits (Dev.mk (4 + xhR5) (4 + xhR8) (2 + xhR11) 1) (bs.map Bk.kd) ∧ zs.length = (bs.map Bk.kd).length ∧ PlP (Dev.mk (4 + xhR5) (4 + xhR8) (2 + xhR11) 1) (bs.map Bk.kd) zs) ∨ (¬ Fits (Dev.mk (4 + xhR5) (4 + xhR8) (2 + xhR11) 1) (bs.map Bk.kd) ∧ zs = []))) (vf 6) pm_) := hR 6 (by decide)
     obtain ⟨p42, pE6, hR43⟩ := e6
     obtain ⟨v41, vE6⟩ : ∃ x, vf 6 = x := ⟨_, rfl⟩
     rw [vE6] at hR43
     obtain ⟨zrhR43, rfl, ⟨hlnhR43, honhR43⟩, hzhR43⟩ := hR43
     refine Or.inl ⟨zda (congrArg some e1.1) rfl, ?_⟩
     show RunQ _ _ _ (([1, 6] : List Nat).flatMap pf ++ _) (envOf _ vf [1, 6] ++ _) _ _
     exact zcj (sk 50 (congrArg some vE6) (zad _)) (by simp only [pE6, vE6, e1.2, fS] <;> rfl) (zcy (zbe (lnQ rfl rfl rfl (rd_lenN (fun w hm => zcc (hold_at (hm.holds _ (zdj (i := 0) rfl)) (j := 1) rfl))))) (fun _ _ h => ⟨h.1.trans (by show _ = (.int .i64 (lenN (vf 6) : Int) : Value); first | (rw [vE6]; done) | (rw [vE6]; rfl)), h.2⟩))
    ·
     intro vf pf hmu hR
     have e1 := hR 1 (by decide)
     refine Or.inl ⟨zda (congrArg some e1.1) rfl, ?_⟩
     show RunQ _ _ _ (([1] : List Nat).flatMap pf ++ _) (envOf _ vf [1] ++ _) _ _
     exact zce (zai [10] rfl) (zbe (zat rfl))
    ·
     intro vf pf hmu hR
     have e1 := hR 1 (by decide)
     have e8 := hR 8 (by decide)
     refine Or.inl ⟨zda (congrArg some e1.1) rfl, ?_⟩
     show RunQ _ _ _ (([1, 8] : List Nat).flatMap pf ++ _) (envOf _ vf [1, 8] ++ _) _ _
     exact zbo (sk 52 (congrArg some e8.1) (zad _)) (List.sublist_append_right _ _) (zbe (lnQ rfl rfl rfl (fun w hm => (hkp w (hm.holds _ (zdj (i := 0) rfl))).row)))
    ·
     intro vf pf hmu hR
     have e1 := hR 1 (by decide)
     have e6 : (∃ pm_, (pf 6) = [pm_] ∧ (fun u_ p_ => ∃ zs : List Int, p_ = bigE [curE g a len cap, rowE 3 1 u_ zs.length (zs.map (Value.int .i64))] ∧ (lenN u_ = zs.length ∧ u_.oneCell' = true) ∧ ((Fits (Dev.mk (4 + xhR5) (4 + xhR8) (2 + xhR11) 1) (bs.map Bk.kd) ∧ zs.length = (bs.map Bk.kd).length ∧ PlP (Dev.mk (4 + xhR5) (4 + xhR8) (2 + xhR11) 1) (bs.map Bk.kd) zs) ∨ (¬ Fits (Dev.mk (4 + xhR5) (4 + xhR8) (2 + xhR11) 1) (bs.map Bk.kd) ∧ zs = []))) (vf 6) pm_) := hR 6 (by decide)
     obtain ⟨p42, pE6, hR43⟩ := e6
     obtain ⟨v41, vE6⟩ : ∃ x, vf 6 = x := ⟨_, rfl⟩
     rw [vE6] at hR43
     obtain ⟨zrhR43, rfl, ⟨hlnhR43, honhR43⟩, hzhR43⟩ := hR43
     have e7 : (vf 7) = .int .i64 (lenN (vf 6) : Int) ∧ (pf 7) = [] := hR 7 (by decide)
     rw [vE6] at e7
     have e9 := hR 9 (by decide)
     refine Or.inl ⟨zda (congrArg some e1.1) rfl, ?_⟩
     show RunQ _ _ _ (([1, 6, 7, 9] : List Nat).flatMap pf ++ _) (envOf _ vf [1, 6, 7, 9] ++ _) _ _
     exact zcj (sk 51 (congrArg some e7.1) (sk 53 (congrArg some e9.1) (zad _))) (by simp only [pE6, vE6, e1.2, e7.2, e9.2, fS] <;> rfl) (zcy (zbe (zdf rfl rfl rfl rfl)) (fun _ _ h => ⟨h.1.trans (by show _ = (.bool ((lenN (vf 6) : Int) == (bs.length : Int)) : Value); first | (rw [vE6]; done) | (rw [vE6]; rfl)), h.2⟩))
    intro vf pf hmu hR
    have e1 := hR 1 (by decide)
    have e6 : (∃ pm_, (pf 6) = [pm_] ∧ (fun u_ p_ => ∃ zs : List Int, p_ = bigE [curE g a len cap, rowE 3 1 u_ zs.length (zs.map (Value.int .i64))] ∧ (lenN u_ = zs.length ∧ u_.oneCell' = true) ∧ ((Fits (Dev.mk (4 + xhR5) (4 + xhR8) (2 + xhR11) 1) (bs.map Bk.kd) ∧ zs.length = (bs.map Bk.kd).length ∧ PlP (Dev.mk (4 + xhR5) (4 + xhR8) (2 + xhR11) 1) (bs.map Bk.kd) zs) ∨ (¬ Fits (Dev.mk (4 + xhR5) (4 + xhR8) (2 + xhR11) 1) (bs.map Bk.kd) ∧ zs = []))) (vf 6) pm_) := hR 6 (by decide)
    obtain ⟨p42, pE6, hR43⟩ := e6
    obtain ⟨v41, vE6⟩ : ∃ x, vf 6 = x := ⟨_, rfl⟩
    rw [vE6] at hR43
    obtain ⟨zrhR43, rfl, ⟨hlnhR43, honhR43⟩, hzhR43⟩ := hR43
    have e10 : (vf 10) = .bool ((lenN (vf 6) : Int) == (bs.length : Int)) ∧ (pf 10) = [] := hR 10 (by decide)
    rw [vE6] at e10
    refine dqQ [1, 6, 10] [1, 6, 10] rfl (zcj (sk 45 (congrArg some e1.1) (sk 54 (congrArg some e10.1) (zad _))) (by simp only [pE6, vE6, e1.2, e10.2, fS] <;> rfl) ?_)
    exact zcy (zbe (zat rfl)) (fun _ _ h => ⟨h.1.trans (by show _ = (.bool ((lenN (vf 6) : Int) == (bs.length : Int)) : Value); first | (rw [vE6]; done) | (rw [vE6]; rfl)), h.2⟩)
   intro vf pf hmu hR
   have e5 : (fun v' post => post = [rowE 3 1 v' ((bs.map Bk.kd)).length (((bs.map Bk.kd)).map (Value.int .i64))]) (vf 5) (pf 5) := hR 5 (by decide)
   obtain ⟨v38, vE5⟩ : ∃ x, vf 5 = x := ⟨_, rfl⟩
   obtain ⟨p39, pE5⟩ : ∃ x, pf 5 = x := ⟨_, rfl⟩
   have hR40 := e5
   rw [vE5, pE5] at hR40
   subst hR40
   have e6 : (∃ pm_, (pf 6) = [pm_] ∧ (fun u_ p_ => ∃ zs : List Int, p_ = bigE [curE g a len cap, rowE 3 1 u_ zs.length (zs.map (Value.int .i64))] ∧ (lenN u_ = zs.length ∧ u_.oneCell' = true) ∧ ((Fits (Dev.mk (4 + xhR5) (4 + xhR8) (2 + xhR11) 1) (bs.map Bk.kd) ∧ zs.length = (bs.map Bk.kd).length ∧ PlP (Dev.mk (4 + xhR5) (4 + xhR8) (2 + xhR11) 1) (bs.map Bk.kd) zs) ∨ (¬ Fits (Dev.mk (4 + xhR5) (4 + xhR8) (2 + xhR11) 1) (bs.map Bk.kd) ∧ zs = []))) (vf 6) pm_) := hR 6 (by decide)
   obtain ⟨p42, pE6, hR43⟩ := e6
   obtain ⟨v41, vE6⟩ : ∃ x, vf 6 = x := ⟨_, rfl⟩
   rw [vE6] at hR43
   obtain ⟨zrhR43, rfl, ⟨hlnhR43, honhR43⟩, hzhR43⟩ := hR43
   have e11 : (vf 11) = .bool ((lenN (vf 6) : Int) == (bs.length : Int)) ∧ (pf 11) = [] := hR 11 (by decide)
   rw [vE6] at e11
   have q0 := hR 0 (by decide)
   have q1 := hR 1 (by decide)
   have q2 := hR 2 (by decide)
   have q3 := hR 3 (by decide)
   have q4 := hR 4 (by decide)
   have q7 := hR 7 (by decide)
   have q8 := hR 8 (by decide)
   have q9 := hR 9 (by decide)
   have q10 := hR 10 (by decide)
   have q11 := hR 11 (by decide)
   refine zck (zbj [23, 11, 10, 8, 7, 6, 5, 4, 3, 2, 0] _ (sk 55 (congrArg some e11.1) (zad _)) rfl) (by simp only [pE5, vE5, pE6, vE6, q0.2, q1.2, q2.2, q3.2, q4.2, q7.2, q8.2, q9.2, q10.2, q11.2, fS] <;> rfl) ?_
   simp only [List.drop_succ_cons, List.drop_zero]
   refine ntQ ?_
   refine hc_cond rfl (fun h44 => ?_) (fun h44 => ?_)
   ·
    refine zaa ?_
    have hle9 : (lenN v41 : Int) = (bs.length : Int) := beq_iff_eq.1 (by assumption)
    refine zhd 12 [9, 8, 7, 6, 5, 4, 3, 2, 1, 0, 10, 11] rfl rfl (by decide) ?_
    refine hc_draw4 (l := (rowE 3 1 v38 ((bs.map Bk.kd).length) ((bs.map Bk.kd).map (Value.int .i64)) :: bigE [curE g a len cap, rowE 3 1 v41 zrhR43.length (zrhR43.map (Value.int .i64))] :: bigE kp :: rowE 28 1 v27 rs.length (rs.flatMap crowC) :: bigE ds :: bigE ls_ :: boxE b33 #[.int .i64 tl.ins, tl.sv, tl.lv, tl.ov] 30 :: boxE b21 #[.int .i64 m.ins, m.sv, m.av, m.ov] 86 :: bigE qs :: boxE b12 #[.int .i64 (4 + xhR5), .int .i64 (4 + xhR8), .int .i64 (2 + xhR11), .int .i64 1] 25 :: l)) rfl 5 [0, 1, 2, 3, 4] (List.take 5 _) (List.drop 5 _) [[], [], [], [0], [1]] [some 56, some 57, some 58, none, none] (fun i_ vs_ v_ p_ => match i_ with | 0 => v_ = .agg #[.int .i64 (4 + xhR5), .int .i64 (4 + xhR8), .int .i64 (2 + xhR11), .int .i64 1] ∧ p_ = [] | 1 => v_ = .agg #[.int .i64 tl.ins, tl.sv, tl.lv, tl.ov] ∧ p_ = [] | 2 => v_ = bv ∧ p_ = [] | 3 => p_ = [boxE b1 #[.int .i64 (4 + xhR5), .int .i64 (4 + xhR8), .int .i64 (2 + xhR11), .int .i64 1] 25] | 4 => p_ = [boxE b2 #[.int .i64 tl.ins, tl.sv, tl.lv, tl.ov] 30] | _ => True) [[], [], [], [0], [1]] [none, none, none, some 6, some 7] [[boxE b1 #[.int .i64 0, .int .i64 0, .int .i64 0, .int .i64 0] 25], [boxE b2 #[.int .i64 0, .slice none 0 0, .slice none 0 0, .slice none 0 0] 30]] [0, 1, 2, 3, 4] 6 (List.take_append_drop 5 _).symm (by kernel_rfl) (by kernel_rfl) (by kernel_rfl) rfl rfl ?_ ?_
    ·
     refine ⟨?_, ?_, ?_, ?_, ?_, trivial⟩
     ·
      intro vf pf hmu hR
      refine zec [] [] rfl (zbo (zai [5] rfl) (List.sublist_append_right _ _) ?_)
      exact zbe (zao (cs := [.int .i64 (4 + xhR5), .int .i64 (4 + xhR8), .int .i64 (2 + xhR11), .int .i64 1]) rfl rfl rfl rfl rfl (zaj 9 rfl 0 rfl))
     ·
      intro vf pf hmu hR
      refine zec [] [] rfl (zbo (zai [8] rfl) (List.sublist_append_right _ _) ?_)
      exact zbe (zao (cs := [.int .i64 tl.ins, tl.sv, tl.lv, tl.ov]) rfl rfl rfl rfl rfl (zaj 6 rfl 0 rfl))
     ·
      intro vf pf hmu hR
      refine zec [] [] rfl (zce (zai [10] rfl) ?_)
      exact zbe (zat rfl)
     ·
      intro vf pf hmu hR
      have e0 := hR 0 (by decide)
      refine Or.inl ⟨rfl, ?_⟩
      show RunM _ _ _ (pf 6) (([0] : List Nat).flatMap pf ++ _) (envOf3 _ vf [0] ++ _) _ _
      have hmu0 : pf 6 = [boxE b1 #[.int .i64 0, .int .i64 0, .int .i64 0, .int .i64 0] 25] := hmu 0 (show 0 < 2 by omega)
      rw [hmu0]
      exact zdq (sk 2 rfl (sk 56 (congrArg some e0.1) (zad _))) (by simp only [e0.2, fS] <;> rfl) (rm_mono (zfi (us := [.int .i64 (4 + xhR5), .int .i64 (4 + xhR8), .int .i64 (2 + xhR11), .int .i64 1]) (off := 0) 0 rfl rfl rfl rfl rfl rfl (zah rfl (zah rfl (zah rfl (zah rfl zbp)))) rfl rfl) (fun v_ p_ h => by show p_ = [boxE b1 #[.int .i64 (4 + xhR5), .int .i64 (4 + xhR8), .int .i64 (2 + xhR11), .int .i64 1] 25]; exact h))
     intro vf pf hmu hR
     have e1 := hR 1 (by decide)
     refine Or.inl ⟨rfl, ?_⟩
     show RunM _ _ _ (pf 7) (([1] : List Nat).flatMap pf ++ _) (envOf3 _ vf [1] ++ _) _ _
     have hmu1 : pf 7 = [boxE b2 #[.int .i64 0, .slice none 0 0, .slice none 0 0, .slice none 0 0] 30] := hmu 1 (show 1 < 2 by omega)
     rw [hmu1]
     exact zdq (sk 3 rfl (sk 57 (congrArg some e1.1) (zad _))) (by simp only [e1.2, fS] <;> rfl) (rm_mono (zfi (us := [.int .i64 tl.ins, tl.sv, tl.lv, tl.ov]) (off := 0) 0 rfl rfl rfl rfl rfl rfl (zah rfl (zah o1t (zah o2t (zah o3t zbp)))) rfl rfl) (fun v_ p_ h => by show p_ = [boxE b2 #[.int .i64 tl.ins, tl.sv, tl.lv, tl.ov] 30]; exact h))
    intro vf pf hmu hR
    have e2 := hR 2 (by decide)
    have e3 : (pf 3) = [boxE b1 #[.int .i64 (4 + xhR5), .int .i64 (4 + xhR8), .int .i64 (2 + xhR11), .int .i64 1] 25] := hR 3 (by decide)
    have pE3 := e3
    have e4 : (pf 4) = [boxE b2 #[.int .i64 tl.ins, tl.sv, tl.lv, tl.ov] 30] := hR 4 (by decide)
    have pE4 := e4
    have q0 := hR 0 (by decide)
    have q1 := hR 1 (by decide)
    have q2 := hR 2 (by decide)
    refine zck (zbj [55, 23, 11, 10, 8, 7, 6, 5, 4, 3, 2, 0] _ (sk 58 (congrArg some e2.1) (zad _)) rfl) (by simp only [pE3, pE4, q0.2, q1.2, q2.2, fS] <;> rfl) ?_
    simp only [List.drop_succ_cons, List.drop_zero]
    refine zba 1 rfl ?_
    refine zaw (zaq ?_)
    refine zgp ?_
    refine zaq (zap ?_)
    have hfit : Fits (Dev.mk (4 + xhR5) (4 + xhR8) (2 + xhR11) 1) (bs.map Bk.kd) := hzhR43.elim (fun q => q.1) (fun q => by
                                  have h2 := hlnhR43
                                  rw [q.2, List.length_nil] at h2
                                  have hbz : bs.length = 0 := by omega
                                  rw [List.length_eq_zero_iff.1 hbz]; exact fits_nil _)
    refine zbn 12 [11, 10, 9, 8, 7, 6, 5, 4, 2, 1, 0, 3] rfl rfl (by decide) ?_
    refine zfr (curE g a len cap :: rowE 3 1 v41 zrhR43.length (zrhR43.map (Value.int .i64)) :: boxE b1 #[.int .i64 (4 + xhR5), .int .i64 (4 + xhR8), .int .i64 (2 + xhR11), .int .i64 1] 25 :: boxE b2 #[.int .i64 tl.ins, tl.sv, tl.lv, tl.ov] 30 :: rowE 3 1 v38 ((bs.map Bk.kd).length) ((bs.map Bk.kd).map (Value.int .i64)) :: bigE kp :: rowE 28 1 v27 rs.length (rs.flatMap crowC) :: bigE ds :: bigE ls_ :: boxE b33 #[.int .i64 tl.ins, tl.sv, tl.lv, tl.ov] 30 :: boxE b21 #[.int .i64 m.ins, m.sv, m.av, m.ov] 86 :: bigE qs :: boxE b12 #[.int .i64 (4 + xhR5), .int .i64 (4 + xhR8), .int .i64 (2 + xhR11), .int .i64 1] 25 :: l) zfk ?_
    refine zbn 13 [12, 10, 9, 3, 2, 0, 5, 8] rfl rfl (by decide) ?_
    refine zcs 2 rfl ?_
    refine zbn 7 [6, 5, 4, 3, 2, 0, 1] rfl rfl (by decide) ?_
    refine zcs 2 rfl ?_
    exact zgm (rs := [.cell 2 25, .cell 3 30, .tmp 4]) (vs := [.agg #[.int .i64 (4 + xhR5), .int .i64 (4 + xhR8), .int .i64 (2 + xhR11), .int .i64 1], .agg #[.int .i64 tl.ins, tl.sv, tl.lv, tl.ov], bv]) rfl ⟨⟨b1, 0, [.int .i64 (4 + xhR5), .int .i64 (4 + xhR8), .int .i64 (2 + xhR11), .int .i64 1], rfl, rfl, by kernel_rfl, by kernel_rfl, zaj 1 rfl 0 rfl⟩, ⟨b2, 0, [.int .i64 tl.ins, tl.sv, tl.lv, tl.ov], rfl, rfl, by kernel_rfl, by kernel_rfl, zaj 2 rfl 0 rfl⟩, rfl, trivial⟩ rfl (fun w hm => ⟨_, bigE [curE g a len cap, bigE [bigE ls_, bigE kp]], rfl, ⟨(Dev.mk (4 + xhR5) (4 + xhR8) (2 + xhR11) 1), tl, _, bs, bv, rfl, rfl, fun w hw => ⟨hls w (zbf hw List.mem_cons_self), hkp w (zbf hw (List.mem_cons_of_mem _ List.mem_cons_self))⟩, ⟨o1t, o2t, o3t⟩, o1b, htl, hbo, hb64, hdv9, hfit⟩, hm.sub (.cons_cons _ (.cons _ (.cons _ (.cons _ (.cons _ (.cons _ (.refl _)))))))⟩)
   refine zfh (zco (reQ 1 rfl (hvQ rfl (vaQ rfl rfl rfl) ?_)))
   have hdv9 : devB (Dev.mk (4 + xhR5) (4 + xhR8) (2 + xhR11) 1) = true := dev_drawn ⟨by omega, by omega⟩ ⟨by omega, by omega⟩ ⟨by omega, by omega⟩
   refine enQ 1 rfl ?_
   refine zbn 12 [11, 10, 9, 8, 7, 6, 5, 4, 3, 2, 0, 1] rfl rfl (by decide) ?_
   refine zfr (curE g a len cap :: rowE 3 1 v41 zrhR43.length (zrhR43.map (Value.int .i64)) :: rowE 3 1 v38 ((bs.map Bk.kd).length) ((bs.map Bk.kd).map (Value.int .i64)) :: bigE kp :: rowE 28 1 v27 rs.length (rs.flatMap crowC) :: bigE ds :: bigE ls_ :: boxE b33 #[.int .i64 tl.ins, tl.sv, tl.lv, tl.ov] 30 :: boxE b21 #[.int .i64 m.ins, m.sv, m.av, m.ov] 86 :: bigE qs :: boxE b12 #[.int .i64 (4 + xhR5), .int .i64 (4 + xhR8), .int .i64 (2 + xhR11), .int .i64 1] 25 :: boxE b2 #[.int .i64 0, .slice none 0 0, .slice none 0 0, .slice none 0 0] 30 :: boxE b1 #[.int .i64 0, .int .i64 0, .int .i64 0, .int .i64 0] 25 :: l) zfk ?_
   refine zbn 13 [0, 12, 11, 10] rfl rfl (by decide) ?_
   exact zcx (t + 1) (by omega) (by omega) (saQ rfl) (.refl _)
  refine zba 2 rfl (zaa ?_)
  refine zca 12 [[], [0], [1], [1], [1], [1], [1], [1], [1], [1], [1], [1, 10]] [44, 45, 46, 47, 48, 49, 50, 51, 52, 53, 54, 55] [.bool false, .bool false, undef, undef, undef, undef, undef, undef, undef, undef, undef, .bool false] (by kernel_rfl) rfl ?_ ?_
  ·
   exact ⟨iaQ rfl (zat rfl) rfl, iaQ rfl (zat rfl) rfl, .inr ⟨rfl, rfl⟩, .inr ⟨rfl, rfl⟩, .inr ⟨rfl, rfl⟩, .inr ⟨rfl, rfl⟩, .inr ⟨rfl, rfl⟩, .inr ⟨rfl, rfl⟩, .inr ⟨rfl, rfl⟩, .inr ⟨rfl, rfl⟩, .inr ⟨rfl, rfl⟩, iaQ rfl (zat rfl) rfl, trivial⟩
  simp only [List.drop_succ_cons, List.drop_zero]
  refine ntQ (fsQ rfl (zco (reQ 1 rfl (hvQ rfl (vaQ rfl rfl rfl) ?_))))
  have hdv9 : devB (Dev.mk (4 + xhR5) (4 + xhR8) (2 + xhR11) 1) = true := dev_drawn ⟨by omega, by omega⟩ ⟨by omega, by omega⟩ ⟨by omega, by omega⟩
  refine enQ 1 rfl ?_
  refine zbn 11 [7, 10, 9, 8] rfl rfl (by decide) ?_
  exact zcx (t + 1) (by omega) (by omega) (saQ rfl) (.refl _)
 refine ntQ (zal rfl ?_)
 refine zaz (zds ?_)
 refine zag (zav (srQ (hvQ rfl (zao (cs := [.int .i64 (4 + xhR5), .int .i64 (4 + xhR8), .int .i64 (2 + xhR11), .int .i64 1]) rfl rfl rfl rfl rfl (zaj 0 rfl 0 rfl)) (hvQ rfl (zcq (cs := #[.int .i64 0, .slice none 0 0, .slice none 0 0, .slice none 0 0]) rfl rfl rfl) ?_))))
 refine zdi rfl (zcb (s := 3) rfl Try.underlying31 rfl) ?_
 intro g45
 refine zcd (cs' := #[.int .i64 (4 + xhR5), .int .i64 (4 + xhR8), .int .i64 (2 + xhR11), .int .i64 1]) (i := 3) (off := 0) (us := [.int .i64 (4 + xhR5), .int .i64 (4 + xhR8), .int .i64 (2 + xhR11), .int .i64 1]) rfl rfl rfl rfl rfl rfl rfl (zah rfl (zah rfl (zah rfl (zah rfl zbp)))) rfl rfl rfl (zcd (cs' := #[.int .i64 0, .slice none 0 0, .slice none 0 0, .slice none 0 0]) (i := 2) (off := 0) (us := [.int .i64 0, .slice none 0 0, .slice none 0 0, .slice none 0 0]) rfl rfl rfl rfl rfl rfl rfl (zah rfl (zah rfl (zah rfl (zah rfl zbp)))) rfl rfl rfl ?_)
 refine zba 1 rfl ?_
 refine zaw (zbn 5 [4, 3, 2, 1, 0] rfl rfl (by decide) ?_)
 refine zcs 1 rfl ?_
 refine zbn 5 [3, 2, 1, 0, 4] rfl rfl (by decide) ?_
 refine zcs 2 rfl ?_
 exact zgm (rs := [.cell 2 25, .cell 3 30, .tmp 4]) (vs := [.agg #[.int .i64 (4 + xhR5), .int .i64 (4 + xhR8), .int .i64 (2 + xhR11), .int .i64 1], .agg #[.int .i64 0, .slice none 0 0, .slice none 0 0, .slice none 0 0], .slice (some ⟨g45, 0, none⟩) 0 0]) rfl ⟨⟨b1, 0, [.int .i64 (4 + xhR5), .int .i64 (4 + xhR8), .int .i64 (2 + xhR11), .int .i64 1], rfl, rfl, by kernel_rfl, by kernel_rfl, zaj 3 rfl 0 rfl⟩, ⟨b2, 0, [.int .i64 0, .slice none 0 0, .slice none 0 0, .slice none 0 0], rfl, rfl, by kernel_rfl, by kernel_rfl, zaj 2 rfl 0 rfl⟩, rfl, trivial⟩ rfl (fun w hm => ⟨_, bigE [curE g a len cap, bigE [rowE 39 3 (.slice (some ⟨g45, 0, none⟩) 0 0) 0 ([])]], rfl, ⟨(Dev.mk (4 + xhR5) (4 + xhR8) (2 + xhR11) 1), (Ln.mk 0 (.slice none 0 0) (.slice none 0 0) (.slice none 0 0) [] [] []), _, [], _, rfl, rfl, fun w hw => ⟨ln_nil_rds w, ⟨zcc (zbf hw List.mem_cons_self), fun b hb => by cases hb⟩⟩, ⟨rfl, rfl, rfl⟩, rfl, ln_nil, (fun b hb => by cases hb), by decide, hdv9, fits_nil _⟩, hm.sub (.cons_cons _ (.cons _ (.cons _ (.cons _ (.refl _)))))⟩)
open Go.RowKit
theorem ks_lit {x : Int} (h : x ∈ ([0, 1] : List Int)) : 0 ≤ x ∧ x ≤ 3 := by
  rcases List.mem_cons.1 h with rfl | h
  · decide
  · obtain rfl := List.mem_singleton.1 h; decide
theorem ks_pick {x : Int} (h : x ∈ ([0, 1, 3, 3] : List Int)) : 0 ≤ x ∧ x ≤ 3 := by
  simp only [List.mem_cons, List.not_mem_nil, or_false] at h; omega
theorem ks_app {ks : List Int} (h : ∀ x ∈ ks, 0 ≤ x ∧ x ≤ 3) {y : Int} (hy : 0 ≤ y ∧ y ≤ 3) : ∀ x ∈ ks ++ [y], 0 ≤ x ∧ x ≤ 3 := fun x hx => by
  rcases List.mem_append.1 hx with hx | hx
  · exact h x hx
  · rw [List.mem_singleton] at hx; subst hx; exact hy
theorem ks_bk {bs : List Bk} (h : BsOk bs) : ∀ x ∈ bs.map Bk.kd, 0 ≤ x ∧ x ≤ 3 := fun x hx => by
  obtain ⟨b, hb, rfl⟩ := List.mem_map.1 hx; exact (h b hb).1
theorem pickIntL_mut (g : Nat) (a : Option Addr) (len cap : Nat) (z : List Int) (v : Value) (L : List Int) (w0 : World) (l : List HP) (w : World) (hm0 : Mem w0 (curE g a len cap :: l) w) (hb : BRow .u8 w0 a len cap z) (hv : Rd w0 l v 1 L.length (L.map (Value.int .i64))) (hL : 1 ≤ L.length ∧ L.length ≤ 256) :
   Calls Try.prog 83 #[.pointer (some ⟨g, 0, none⟩), v] w (fun e_ w_ => ∃ v_ p_, e_ = .returned v_ ∧ (fun u_ p_ => (∃ x : Int, u_ = .int .i64 x ∧ x ∈ L) ∧ p_ = curE g a len cap) v_ p_ ∧ Mem w0 (p_ :: l) w_) := by
 refine zfy (N := 12) (args := [.pointer (some ⟨g, 0, none⟩), v]) Try.func83 rfl rfl hm0 (zbd 1 rfl (zaa (reQ 3 rfl ?_)))
 refine hvQ rfl (lnQ rfl rfl rfl (fun w hm => hv w (hm.sub (.cons _ (.refl _))))) (zdc (R := (fun u_ p_ => (∃ x_ : Int, u_ = .int .i64 x_ ∧ 0 ≤ x_ ∧ x_ < (L.length : Int)) ∧ p_ = curE g a len cap)) 0 rfl rfl rfl rfl rfl (fun l' w hm => zdd g a len cap z (L.length : Int) _ _ _ hm hb (by constructor <;> omega)) ?_)
 intro v1 p2 hR3
 obtain ⟨⟨xhR3, rfl, xhR30, xhR31⟩, rfl⟩ := hR3
 refine zdz (l' := (curE g a len cap :: l)) rfl ?_
 refine hvQ rfl (riQ 1 rfl rfl rfl rfl (fun w hm => hv w (hm.sub (.cons _ (.refl _))))) (hvQ rfl (lzQ rfl rfl rfl (fun w hm => hv w (hm.sub (.cons _ (.refl _))))) ?_)
 refine zba 1 rfl ?_
 exact zaw (zgm (rs := [.tmp 4]) (vs := [.int .i64 (L.getD ((xhR3).toNat) 0)]) rfl ⟨rfl, trivial⟩ rfl (fun w hm => ⟨_, curE g a len cap, rfl, ⟨⟨_, rfl, zeh (es := L) (d := 0) (by omega)⟩, rfl⟩, hm.sub (.refl _)⟩))
theorem l29Drawn_mut (g : Nat) (a : Option Addr) (len cap : Nat) (z : List Int) (w0 : World) (l : List HP) (w : World) (hm0 : Mem w0 (curE g a len cap :: l) w) (hb : BRow .u8 w0 a len cap z) :
   Calls Try.prog 39 #[.pointer (some ⟨g, 0, none⟩)] w (fun e_ w_ => ∃ v_ p_, e_ = .returned v_ ∧ (fun u_ p_ => ∃ (d : Dev) (ps : List HP) (ks zs : List Int) (cs : List Cn) (kv cv zv : Value), u_ = .tuple #[.agg #[.int .i64 d.W, .int .i64 d.H, .int .i64 d.T, .int .i64 d.R], kv, cv, zv] ∧ p_ = bigE [curE g a len cap, bigE ps] ∧ (∀ w, (bigE ps).holds w → RdsW w kv 1 ks.length (ks.map (Value.int .i64)) ∧ RdsCn w cv cs ∧ RdsW w zv 1 zs.length (zs.map (Value.int .i64))) ∧ (kv.oneCell' = true ∧ cv.oneCell' = true ∧ zv.oneCell' = true) ∧ devB d = true ∧ ks.length ≤ 64 ∧ (∀ x ∈ ks, 0 ≤ x ∧ x ≤ 3) ∧ zs.length = ks.length ∧ PlP d ks zs ∧ CnIn ks.length cs ∧ cs.length ≤ 2 * ks.length + 4 ∧ CoP cs) v_ p_ ∧ Mem w0 (p_ :: l) w_) := by
 refine zfy (N := 112) (args := [.pointer (some ⟨g, 0, none⟩)]) Try.func39 rfl rfl hm0 (srQ ?_)
 refine zdt rfl (zbw (z := .agg #[.int .i64 0, .int .i64 0, .int .i64 0, .int .i64 0]) rfl rfl) ?_
 intro b1
 refine zba 3 rfl (zaa (zaa (reQ 1 rfl ?_)))
 refine zdc (R := (fun u_ p_ => (∃ b : Bool, u_ = .bool b) ∧ p_ = curE g a len cap)) 1 rfl rfl rfl rfl rfl (fun l' w hm => once_mut hm hb (2) (by omega) (by omega)) ?_
 intro v2 p3 hR4
 obtain ⟨⟨xhR4, rfl⟩, rfl⟩ := hR4
 refine zdz (l' := (boxE b1 #[.int .i64 0, .int .i64 0, .int .i64 0, .int .i64 0] 25 :: curE g a len cap :: l)) rfl ?_
 refine zbx (fun h5 => ?_) (fun h5 => ?_)
 ·
  refine ntQ (zak rfl (zaa (reQ 1 rfl ?_)))
  refine zdc (R := (fun u_ p_ => ∃ (d : Dev) (n : Ln) (ps : List HP) (bs : List Bk) (bv : Value), u_ = .tuple #[.agg #[.int .i64 d.W, .int .i64 d.H, .int .i64 d.T, .int .i64 d.R], n.agg, bv] ∧ p_ = bigE [curE g a len cap, bigE ps] ∧ (∀ w, (bigE ps).holds w → RdsLn w n ∧ RdsBk w bv bs) ∧ (n.sv.oneCell' = true ∧ n.lv.oneCell' = true ∧ n.ov.oneCell' = true) ∧ bv.oneCell' = true ∧ LnOk n ∧ BsOk bs ∧ bs.length ≤ 64 ∧ devB d = true ∧ Fits d (bs.map Bk.kd))) 1 rfl rfl rfl rfl rfl (fun l' w hm => l29Task_mut g a len cap z _ _ _ hm hb) ?_
  intro v6 p7 hR8
  obtain ⟨d, n, tp, bs, bv, rfl, rfl, htp, ⟨o1n, o2n, o3n⟩, o1b, hok, hbo, hb64, hdv, hfit⟩ := hR8
  refine zdz (l' := (boxE b1 #[.int .i64 0, .int .i64 0, .int .i64 0, .int .i64 0] 25 :: bigE [curE g a len cap, bigE tp] :: l)) rfl ?_
  refine hl_pick 2 [0, 1] rfl rfl (by decide) ?_
  refine hl_conv (curE g a len cap :: bigE tp :: boxE b1 #[.int .i64 0, .int .i64 0, .int .i64 0, .int .i64 0] 25 :: l) zfk ?_
  refine zam 4 rfl (zdt rfl (zbw (z := .agg #[.int .i64 0, .int .i64 0, .int .i64 0, .int .i64 0]) rfl rfl) ?_)
  intro b9
  refine zdt rfl (zbw (z := .agg #[.int .i64 0, .slice none 0 0, .slice none 0 0, .slice none 0 0]) rfl rfl) ?_
  intro b10
  refine zcd (cs' := #[.int .i64 d.W, .int .i64 d.H, .int .i64 d.T, .int .i64 d.R]) (i := 1) (off := 0) (us := [.int .i64 d.W, .int .i64 d.H, .int .i64 d.T, .int .i64 d.R]) rfl rfl rfl rfl rfl rfl rfl (zah rfl (zah rfl (zah rfl (zah rfl zbp)))) rfl rfl rfl (zcd (cs' := #[.int .i64 n.ins, n.sv, n.lv, n.ov]) (i := 0) (off := 0) (us := [.int .i64 n.ins, n.sv, n.lv, n.ov]) rfl rfl rfl rfl rfl rfl rfl (zah rfl (zah o1n (zah o2n (zah o3n zbp)))) rfl rfl rfl ?_)
  refine zba 1 rfl (zaa (reQ 1 rfl ?_))
  refine zfu rfl rfl rfl (zan rfl rfl (fun w hm => l29Kinds_ret bs _ w (htp w (hm.holds _ (zdj (i := 3) rfl))).2 (by omega))) ?_
  intro v11 p12 hR13
  subst hR13
  refine zba 1 rfl (zaa ?_)
  refine zhd 6 [4, 2, 1, 0, 5, 3] rfl rfl (by decide) ?_
  refine hc_draw4 (l := (rowE 3 1 v11 ((bs.map Bk.kd).length) ((bs.map Bk.kd).map (Value.int .i64)) :: boxE b10 #[.int .i64 n.ins, n.sv, n.lv, n.ov] 30 :: boxE b9 #[.int .i64 d.W, .int .i64 d.H, .int .i64 d.T, .int .i64 d.R] 25 :: bigE tp :: l)) rfl 10 [0, 1, 2, 3, 4, 5, 6, 7, 8, 9] (List.take 10 _) (List.drop 10 _) [[], [], [], [], [2, 3], [], [], [], [5, 6, 7], [0]] [some 28, some 29, some 30, some 31, some 32, some 33, some 34, some 35, some 36, none] (fun i_ vs_ v_ p_ => match i_ with | 0 => v_ = .agg #[.int .i64 d.W, .int .i64 d.H, .int .i64 d.T, .int .i64 d.R] ∧ p_ = [] | 1 => v_ = v11 ∧ p_ = [] | 2 => v_ = .agg #[.int .i64 n.ins, n.sv, n.lv, n.ov] ∧ p_ = [] | 3 => v_ = bv ∧ p_ = [] | 4 => (fun u_ p_ => ∃ (ps : List HP) (cs : List Cn), p_ = [bigE ps] ∧ (∀ w, (bigE ps).holds w → RdsCn w u_ cs) ∧ u_.oneCell' = true ∧ CnIn bs.length cs ∧ cs.length ≤ 2 * bs.length ∧ CnM (kSm bs bs.length) cs) v_ p_ | 5 => v_ = .pointer (some ⟨g, 0, none⟩) ∧ p_ = [] | 6 => v_ = .agg #[.int .i64 d.W, .int .i64 d.H, .int .i64 d.T, .int .i64 d.R] ∧ p_ = [] | 7 => v_ = v11 ∧ p_ = [] | 8 => (∃ pm_, p_ = [pm_] ∧ (fun u_ p_ => ∃ zs : List Int, p_ = bigE [curE g a len cap, rowE 3 1 u_ zs.length (zs.map (Value.int .i64))] ∧ (lenN u_ = zs.length ∧ u_.oneCell' = true) ∧ ((Fits d (bs.map Bk.kd) ∧ zs.length = (bs.map Bk.kd).length ∧ PlP d (bs.map Bk.kd) zs) ∨ (¬ Fits d (bs.map Bk.kd) ∧ zs = []))) v_ pm_) | 9 => p_ = [boxE b1 #[.int .i64 d.W, .int .i64 d.H, .int .i64 d.T, .int .i64 d.R] 25] | _ => True) [[], [], [], [], [2, 3], [], [], [], [5, 6, 7], [0]] [none, none, none, none, none, none, none, none, some 13, some 14] [[curE g a len cap], [boxE b1 #[.int .i64 0, .int .i64 0, .int .i64 0, .int .i64 0] 25]] [0, 1, 2, 3, 4, 5, 6, 7, 8, 9] 13 (List.take_append_drop 10 _).symm (by kernel_rfl) (by kernel_rfl) (by kernel_rfl) rfl rfl ?_ ?_
  ·
   refine ⟨?_, ?_, ?_, ?_, ?_, ?_, ?_, ?_, ?_, ?_, trivial⟩
   ·
    intro vf pf hmu hR
    refine zec [] [] rfl (zbo (zai [6] rfl) (List.sublist_append_right _ _) ?_)
    exact zbe (zao (cs := [.int .i64 d.W, .int .i64 d.H, .int .i64 d.T, .int .i64 d.R]) rfl rfl rfl rfl rfl (zaj 2 rfl 0 rfl))
   ·
    intro vf pf hmu hR
    refine zec [] [] rfl (zce (zai [9] rfl) ?_)
    exact zbe (zat rfl)
   ·
    intro vf pf hmu hR
    refine zec [] [] rfl (zbo (zai [7] rfl) (List.sublist_append_right _ _) ?_)
    exact zbe (zao (cs := [.int .i64 n.ins, n.sv, n.lv, n.ov]) rfl rfl rfl rfl rfl (zaj 1 rfl 0 rfl))
   ·
    intro vf pf hmu hR
    refine zec [] [] rfl (zce (zai [8] rfl) ?_)
    exact zbe (zat rfl)
   ·
    intro vf pf hmu hR
    have e2 := hR 2 (by decide)
    have e3 := hR 3 (by decide)
    refine zec [2, 3] [2, 3] rfl (zbo (sk 30 (congrArg some e2.1) (sk 31 (congrArg some e3.1) (zad _))) (List.sublist_append_right _ _) ?_)
    exact zan rfl rfl (fun w hm => ConnsOf_ret n bs _ w (htp w (hm.holds _ (zdj (i := 3) rfl))).1 hok (htp w (hm.holds _ (zdj (i := 3) rfl))).2 (fun k hk => by have := (hbo _ (zbs (d := bk0) hk)).2; omega))
   ·
    intro vf pf hmu hR
    refine zec [] [] rfl (zce (zai [0] rfl) ?_)
    exact zbe (zat rfl)
   ·
    intro vf pf hmu hR
    refine zec [] [] rfl (zbo (zai [6] rfl) (List.sublist_append_right _ _) ?_)
    exact zbe (zao (cs := [.int .i64 d.W, .int .i64 d.H, .int .i64 d.T, .int .i64 d.R]) rfl rfl rfl rfl rfl (zaj 2 rfl 0 rfl))
   ·
    intro vf pf hmu hR
    refine zec [] [] rfl (zce (zai [9] rfl) ?_)
    exact zbe (zat rfl)
   ·
    intro vf pf hmu hR
    have e5 := hR 5 (by decide)
    have e6 := hR 6 (by decide)
    have e7 := hR 7 (by decide)
    refine Or.inl ⟨rfl, ?_⟩
    show RunM _ _ _ (pf 13) (([5, 6, 7] : List Nat).flatMap pf ++ _) (envOf3 _ vf [5, 6, 7] ++ _) _ _
    have hmu0 : pf 13 = [curE g a len cap] := hmu 0 (show 0 < 2 by omega)
    rw [hmu0]
    exact zdq (sk 33 (congrArg some e5.1) (sk 34 (congrArg some e6.1) (sk 35 (congrArg some e7.1) (zad _)))) (by simp only [e5.2, e6.2, e7.2, fS] <;> rfl) (zfd (R := (fun u_ p_ => ∃ zs : List Int, p_ = bigE [curE g a len cap, rowE 3 1 u_ zs.length (zs.map (Value.int .i64))] ∧ (lenN u_ = zs.length ∧ u_.oneCell' = true) ∧ ((Fits d (bs.map Bk.kd) ∧ zs.length = (bs.map Bk.kd).length ∧ PlP d (bs.map Bk.kd) zs) ∨ (¬ Fits d (bs.map Bk.kd) ∧ zs = [])))) rfl rfl (fun L w hX hm => zgf g a len cap z d (bs.map Bk.kd) v11 _ _ _ hm hb hdv (fun w hm9 => by have h9 := hX w hm9; exact zac 0 rfl w h9) (by rw [List.length_map]; omega)))
   intro vf pf hmu hR
   have e0 := hR 0 (by decide)
   refine Or.inl ⟨rfl, ?_⟩
   show RunM _ _ _ (pf 14) (([0] : List Nat).flatMap pf ++ _) (envOf3 _ vf [0] ++ _) _ _
   have hmu1 : pf 14 = [boxE b1 #[.int .i64 0, .int .i64 0, .int .i64 0, .int .i64 0] 25] := hmu 1 (show 1 < 2 by omega)
   rw [hmu1]
   exact zdq (sk 2 rfl (sk 28 (congrArg some e0.1) (zad _))) (by simp only [e0.2, fS] <;> rfl) (rm_mono (zfi (us := [.int .i64 d.W, .int .i64 d.H, .int .i64 d.T, .int .i64 d.R]) (off := 0) 0 rfl rfl rfl rfl rfl rfl (zah rfl (zah rfl (zah rfl (zah rfl zbp)))) rfl rfl) (fun v_ p_ h => by show p_ = [boxE b1 #[.int .i64 d.W, .int .i64 d.H, .int .i64 d.T, .int .i64 d.R] 25]; exact h))
  intro vf pf hmu hR
  have e1 := hR 1 (by decide)
  have e4 : (fun u_ p_ => ∃ (ps : List HP) (cs : List Cn), p_ = [bigE ps] ∧ (∀ w, (bigE ps).holds w → RdsCn w u_ cs) ∧ u_.oneCell' = true ∧ CnIn bs.length cs ∧ cs.length ≤ 2 * bs.length ∧ CnM (kSm bs bs.length) cs) (vf 4) (pf 4) := hR 4 (by decide)
  obtain ⟨v14, vE4⟩ : ∃ x, vf 4 = x := ⟨_, rfl⟩
  obtain ⟨p15, pE4⟩ : ∃ x, pf 4 = x := ⟨_, rfl⟩
  have hR16 := e4
  rw [vE4, pE4] at hR16
  obtain ⟨cp, cs, rfl, hcp, o1c, hci, hcl, hcm⟩ := hR16
  have e8 : (∃ pm_, (pf 8) = [pm_] ∧ (fun u_ p_ => ∃ zs : List Int, p_ = bigE [curE g a len cap, rowE 3 1 u_ zs.length (zs.map (Value.int .i64))] ∧ (lenN u_ = zs.length ∧ u_.oneCell' = true) ∧ ((Fits d (bs.map Bk.kd) ∧ zs.length = (bs.map Bk.kd).length ∧ PlP d (bs.map Bk.kd) zs) ∨ (¬ Fits d (bs.map Bk.kd) ∧ zs = []))) (vf 8) pm_) := hR 8 (by decide)
  obtain ⟨p18, pE8, hR19⟩ := e8
  obtain ⟨v17, vE8⟩ : ∃ x, vf 8 = x := ⟨_, rfl⟩
  rw [vE8] at hR19
  obtain ⟨zrhR19, rfl, ⟨hlnhR19, honhR19⟩, hzhR19⟩ := hR19
  have e9 : (pf 9) = [boxE b1 #[.int .i64 d.W, .int .i64 d.H, .int .i64 d.T, .int .i64 d.R] 25] := hR 9 (by decide)
  have pE9 := e9
  have q0 := hR 0 (by decide)
  have q1 := hR 1 (by decide)
  have q2 := hR 2 (by decide)
  have q3 := hR 3 (by decide)
  have q5 := hR 5 (by decide)
  have q6 := hR 6 (by decide)
  have q7 := hR 7 (by decide)
  refine zck (zbj [19, 9, 8, 7, 6, 5, 4, 3, 2, 0] _ (sk 29 (congrArg some e1.1) (sk 32 (congrArg some vE4) (sk 36 (congrArg some vE8) (zad _)))) rfl) (by simp only [pE4, vE4, pE8, vE8, pE9, q0.2, q1.2, q2.2, q3.2, q5.2, q6.2, q7.2, fS] <;> rfl) ?_
  simp only [List.drop_succ_cons, List.drop_zero]
  refine zba 3 rfl ?_
  refine zaw (zap ?_)
  refine zbn 7 [6, 5, 4, 3, 2, 0, 1] rfl rfl (by decide) ?_
  refine zfr (curE g a len cap :: rowE 3 1 v17 zrhR19.length (zrhR19.map (Value.int .i64)) :: bigE cp :: boxE b1 #[.int .i64 d.W, .int .i64 d.H, .int .i64 d.T, .int .i64 d.R] 25 :: rowE 3 1 v11 ((bs.map Bk.kd).length) ((bs.map Bk.kd).map (Value.int .i64)) :: boxE b10 #[.int .i64 n.ins, n.sv, n.lv, n.ov] 30 :: boxE b9 #[.int .i64 d.W, .int .i64 d.H, .int .i64 d.T, .int .i64 d.R] 25 :: bigE tp :: l) zfk ?_
  have hzT := hzhR19.resolve_right (fun q => q.1 hfit)
  have hkn : (bs.map Bk.kd).length = bs.length := List.length_map _
  refine zdw (fun w hm => (zac 4 rfl w hm).one) (fun hoK => ?_)
  refine zbn 8 [6, 5, 3, 0, 1, 2, 4] rfl rfl (by decide) ?_
  refine zcs 3 rfl ?_
  refine zbn 5 [4, 3, 2, 0, 1] rfl rfl (by decide) ?_
  refine zcs 2 rfl ?_
  exact zgm (rs := [.cell 2 25, .tmp 3, .tmp 4, .tmp 5]) (vs := [.agg #[.int .i64 d.W, .int .i64 d.H, .int .i64 d.T, .int .i64 d.R], v11, v14, v17]) rfl ⟨⟨b1, 0, [.int .i64 d.W, .int .i64 d.H, .int .i64 d.T, .int .i64 d.R], rfl, rfl, by kernel_rfl, by kernel_rfl, zaj 1 rfl 0 rfl⟩, rfl, rfl, rfl, trivial⟩ rfl (fun w hm => ⟨_, bigE [curE g a len cap, bigE [rowE 3 1 v11 ((bs.map Bk.kd).length) ((bs.map Bk.kd).map (Value.int .i64)), bigE cp, rowE 3 1 v17 zrhR19.length (zrhR19.map (Value.int .i64))]], rfl, ⟨_, _, (bs.map Bk.kd), zrhR19, cs, _, _, _, rfl, rfl, fun w hw => ⟨zcc (zbf hw List.mem_cons_self), hcp w (zbf hw (List.mem_cons_of_mem _ List.mem_cons_self)), zcc (zbf hw (List.mem_cons_of_mem _ (List.mem_cons_of_mem _ List.mem_cons_self)))⟩, ⟨hoK, o1c, honhR19⟩, hdv, by omega, ks_bk hbo, hzT.2.1, hzT.2.2, by rw [hkn]; exact hci, by omega, coP_pl hdv hzT.2.2 hzT.2.1 hcl hcm⟩, hm.sub (.cons_cons _ (.cons _ (.cons _ (.cons _ (.refl _)))))⟩)
 refine ntQ (zal rfl (zcn (zaa (reQ 1 rfl ?_))))
 refine zdc (R := (fun u_ p_ => (∃ d : Dev, Drawn d ∧ u_ = .agg #[.int .i64 d.W, .int .i64 d.H, .int .i64 d.T, .int .i64 d.R]) ∧ p_ = curE g a len cap)) 1 rfl rfl rfl rfl rfl (fun l' w hm => device_mut hm hb) ?_
 intro v20 p21 hR22
 obtain ⟨⟨d, hdr, rfl⟩, rfl⟩ := hR22
 have hdv := hdr.ok
 obtain ⟨har1, har2⟩ := zfe hdv
 refine zdz (l' := (boxE b1 #[.int .i64 0, .int .i64 0, .int .i64 0, .int .i64 0] 25 :: curE g a len cap :: l)) rfl ?_
 refine zdt rfl (zbw (z := .agg #[.int .i64 0, .int .i64 0, .int .i64 0, .int .i64 0]) rfl rfl) ?_
 intro b23
 refine zcd (cs' := #[.int .i64 d.W, .int .i64 d.H, .int .i64 d.T, .int .i64 d.R]) (i := 0) (off := 0) (us := [.int .i64 d.W, .int .i64 d.H, .int .i64 d.T, .int .i64 d.R]) rfl rfl rfl rfl rfl rfl rfl (zah rfl (zah rfl (zah rfl (zah rfl zbp)))) rfl rfl rfl (ntQ (srQ ?_))
 refine zdi rfl (zcb (s := 1) rfl Try.underlying28 rfl) ?_
 intro g24
 refine zba 1 rfl (zaa (zaa (reQ 1 rfl ?_)))
 refine zdc (R := (fun u_ p_ => (∃ x : Int, u_ = .int .i64 x ∧ 0 ≤ x ∧ (1 ≤ (5 : Int) → x < (5 : Int))) ∧ p_ = curE g a len cap)) 3 rfl rfl rfl rfl rfl (fun l' w hm => zfl g a len cap z 5 _ _ _ hm hb (by omega)) ?_
 intro v25 p26 hR27
 obtain ⟨⟨xhR27, rfl, xhR270, xhR271⟩, rfl⟩ := hR27
 refine zdz (l' := (rowE 3 1 (.slice (some ⟨g24, 0, none⟩) 0 0) 0 ([]) :: boxE b23 #[.int .i64 d.W, .int .i64 d.H, .int .i64 d.T, .int .i64 d.R] 25 :: boxE b1 #[.int .i64 0, .int .i64 0, .int .i64 0, .int .i64 0] 25 :: curE g a len cap :: l)) rfl ?_
 refine hvQ rfl (vaQ rfl rfl rfl) (zba 1 rfl (zax ?_))
 refine lkQ3 (α := Int) (β := Value) (γ := List Int) [0, 2, 3, 4, 5, 10, 19] rfl (fun k gu ks => (rowE 3 1 gu ks.length (ks.map (Value.int .i64)) :: boxE b23 #[.int .i64 d.W, .int .i64 d.H, .int .i64 d.T, .int .i64 d.R] 25 :: boxE b1 #[.int .i64 0, .int .i64 0, .int .i64 0, .int .i64 0] 25 :: curE g a len cap :: l)) (fun k gu ks => [(11, gu), (12, .int .i64 k)]) (fun k gu ks => (0 ≤ k ∧ k ≤ 5) ∧ (ks.length : Int) + k = 1 + xhR27 ∧ ∀ x ∈ ks, 0 ≤ x ∧ x ≤ 3) (fun k gu ks => k.toNat) _ _ [] ⟨by omega, by simp, (fun x hx => by cases hx)⟩ (saQ rfl) (.refl _) ?_
 intro k gu ks hi28
 obtain ⟨⟨hk0, hk1⟩, hkl, hkr⟩ := hi28
 refine zaa (zaa (reQ 1 rfl ?_))
 refine zff rfl rfl rfl rfl rfl rfl (fun h29 => ?_) (fun h29 => ?_)
 ·
  refine ntQ (zak rfl (zcn (sbQ (reQ 2 rfl ?_))))
  refine zdi rfl (zas (z := .int .i64 0) (s := 1) (cs := ([0, 1, 3, 3].map (Value.int .i64))) rfl Try.underlying28 rfl (by decide) rfl (by kernel_rfl) rfl) ?_
  intro g30
  refine hl_callM2 (R := (fun u_ p_ => (∃ x : Int, u_ = .int .i64 x ∧ x ∈ ([0, 1, 3, 3] : List Int)) ∧ p_ = curE g a len cap)) 4 rfl rfl rfl rfl rfl (fun L w hX hm => pickIntL_mut g a len cap z (.slice (some ⟨g30, 0, none⟩) 4 4) [0, 1, 3, 3] _ _ _ hm hb (fun w hm => (zac (l := (rowE 3 1 (.slice (some ⟨g30, 0, none⟩) 4 4) 4 ([0, 1, 3, 3].map (Value.int .i64)) :: rowE 3 1 gu ks.length (ks.map (Value.int .i64)) :: boxE b23 #[.int .i64 d.W, .int .i64 d.H, .int .i64 d.T, .int .i64 d.R] 25 :: boxE b1 #[.int .i64 0, .int .i64 0, .int .i64 0, .int .i64 0] 25 :: l)) 0 rfl) w (hX w hm)) (by decide)) ?_
  intro v31 p32 hR33
  obtain ⟨⟨xhR33, rfl, xhR33m⟩, rfl⟩ := hR33
  have xhR33r := ks_pick xhR33m
  refine zdz (l' := (rowE 3 1 (.slice (some ⟨g30, 0, none⟩) 4 4) 4 ([0, 1, 3, 3].map (Value.int .i64)) :: rowE 3 1 gu ks.length (ks.map (Value.int .i64)) :: boxE b23 #[.int .i64 d.W, .int .i64 d.H, .int .i64 d.T, .int .i64 d.R] 25 :: boxE b1 #[.int .i64 0, .int .i64 0, .int .i64 0, .int .i64 0] 25 :: curE g a len cap :: l)) rfl ?_
  refine zdi rfl (zas (z := .int .i64 0) (s := 1) (cs := ([xhR33].map (Value.int .i64))) rfl Try.underlying28 rfl (by decide) rfl (by kernel_rfl) rfl) ?_
  intro g34
  refine zcf (i := 2) (z := .int .i64 0) (bytes := 8) rfl rfl rfl rfl Try.underlying28 (by kernel_rfl) rfl rfl rfl rfl (zac 0 rfl) (zbm _) (by first | omega | (simp; done) | (simp; omega)) (zbt ks ([xhR33])) (zcl ks ([xhR33])) (fun _ => rfl) ?_
  intro v35
  refine enQ 1 rfl (zco (reQ 1 rfl (hvQ rfl (vsQ rfl rfl rfl) (enQ 1 rfl ?_))))
  exact zbh (k - 1) v35 (ks ++ ([xhR33])) ⟨by omega, by rw [List.length_append, List.length_singleton]; omega, ks_app hkr (by assumption)⟩ (by omega) (saQ rfl) (.cons _ (.cons _ (.refl _)))
 refine ntQ (zal rfl ?_)
 refine zaz (zds ?_)
 refine zag (zav ?_)
 refine hc_meet1 (α := Value × List Int) (fun K => (rowE 3 1 K.1 K.2.length (K.2.map (Value.int .i64)) :: boxE b23 #[.int .i64 d.W, .int .i64 d.H, .int .i64 d.T, .int .i64 d.R] 25 :: boxE b1 #[.int .i64 0, .int .i64 0, .int .i64 0, .int .i64 0] 25 :: curE g a len cap :: l)) (fun K => [(0, .pointer (some ⟨g, 0, none⟩)), (2, .pointer (some ⟨b1, 0, none⟩)), (3, .slice none 0 0), (4, .slice none 0 0), (5, .slice none 0 0), (10, .pointer (some ⟨b23, 0, none⟩)), (11, K.1), (12, .int .i64 k), (19, .bool false), (44, .bool false)]) (fun K => 1 ≤ K.2.length ∧ K.2.length ≤ 64 ∧ ∀ x ∈ K.2, 0 ≤ x ∧ x ≤ 3) ?_ ?_
 ·
  refine srQ (hvQ rfl (zao (cs := [.int .i64 d.W, .int .i64 d.H, .int .i64 d.T, .int .i64 d.R]) rfl rfl rfl rfl rfl (zaj 1 rfl 0 rfl)) ?_)
  refine zfu rfl rfl rfl (zan rfl rfl (fun w hm => zfm d 1 w hdv)) ?_
  intro v36 p37 hR38
  subst hR38
  refine hvQ rfl (lnQ rfl rfl rfl (zac 0 rfl)) (zby rfl rfl rfl rfl rfl rfl (fun h39 => ?_) (fun h39 => ?_))
  ·
   refine ntQ (zak rfl (zay ?_))
   refine zdi rfl (zas (z := .int .i64 0) (s := 1) (cs := ([0, 1].map (Value.int .i64))) rfl Try.underlying28 rfl (by decide) rfl (by kernel_rfl) rfl) ?_
   intro g40
   refine enQ 1 rfl ?_
   exact hq_meet1 (.slice (some ⟨g40, 0, none⟩) 2 2, [0, 1]) ⟨by show 1 ≤ List.length [_, _]; simp, by show List.length [_, _] ≤ 64; simp, fun x hx => ks_lit hx⟩ (saQ rfl) (.cons_cons _ (.cons _ (.cons _ (.refl _))))
  refine ntQ (fsQ rfl ?_)
  exact hq_meet1 (gu, ks) ⟨by show 1 ≤ ks.length; omega, by show ks.length ≤ 64; omega, hkr⟩ (saQ rfl) (.cons _ (.refl _))
 intro K hm41
 obtain ⟨hK1, hK2, hK3⟩ := hm41
 refine zaa (reQ 1 rfl (hvQ rfl (zao (cs := [.int .i64 d.W, .int .i64 d.H, .int .i64 d.T, .int .i64 d.R]) rfl rfl rfl rfl rfl (zaj 1 rfl 0 rfl)) (zam 1 rfl ?_)))
 refine hl_callM2 (R := (fun u_ p_ => ∃ zs : List Int, p_ = bigE [curE g a len cap, rowE 3 1 u_ zs.length (zs.map (Value.int .i64))] ∧ (lenN u_ = zs.length ∧ u_.oneCell' = true) ∧ ((Fits d K.2 ∧ zs.length = K.2.length ∧ PlP d K.2 zs) ∨ (¬ Fits d K.2 ∧ zs = [])))) 3 rfl rfl rfl rfl rfl (fun L w hX hm => zgf g a len cap z d K.2 K.1 _ _ _ hm hb hdv (fun w hm9 => by have h9 := hX w hm9; exact zac 0 rfl w h9) (by omega)) ?_
 intro v42 p43 hR44
 obtain ⟨zrhR44, rfl, ⟨hlnhR44, honhR44⟩, hzhR44⟩ := hR44
 refine zdz (l' := (rowE 3 1 K.1 K.2.length (K.2.map (Value.int .i64)) :: boxE b23 #[.int .i64 d.W, .int .i64 d.H, .int .i64 d.T, .int .i64 d.R] 25 :: boxE b1 #[.int .i64 0, .int .i64 0, .int .i64 0, .int .i64 0] 25 :: bigE [curE g a len cap, rowE 3 1 v42 zrhR44.length (zrhR44.map (Value.int .i64))] :: l)) rfl ?_
 refine zba 1 rfl ?_
 refine zhe (α := Value × List Int) (β := Value × List Int) (fun J Z => (curE g a len cap :: rowE 3 1 J.1 J.2.length (J.2.map (Value.int .i64)) :: rowE 3 1 Z.1 Z.2.length (Z.2.map (Value.int .i64)) :: boxE b23 #[.int .i64 d.W, .int .i64 d.H, .int .i64 d.T, .int .i64 d.R] 25 :: boxE b1 #[.int .i64 0, .int .i64 0, .int .i64 0, .int .i64 0] 25 :: l)) (fun J Z => [(0, .pointer (some ⟨g, 0, none⟩)), (2, .pointer (some ⟨b1, 0, none⟩)), (3, .slice none 0 0), (4, .slice none 0 0), (5, .slice none 0 0), (10, .pointer (some ⟨b23, 0, none⟩)), (11, J.1), (12, .int .i64 k), (13, Z.1), (19, .bool false), (44, .bool false)]) (fun J Z => (1 ≤ J.2.length ∧ J.2.length ≤ 64 ∧ ∀ x ∈ J.2, 0 ≤ x ∧ x ≤ 3) ∧ Z.2.length = J.2.length ∧ PlP d J.2 Z.2) ?_ ?_
 ·
  refine srQ ?_
  refine hl_pick 4 [2, 1, 0, 3] rfl rfl (by decide) ?_
  refine hl_conv (curE g a len cap :: rowE 3 1 v42 zrhR44.length (zrhR44.map (Value.int .i64)) :: rowE 3 1 K.1 K.2.length (K.2.map (Value.int .i64)) :: boxE b23 #[.int .i64 d.W, .int .i64 d.H, .int .i64 d.T, .int .i64 d.R] 25 :: boxE b1 #[.int .i64 0, .int .i64 0, .int .i64 0, .int .i64 0] 25 :: l) zfk ?_
  refine zam 1 rfl (hvQ rfl (lnQ rfl rfl rfl (zac 1 rfl)) ?_)
  refine zby rfl rfl rfl rfl rfl rfl (fun h45 => ?_) (fun h45 => ?_)
  ·
   refine ntQ (zak rfl (srQ ?_))
   refine zdi rfl (zas (z := .int .i64 0) (s := 1) (cs := ([0, 1].map (Value.int .i64))) rfl Try.underlying28 rfl (by decide) rfl (by kernel_rfl) rfl) ?_
   intro g46
   refine zba 1 rfl (reQ 1 rfl (hvQ rfl (zao (cs := [.int .i64 d.W, .int .i64 d.H, .int .i64 d.T, .int .i64 d.R]) rfl rfl rfl rfl rfl (zaj 4 rfl 0 rfl)) (zam 1 rfl ?_)))
   refine hl_callM2 (R := (fun u_ p_ => ∃ zs : List Int, p_ = bigE [curE g a len cap, rowE 3 1 u_ zs.length (zs.map (Value.int .i64))] ∧ (lenN u_ = zs.length ∧ u_.oneCell' = true) ∧ ((Fits d ([0, 1]) ∧ zs.length = ([0, 1]).length ∧ PlP d ([0, 1]) zs) ∨ (¬ Fits d ([0, 1]) ∧ zs = [])))) 1 rfl rfl rfl rfl rfl (fun L w hX hm => zgf g a len cap z d ([0, 1]) (.slice (some ⟨g46, 0, none⟩) 2 2) _ _ _ hm hb hdv (fun w hm9 => by have h9 := hX w hm9; exact zac 0 rfl w h9) (by simp)) ?_
   intro v47 p48 hR49
   obtain ⟨zrhR49, rfl, ⟨hlnhR49, honhR49⟩, hzhR49⟩ := hR49
   refine zdz (l' := (rowE 3 1 (.slice (some ⟨g46, 0, none⟩) 2 2) 2 ([0, 1].map (Value.int .i64)) :: bigE [curE g a len cap, rowE 3 1 v47 zrhR49.length (zrhR49.map (Value.int .i64))] :: rowE 3 1 v42 zrhR44.length (zrhR44.map (Value.int .i64)) :: rowE 3 1 K.1 K.2.length (K.2.map (Value.int .i64)) :: boxE b23 #[.int .i64 d.W, .int .i64 d.H, .int .i64 d.T, .int .i64 d.R] 25 :: boxE b1 #[.int .i64 0, .int .i64 0, .int .i64 0, .int .i64 0] 25 :: l)) rfl ?_
   refine enQ 1 rfl ?_
   refine zbn 6 [5, 4, 3, 2, 0, 1] rfl rfl (by decide) ?_
   refine zfr (curE g a len cap :: rowE 3 1 v47 zrhR49.length (zrhR49.map (Value.int .i64)) :: rowE 3 1 (.slice (some ⟨g46, 0, none⟩) 2 2) 2 ([0, 1].map (Value.int .i64)) :: rowE 3 1 v42 zrhR44.length (zrhR44.map (Value.int .i64)) :: rowE 3 1 K.1 K.2.length (K.2.map (Value.int .i64)) :: boxE b23 #[.int .i64 d.W, .int .i64 d.H, .int .i64 d.T, .int .i64 d.R] 25 :: boxE b1 #[.int .i64 0, .int .i64 0, .int .i64 0, .int .i64 0] 25 :: l) zfk ?_
   have hzB := hzhR49.resolve_right (fun q => q.1 (two_io hdv))
   refine zbn 7 [6, 5, 1, 2, 0] rfl rfl (by decide) ?_
   exact zdr (.slice (some ⟨g46, 0, none⟩) 2 2, [0, 1]) (v47, zrhR49) ⟨⟨by show 1 ≤ List.length [_, _]; simp, by show List.length [_, _] ≤ 64; simp, fun x hx => ks_lit hx⟩, hzB.2.1, hzB.2.2⟩ (saQ rfl) (.refl _)
  refine ntQ (fsQ rfl ?_)
  have hzA := hzhR44.resolve_right (fun q => by have h2 := congrArg List.length q.2; rw [List.length_nil] at h2; omega)
  refine zbn 5 [4, 3, 1, 2, 0] rfl rfl (by decide) ?_
  exact zdr (K.1, K.2) (v42, zrhR44) ⟨⟨hK1, hK2, hK3⟩, hzA.2.1, hzA.2.2⟩ (saQ rfl) (.refl _)
 intro J Z hm50
 obtain ⟨⟨hJ1, hJ2, hJ3⟩, hZl, hZp⟩ := hm50
 refine srQ ?_
 refine zdi rfl (zcb (s := 4) rfl Try.underlying34 rfl) ?_
 intro g51
 refine zba 1 rfl (zaa (zaa (reQ 1 rfl ?_)))
 refine zdc (R := (fun u_ p_ => (∃ x : Int, u_ = .int .i64 x ∧ 0 ≤ x ∧ (1 ≤ (5 : Int) → x < (5 : Int))) ∧ p_ = curE g a len cap)) 1 rfl rfl rfl rfl rfl (fun l' w hm => zfl g a len cap z 5 _ _ _ hm hb (by omega)) ?_
 intro v52 p53 hR54
 obtain ⟨⟨xhR54, rfl, xhR540, xhR541⟩, rfl⟩ := hR54
 refine zdz (l' := (rowE 44 4 (.slice (some ⟨g51, 0, none⟩) 0 0) 0 ([]) :: curE g a len cap :: rowE 3 1 J.1 J.2.length (J.2.map (Value.int .i64)) :: rowE 3 1 Z.1 Z.2.length (Z.2.map (Value.int .i64)) :: boxE b23 #[.int .i64 d.W, .int .i64 d.H, .int .i64 d.T, .int .i64 d.R] 25 :: boxE b1 #[.int .i64 0, .int .i64 0, .int .i64 0, .int .i64 0] 25 :: l)) rfl ?_
 refine zba 1 rfl (zax ?_)
 refine zfa _ zgg ?_
 refine lkQ3 (α := Int) (β := Value × List Cn) (γ := List HP) [0, 2, 3, 4, 5, 10, 11, 13, 19, 44] rfl (fun i U ps => (bigE ps :: rowE 44 4 U.1 U.2.length (U.2.flatMap cnC) :: curE g a len cap :: rowE 3 1 J.1 J.2.length (J.2.map (Value.int .i64)) :: rowE 3 1 Z.1 Z.2.length (Z.2.map (Value.int .i64)) :: boxE b23 #[.int .i64 d.W, .int .i64 d.H, .int .i64 d.T, .int .i64 d.R] 25 :: boxE b1 #[.int .i64 0, .int .i64 0, .int .i64 0, .int .i64 0] 25 :: l)) (fun i U ps => [(14, U.1), (15, .int .i64 i)]) (fun i U ps => (0 ≤ i ∧ i ≤ 4) ∧ (U.2.length : Int) + i ≤ 4 ∧ CnIn J.2.length U.2 ∧ CnM 120 U.2 ∧ ∀ w, (bigE ps).holds w → KsR w U.2) (fun i U ps => i.toNat) _ (_, []) _ ⟨by omega, by show ((0 : Nat) : Int) + _ ≤ 4; omega, CnIn.nil _, CnM.nil _, fun w _ => KsR.nil w⟩ (saQ rfl) (.refl _) ?_
 intro i U ps hi55
 obtain ⟨⟨hi0, hi1⟩, hul, hui, huq, huk⟩ := hi55
 refine zaa (zaa (reQ 1 rfl ?_))
 refine zff rfl rfl rfl rfl rfl rfl (fun h56 => ?_) (fun h56 => ?_)
 ·
  refine ntQ (zak rfl (zcn (sbQ (zaa (reQ 3 rfl (hvQ rfl (lnQ rfl rfl rfl (zac 3 rfl)) ?_))))))
  refine zdc (R := (fun u_ p_ => (∃ x : Int, u_ = .int .i64 x ∧ 0 ≤ x ∧ (1 ≤ ((J.2.length : Int) : Int) → x < ((J.2.length : Int) : Int))) ∧ p_ = curE g a len cap)) 2 rfl rfl rfl rfl rfl (fun l' w hm => zfl g a len cap z (J.2.length : Int) _ _ _ hm hb (by omega)) ?_
  intro v57 p58 hR59
  obtain ⟨⟨xhR59, rfl, xhR590, xhR591⟩, rfl⟩ := hR59
  refine zdz (l' := (bigE ps :: rowE 44 4 U.1 U.2.length (U.2.flatMap cnC) :: curE g a len cap :: rowE 3 1 J.1 J.2.length (J.2.map (Value.int .i64)) :: rowE 3 1 Z.1 Z.2.length (Z.2.map (Value.int .i64)) :: boxE b23 #[.int .i64 d.W, .int .i64 d.H, .int .i64 d.T, .int .i64 d.R] 25 :: boxE b1 #[.int .i64 0, .int .i64 0, .int .i64 0, .int .i64 0] 25 :: l)) rfl ?_
  refine zam 1 rfl (zdc (R := (fun u_ p_ => (∃ x : Int, u_ = .int .i64 x ∧ 0 ≤ x ∧ (1 ≤ (2 : Int) → x < (2 : Int))) ∧ p_ = curE g a len cap)) 2 rfl rfl rfl rfl rfl (fun l' w hm => zfl g a len cap z 2 _ _ _ hm hb (by omega)) ?_)
  intro v60 p61 hR62
  obtain ⟨⟨xhR62, rfl, xhR620, xhR621⟩, rfl⟩ := hR62
  refine zdz (l' := (bigE ps :: rowE 44 4 U.1 U.2.length (U.2.flatMap cnC) :: curE g a len cap :: rowE 3 1 J.1 J.2.length (J.2.map (Value.int .i64)) :: rowE 3 1 Z.1 Z.2.length (Z.2.map (Value.int .i64)) :: boxE b23 #[.int .i64 d.W, .int .i64 d.H, .int .i64 d.T, .int .i64 d.R] 25 :: boxE b1 #[.int .i64 0, .int .i64 0, .int .i64 0, .int .i64 0] 25 :: l)) rfl ?_
  refine hvQ rfl (zcq (cs := #[.int .i64 xhR59, .int .i64 xhR62]) rfl rfl rfl) (hvQ rfl (zcq (cs := #[.int .i64 i, .int .i64 xhR59, .int .i64 xhR62, .slice none 0 0]) rfl rfl rfl) ?_)
  refine zdt rfl (zbw (z := .agg #[.int .i64 0, .int .i64 0, .int .i64 0, .slice none 0 0]) rfl rfl) ?_
  intro b63
  refine zcd (cs' := #[.int .i64 i, .int .i64 xhR59, .int .i64 xhR62, .slice none 0 0]) (i := 0) (off := 0) (us := [.int .i64 i, .int .i64 xhR59, .int .i64 xhR62, .slice none 0 0]) rfl rfl rfl rfl rfl rfl rfl (zah rfl (zah rfl (zah rfl (zah rfl zbp)))) rfl rfl rfl (ntQ (zaa (zaa (reQ 1 rfl ?_))))
  refine zdc (R := (fun u_ p_ => (∃ x : Int, u_ = .int .i64 x ∧ 0 ≤ x ∧ (1 ≤ (3 : Int) → x < (3 : Int))) ∧ p_ = curE g a len cap)) 3 rfl rfl rfl rfl rfl (fun l' w hm => zfl g a len cap z 3 _ _ _ hm hb (by omega)) ?_
  intro v64 p65 hR66
  obtain ⟨⟨xhR66, rfl, xhR660, xhR661⟩, rfl⟩ := hR66
  refine zdz (l' := (boxE b63 #[.int .i64 i, .int .i64 xhR59, .int .i64 xhR62, .slice none 0 0] 44 :: bigE ps :: rowE 44 4 U.1 U.2.length (U.2.flatMap cnC) :: curE g a len cap :: rowE 3 1 J.1 J.2.length (J.2.map (Value.int .i64)) :: rowE 3 1 Z.1 Z.2.length (Z.2.map (Value.int .i64)) :: boxE b23 #[.int .i64 d.W, .int .i64 d.H, .int .i64 d.T, .int .i64 d.R] 25 :: boxE b1 #[.int .i64 0, .int .i64 0, .int .i64 0, .int .i64 0] 25 :: l)) rfl ?_
  refine zba 1 rfl (zax ?_)
  refine zfa (rowE 41 2 (.slice none 0 0) (([] : List Pn).length) (([] : List Pn).flatMap pnC) :: boxE b63 #[.int .i64 i, .int .i64 xhR59, .int .i64 xhR62, .slice none 0 0] 44 :: bigE ps :: rowE 44 4 U.1 U.2.length (U.2.flatMap cnC) :: curE g a len cap :: rowE 3 1 J.1 J.2.length (J.2.map (Value.int .i64)) :: rowE 3 1 Z.1 Z.2.length (Z.2.map (Value.int .i64)) :: boxE b23 #[.int .i64 d.W, .int .i64 d.H, .int .i64 d.T, .int .i64 d.R] 25 :: boxE b1 #[.int .i64 0, .int .i64 0, .int .i64 0, .int .i64 0] 25 :: l) (fun w hm => hm.nilRow 41 2) ?_
  refine lkQ3 (α := Int) (β := Value) (γ := List Pn) [0, 2, 3, 4, 5, 10, 11, 13, 14, 15, 16, 19, 44, 74] rfl (fun k ui xs => (rowE 41 2 ui xs.length (xs.flatMap pnC) :: boxE b63 #[.int .i64 i, .int .i64 xhR59, .int .i64 xhR62, ui] 44 :: bigE ps :: rowE 44 4 U.1 U.2.length (U.2.flatMap cnC) :: curE g a len cap :: rowE 3 1 J.1 J.2.length (J.2.map (Value.int .i64)) :: rowE 3 1 Z.1 Z.2.length (Z.2.map (Value.int .i64)) :: boxE b23 #[.int .i64 d.W, .int .i64 d.H, .int .i64 d.T, .int .i64 d.R] 25 :: boxE b1 #[.int .i64 0, .int .i64 0, .int .i64 0, .int .i64 0] 25 :: l)) (fun k ui xs => [(17, .int .i64 k)]) (fun k ui xs => (-1 ≤ k ∧ k ≤ 2) ∧ (xs.length : Int) + k = xhR66 ∧ PnIn J.2.length xs) (fun k ui xs => (k + 1).toNat) _ _ [] ⟨by omega, by simp, PnIn.nil _⟩ (saQ rfl) (.refl _) ?_
  intro k ui xs hi67
  obtain ⟨⟨hk0, hk1⟩, hxl, hxi⟩ := hi67
  refine zaa (zaa (reQ 1 rfl ?_))
  refine zdo rfl rfl rfl rfl rfl rfl (fun h68 => ?_) (fun h68 => ?_)
  ·
   refine ntQ (zak rfl (zcn (sbQ ?_)))
   refine zhd 9 [8, 7, 6, 5, 3, 2, 1, 0, 4] rfl rfl (by decide) ?_
   refine hc_draw2 (l := (rowE 41 2 ui xs.length (xs.flatMap pnC) :: boxE b63 #[.int .i64 i, .int .i64 xhR59, .int .i64 xhR62, ui] 44 :: bigE ps :: rowE 44 4 U.1 U.2.length (U.2.flatMap cnC) :: rowE 3 1 J.1 J.2.length (J.2.map (Value.int .i64)) :: rowE 3 1 Z.1 Z.2.length (Z.2.map (Value.int .i64)) :: boxE b23 #[.int .i64 d.W, .int .i64 d.H, .int .i64 d.T, .int .i64 d.R] 25 :: boxE b1 #[.int .i64 0, .int .i64 0, .int .i64 0, .int .i64 0] 25 :: l)) rfl 10 [0, 1, 2, 3, 4, 5, 6, 7, 8, 9] (List.take 10 _) (List.drop 10 _) [[], [0], [], [], [3], [2, 4], [], [5, 6], [5, 7], [5, 7, 8]] [92, 93, 94, 95, 96, 97, 98, 99, 100, 101] (fun i_ vs_ v_ p_ => match i_ with | 0 => v_ = .pointer (some ⟨b63, 0 + 3, none⟩) ∧ p_ = [] | 1 => v_ = ui ∧ p_ = [] | 2 => v_ = .pointer (some ⟨g, 0, none⟩) ∧ p_ = [] | 3 => v_ = J.1 ∧ p_ = [] | 4 => v_ = .int .i64 (J.2.length : Int) ∧ p_ = [] | 5 => (∃ pm_, p_ = [pm_] ∧ (fun u_ p_ => (∃ x : Int, u_ = .int .i64 x ∧ 0 ≤ x ∧ (1 ≤ ((J.2.length : Int) : Int) → x < ((J.2.length : Int) : Int))) ∧ p_ = curE g a len cap) v_ pm_) | 6 => v_ = .pointer (some ⟨g, 0, none⟩) ∧ p_ = [] | 7 => (∃ pm_, p_ = [pm_] ∧ (fun u_ p_ => (∃ x : Int, u_ = .int .i64 x ∧ 0 ≤ x ∧ (1 ≤ (5 : Int) → x < (5 : Int))) ∧ p_ = curE g a len cap) v_ pm_) | 8 => v_ = .agg #[.int .i64 (intOf_o (List.getD vs_ 0 undef)), .int .i64 (intOf_o (List.getD vs_ 1 undef))] ∧ p_ = [] | 9 => IsRow 41 2 1 ([(intOf_o (List.getD vs_ 0 undef)), (intOf_o (List.getD vs_ 1 undef))].map (Value.int .i64)) v_ p_ | _ => True) [[], [0], [], [], [3], [2, 4], [], [6], [7], [7, 8]] [none, none, none, none, none, some 13, none, some 5, none, none] [curE g a len cap] [0, 1, 2, 3, 4, 6, 7, 8, 9] 13 (List.take_append_drop 10 _).symm (by kernel_rfl) (by kernel_rfl) (by kernel_rfl) rfl rfl ?_ ?_
   ·
    refine ⟨?_, ?_, ?_, ?_, ?_, ?_, ?_, ?_, ?_, ?_, trivial⟩
    ·
     intro vf pf hmu hR
     refine dqQ [] [] rfl (zce (zai [16] rfl) ?_)
     exact zbe (fdQ 3 rfl rfl rfl)
    ·
     intro vf pf hmu hR
     have e0 := hR 0 (by decide)
     refine dqQ [0] [0] rfl (zbo (sk 92 (congrArg some e0.1) (zad _)) (List.sublist_append_right _ _) ?_)
     exact zbe (zaf rfl rfl rfl (zab 1 rfl rfl))
    ·
     intro vf pf hmu hR
     refine dqQ [] [] rfl (zce (zai [0] rfl) ?_)
     exact zbe (zat rfl)
    ·
     intro vf pf hmu hR
     refine dqQ [] [] rfl (zce (zai [11] rfl) ?_)
     exact zbe (zat rfl)
    ·
     intro vf pf hmu hR
     have e3 := hR 3 (by decide)
     refine dqQ [3] [3] rfl (zbo (sk 95 (congrArg some e3.1) (zad _)) (List.sublist_append_right _ _) ?_)
     exact zbe (lnQ rfl rfl rfl (zac 4 rfl))
    ·
     intro vf pf hmu hR
     have e2 := hR 2 (by decide)
     have e4 := hR 4 (by decide)
     refine Or.inl ⟨rfl, ?_⟩
     show RunM _ _ _ (pf 13) (([2, 4] : List Nat).flatMap pf ++ _) (envOf _ vf [2, 4] ++ _) _ _
     rw [hmu]
     exact zdq (sk 94 (congrArg some e2.1) (sk 96 (congrArg some e4.1) (zad _))) (by simp only [e2.2, e4.2, fS] <;> rfl) (zfd (R := (fun u_ p_ => (∃ x : Int, u_ = .int .i64 x ∧ 0 ≤ x ∧ (1 ≤ ((J.2.length : Int) : Int) → x < ((J.2.length : Int) : Int))) ∧ p_ = curE g a len cap)) rfl rfl (fun L w hX hm => zfl g a len cap z (J.2.length : Int) _ _ _ hm hb (by omega)))
    ·
     intro vf pf hmu hR
     refine dqQ [] [] rfl (zce (zai [0] rfl) ?_)
     exact zbe (zat rfl)
    ·
     intro vf pf hmu hR
     have e5 : (∃ pm_, (pf 5) = [pm_] ∧ (fun u_ p_ => (∃ x : Int, u_ = .int .i64 x ∧ 0 ≤ x ∧ (1 ≤ ((J.2.length : Int) : Int) → x < ((J.2.length : Int) : Int))) ∧ p_ = curE g a len cap) (vf 5) pm_) := hR 5 (by decide)
     obtain ⟨p70, pE5, hR71⟩ := e5
     obtain ⟨v69, vE5⟩ : ∃ x, vf 5 = x := ⟨_, rfl⟩
     rw [vE5] at hR71
     obtain ⟨⟨xhR71, rfl, xhR710, xhR711⟩, rfl⟩ := hR71
     have e6 := hR 6 (by decide)
     refine Or.inl ⟨rfl, ?_⟩
     show RunM _ _ _ (pf 5) (([6] : List Nat).flatMap pf ++ _) (envOf _ vf [5, 6] ++ _) _ _
     rw [pE5]
     exact zdq (sk 98 (congrArg some e6.1) (zad _)) (by simp only [e6.2, fS] <;> rfl) (zfd (R := (fun u_ p_ => (∃ x : Int, u_ = .int .i64 x ∧ 0 ≤ x ∧ (1 ≤ (5 : Int) → x < (5 : Int))) ∧ p_ = curE g a len cap)) rfl rfl (fun L w hX hm => zfl g a len cap z 5 _ _ _ hm hb (by omega)))
    ·
     intro vf pf hmu hR
     have e5 : (∃ pm_, (pf 5) = [pm_] ∧ (fun u_ p_ => (∃ x : Int, u_ = .int .i64 x ∧ 0 ≤ x ∧ (1 ≤ ((J.2.length : Int) : Int) → x < ((J.2.length : Int) : Int))) ∧ p_ = curE g a len cap) (vf 5) pm_) := hR 5 (by decide)
     obtain ⟨p70, pE5, hR71⟩ := e5
     obtain ⟨v69, vE5⟩ : ∃ x, vf 5 = x := ⟨_, rfl⟩
     rw [vE5] at hR71
     obtain ⟨⟨xhR71, rfl, xhR710, xhR711⟩, rfl⟩ := hR71
     have e7 : (∃ pm_, (pf 7) = [pm_] ∧ (fun u_ p_ => (∃ x : Int, u_ = .int .i64 x ∧ 0 ≤ x ∧ (1 ≤ (5 : Int) → x < (5 : Int))) ∧ p_ = curE g a len cap) (vf 7) pm_) := hR 7 (by decide)
     obtain ⟨p73, pE7, hR74⟩ := e7
     obtain ⟨v72, vE7⟩ : ∃ x, vf 7 = x := ⟨_, rfl⟩
     rw [vE7] at hR74
     obtain ⟨⟨xhR74, rfl, xhR740, xhR741⟩, rfl⟩ := hR74
     refine dqQ [7] [5, 7] rfl (zcj (sk 97 (congrArg some vE5) (sk 99 (congrArg some vE7) (zad _))) (by simp only [pE7, vE7, fS] <;> rfl) ?_)
     exact zcy (zbe (zcq (cs := #[.int .i64 xhR71, .int .i64 xhR74]) rfl rfl rfl)) (fun _ _ h => ⟨h.1.trans (by show _ = (.agg #[.int .i64 (intOf_o (vf 5)), .int .i64 (intOf_o (vf 7))] : Value); first | (rw [vE5, vE7]; done) | (rw [vE5, vE7]; rfl)), h.2⟩)
    intro vf pf hmu hR
    have e5 : (∃ pm_, (pf 5) = [pm_] ∧ (fun u_ p_ => (∃ x : Int, u_ = .int .i64 x ∧ 0 ≤ x ∧ (1 ≤ ((J.2.length : Int) : Int) → x < ((J.2.length : Int) : Int))) ∧ p_ = curE g a len cap) (vf 5) pm_) := hR 5 (by decide)
    obtain ⟨p70, pE5, hR71⟩ := e5
    obtain ⟨v69, vE5⟩ : ∃ x, vf 5 = x := ⟨_, rfl⟩
    rw [vE5] at hR71
    obtain ⟨⟨xhR71, rfl, xhR710, xhR711⟩, rfl⟩ := hR71
    have e7 : (∃ pm_, (pf 7) = [pm_] ∧ (fun u_ p_ => (∃ x : Int, u_ = .int .i64 x ∧ 0 ≤ x ∧ (1 ≤ (5 : Int) → x < (5 : Int))) ∧ p_ = curE g a len cap) (vf 7) pm_) := hR 7 (by decide)
    obtain ⟨p73, pE7, hR74⟩ := e7
    obtain ⟨v72, vE7⟩ : ∃ x, vf 7 = x := ⟨_, rfl⟩
    rw [vE7] at hR74
    obtain ⟨⟨xhR74, rfl, xhR740, xhR741⟩, rfl⟩ := hR74
    have e8 : (vf 8) = .agg #[.int .i64 (intOf_o (vf 5)), .int .i64 (intOf_o (vf 7))] ∧ (pf 8) = [] := hR 8 (by decide)
    rw [vE5, vE7] at e8
    refine dqQ [7, 8] [5, 7, 8] rfl (zcj (sk 100 (congrArg some e8.1) (zad _)) (by simp only [pE7, vE7, e8.2, fS] <;> rfl) ?_)
    exact zcy (zas (z := .agg #[.int .i64 0, .int .i64 0]) (s := 2) (cs := ([xhR71, xhR74].map (Value.int .i64))) rfl Try.underlying42 rfl (by decide) rfl (by kernel_rfl) rfl) (fun v_ p_ h => by show IsRow 41 2 1 ([(intOf_o (vf 5)), (intOf_o (vf 7))].map (Value.int .i64)) v_ p_; rw [vE5, vE7]; exact h)
   intro vf pf hmu hR
   have e1 := hR 1 (by decide)
   have e5 : (∃ pm_, (pf 5) = [pm_] ∧ (fun u_ p_ => (∃ x : Int, u_ = .int .i64 x ∧ 0 ≤ x ∧ (1 ≤ ((J.2.length : Int) : Int) → x < ((J.2.length : Int) : Int))) ∧ p_ = curE g a len cap) (vf 5) pm_) := hR 5 (by decide)
   obtain ⟨p70, pE5, hR71⟩ := e5
   obtain ⟨v69, vE5⟩ : ∃ x, vf 5 = x := ⟨_, rfl⟩
   rw [vE5] at hR71
   obtain ⟨⟨xhR71, rfl, xhR710, xhR711⟩, rfl⟩ := hR71
   have e7 : (∃ pm_, (pf 7) = [pm_] ∧ (fun u_ p_ => (∃ x : Int, u_ = .int .i64 x ∧ 0 ≤ x ∧ (1 ≤ (5 : Int) → x < (5 : Int))) ∧ p_ = curE g a len cap) (vf 7) pm_) := hR 7 (by decide)
   obtain ⟨p73, pE7, hR74⟩ := e7
   obtain ⟨v72, vE7⟩ : ∃ x, vf 7 = x := ⟨_, rfl⟩
   rw [vE7] at hR74
   obtain ⟨⟨xhR74, rfl, xhR740, xhR741⟩, rfl⟩ := hR74
   have e9 : IsRow 41 2 1 ([(intOf_o (vf 5)), (intOf_o (vf 7))].map (Value.int .i64)) (vf 9) (pf 9) := hR 9 (by decide)
   rw [vE5, vE7] at e9
   obtain ⟨g75, vE9, pE9⟩ := e9
   have q0 := hR 0 (by decide)
   have q1 := hR 1 (by decide)
   have q2 := hR 2 (by decide)
   have q3 := hR 3 (by decide)
   have q4 := hR 4 (by decide)
   have q6 := hR 6 (by decide)
   have q8 := hR 8 (by decide)
   refine zck (zbj [89, 74, 44, 19, 17, 16, 15, 14, 13, 11, 10, 5, 4, 3, 2, 0] _ (sk 93 (congrArg some e1.1) (sk 101 (congrArg some vE9) (zad _))) rfl) (by simp only [pE7, vE7, pE9, vE9, q0.2, q1.2, q2.2, q3.2, q4.2, q6.2, q8.2, fS] <;> rfl) ?_
   simp only [List.drop_succ_cons, List.drop_zero]
   refine zcf (i := 2) (z := .agg #[.int .i64 0, .int .i64 0]) (bytes := 16) rfl rfl rfl rfl Try.underlying42 (by kernel_rfl) rfl rfl rfl rfl (zac 1 rfl) (zbm _) (by first | omega | (simp only [List.length_append, List.length_cons, List.length_nil]; omega)) (zbt xs [(Pn.mk xhR71 xhR74)]) (zcp pnC xs (Pn.mk xhR71 xhR74) _ rfl) (fun _ => rfl) ?_
   intro v76
   refine hvQ rfl (fdQ 3 rfl rfl rfl) (zdn (i := 2) rfl (fun ho77 => ?_))
   refine zfj (i := 3) (cs' := #[.int .i64 i, .int .i64 xhR59, .int .i64 xhR62, v76]) rfl rfl rfl rfl rfl rfl ho77 rfl rfl rfl rfl (zbr (zco (reQ 1 rfl (hvQ rfl (vsQ rfl rfl rfl) (enQ 1 rfl ?_)))))
   refine zbn 10 [9, 8, 7, 6, 0, 5, 4, 3, 2] rfl rfl (by decide) ?_
   exact zbh (k - 1) v76 (xs ++ [(Pn.mk xhR71 xhR74)]) ⟨by omega, by rw [List.length_append, List.length_singleton]; omega, hxi.app ⟨⟨by omega, by omega⟩, by omega, by omega⟩⟩ (by omega) (saQ rfl) (.refl _)
  refine ntQ (zal rfl ?_)
  refine zaz (zds ?_)
  refine zag (zav (reQ 1 rfl (hvQ rfl (zao (cs := [.int .i64 i, .int .i64 xhR59, .int .i64 xhR62, ui]) rfl rfl rfl rfl rfl (zaj 1 rfl 0 rfl)) ?_)))
  refine zdi rfl (zas (z := .agg #[.int .i64 0, .int .i64 0, .int .i64 0, .slice none 0 0]) (s := 4) (cs := [.int .i64 i, .int .i64 xhR59, .int .i64 xhR62, ui]) rfl Try.underlying34 rfl (by decide) rfl (by kernel_rfl) rfl) ?_
  intro g78
  refine zdn (i := 1) rfl (fun ho79 => ?_)
  refine zcf (i := 4) (z := .agg #[.int .i64 0, .int .i64 0, .int .i64 0, .slice none 0 0]) (bytes := 48) rfl rfl rfl rfl Try.underlying34 (by kernel_rfl) rfl rfl rfl rfl (zac 0 rfl) (zah rfl (zah rfl (zah rfl (zah ho79 zbp)))) (by first | omega | (simp only [List.length_append, List.length_cons, List.length_nil]; omega)) (zbt U.2 [(Cn.mk i xhR59 xhR62 ui xs)]) (zcp cnC U.2 (Cn.mk i xhR59 xhR62 ui xs) _ rfl) (fun _ => rfl) ?_
  intro v80
  refine enQ 1 rfl (zco (reQ 1 rfl (hvQ rfl (vsQ rfl rfl rfl) (enQ 1 rfl ?_))))
  refine zbn 10 [9, 8, 7, 6, 5, 4, 1, 3] rfl rfl (by decide) ?_
  refine zcs 2 rfl ?_
  exact zbh (i - 1) (v80, U.2 ++ [(Cn.mk i xhR59 xhR62 ui xs)]) [bigE ps, rowE 41 2 ui xs.length (xs.flatMap pnC)] ⟨by omega, by show ((List.length (_ ++ [_]) : Nat) : Int) + _ ≤ 4; rw [List.length_append, List.length_singleton]; omega, hui.app ⟨by omega, by omega⟩ (by omega) hxi, huq.app (by show xs.length ≤ 120; omega), fun w hw => (huk w (zbf hw List.mem_cons_self)).app (zcc (zbf hw (List.mem_cons_of_mem _ List.mem_cons_self)))⟩ (by omega) (saQ rfl) (.refl _)
 refine ntQ (zal rfl ?_)
 refine zaz (zds ?_)
 refine zag (zav (srQ (hvQ rfl (zao (cs := [.int .i64 d.W, .int .i64 d.H, .int .i64 d.T, .int .i64 d.R]) rfl rfl rfl rfl rfl (zaj 5 rfl 0 rfl)) (zam 3 rfl ?_))))
 refine zcd (cs' := #[.int .i64 d.W, .int .i64 d.H, .int .i64 d.T, .int .i64 d.R]) (i := 6) (off := 0) (us := [.int .i64 d.W, .int .i64 d.H, .int .i64 d.T, .int .i64 d.R]) rfl rfl rfl rfl rfl rfl rfl (zah rfl (zah rfl (zah rfl (zah rfl zbp)))) rfl rfl rfl (zba 3 rfl ?_)
 refine zaw (zdw (fun w hm => (zac 3 rfl w hm).one) (fun hoK => ?_))
 refine zdw (fun w hm => (zac 1 rfl w hm).one) (fun hoC => ?_)
 refine zdw (fun w hm => (zac 4 rfl w hm).one) (fun hoZ => ?_)
 refine zbn 7 [6, 5, 2, 4, 0, 1, 3] rfl rfl (by decide) ?_
 refine zcs 4 rfl ?_
 refine zbn 4 [3, 2, 0, 1] rfl rfl (by decide) ?_
 refine zcs 2 rfl ?_
 exact zgm (rs := [.cell 2 25, .tmp 3, .tmp 4, .tmp 5]) (vs := [.agg #[.int .i64 d.W, .int .i64 d.H, .int .i64 d.T, .int .i64 d.R], J.1, U.1, Z.1]) rfl ⟨⟨b1, 0, [.int .i64 d.W, .int .i64 d.H, .int .i64 d.T, .int .i64 d.R], rfl, rfl, by kernel_rfl, by kernel_rfl, zaj 2 rfl 0 rfl⟩, rfl, rfl, rfl, trivial⟩ rfl (fun w hm => ⟨_, bigE [curE g a len cap, bigE [rowE 3 1 J.1 J.2.length (J.2.map (Value.int .i64)), rowE 44 4 U.1 U.2.length (U.2.flatMap cnC), bigE ps, rowE 3 1 Z.1 Z.2.length (Z.2.map (Value.int .i64))]], rfl, ⟨_, _, J.2, Z.2, U.2, _, _, _, rfl, rfl, fun w hw => ⟨zcc (zbf hw List.mem_cons_self), ⟨zcc (zbf hw (List.mem_cons_of_mem _ List.mem_cons_self)), huk w (zbf hw (List.mem_cons_of_mem _ (List.mem_cons_of_mem _ List.mem_cons_self)))⟩, zcc (zbf hw (List.mem_cons_of_mem _ (List.mem_cons_of_mem _ (List.mem_cons_of_mem _ List.mem_cons_self))))⟩, ⟨hoK, hoC, hoZ⟩, hdv, hJ2, hJ3, hZl, hZp, hui, by omega, ⟨by omega, fun q hq => huq _ (zbs (d := cn0) hq)⟩⟩, hm.sub (.cons_cons _ (.cons _ (.cons _ (.refl _))))⟩)
theorem flat_app {α : Type} (f : α → List Value) (xs ys : List α) : xs.flatMap f ++ ys.flatMap f = (xs ++ ys).flatMap f := List.flatMap_append.symm
theorem flat_ones {α : Type} (f : α → List Value) (xs : List α) (h : ∀ r u, u ∈ f r → u.oneCell' = true) : ∀ q ∈ xs.flatMap f, q.oneCell' = true := fun q hq => by
  obtain ⟨r, -, hr⟩ := List.mem_flatMap.1 hq; exact h r q hr
def pinsC (c : Cn) : List Pn := [Pn.mk c.sb c.sp] ++ c.ks
def xAt (d : Dev) (zs : List Int) (c : Cn) (k : Nat) : Int := zs.getD ((pinsC c).getD k pn0).b.toNat 0 % d.W
def yAt (d : Dev) (zs : List Int) (c : Cn) (k : Nat) : Int := zs.getD ((pinsC c).getD k pn0).b.toNat 0 / d.W
def mnT (f : Nat → Int) (i : Int) : Nat → Int
  | 0 => i
  | k + 1 => if f k < mnT f i k then f k else mnT f i k
def mxT (f : Nat → Int) (i : Int) : Nat → Int
  | 0 => i
  | k + 1 => if mxT f i k < f k then f k else mxT f i k
theorem mnT_eq {f : Nat → Int} {i j : Int} (hi : f 0 ≤ i) (hj : f 0 ≤ j) : ∀ k, mnT f i (k + 1) = mnT f j (k + 1)
  | 0 => by show (if f 0 < i then f 0 else i) = (if f 0 < j then f 0 else j); split <;> split <;> omega
  | k + 1 => by
    have ih := mnT_eq hi hj k
    show (if f (k + 1) < mnT f i (k + 1) then _ else mnT f i (k + 1)) = (if f (k + 1) < mnT f j (k + 1) then _ else mnT f j (k + 1))
    rw [ih]
theorem mxT_eq {f : Nat → Int} {i j : Int} (hi : i ≤ f 0) (hj : j ≤ f 0) : ∀ k, mxT f i (k + 1) = mxT f j (k + 1)
  | 0 => by show (if i < f 0 then f 0 else i) = (if j < f 0 then f 0 else j); split <;> split <;> omega
  | k + 1 => by
    have ih := mxT_eq hi hj k
    show (if mxT f i (k + 1) < f (k + 1) then _ else mxT f i (k + 1)) = (if mxT f j (k + 1) < f (k + 1) then _ else mxT f j (k + 1))
    rw [ih]
theorem mnT_rng {f : Nat → Int} {i a b : Int} (h0 : a ≤ i ∧ i ≤ b) : ∀ n, (∀ k, k < n → a ≤ f k ∧ f k ≤ b) → a ≤ mnT f i n ∧ mnT f i n ≤ b
  | 0, _ => h0
  | n + 1, h => by
    have ih := mnT_rng h0 n fun k hk => h k (by omega)
    have := h n (by omega)
    show a ≤ (if f n < mnT f i n then f n else mnT f i n) ∧ (if f n < mnT f i n then f n else mnT f i n) ≤ b
    split <;> omega
theorem mxT_rng {f : Nat → Int} {i a b : Int} (h0 : a ≤ i ∧ i ≤ b) : ∀ n, (∀ k, k < n → a ≤ f k ∧ f k ≤ b) → a ≤ mxT f i n ∧ mxT f i n ≤ b
  | 0, _ => h0
  | n + 1, h => by
    have ih := mxT_rng h0 n fun k hk => h k (by omega)
    have := h n (by omega)
    show a ≤ (if mxT f i n < f n then f n else mxT f i n) ∧ (if mxT f i n < f n then f n else mxT f i n) ≤ b
    split <;> omega
theorem mn_le (f : Nat → Int) (i : Int) : ∀ k, mnT f i (k + 1) ≤ f 0
  | 0 => by show (if f 0 < i then f 0 else i) ≤ _; split <;> omega
  | k + 1 => by
    have := mn_le f i k
    show (if f (k + 1) < mnT f i (k + 1) then f (k + 1) else mnT f i (k + 1)) ≤ _
    split <;> omega
theorem mx_ge (f : Nat → Int) (i : Int) : ∀ k, f 0 ≤ mxT f i (k + 1)
  | 0 => by show _ ≤ (if i < f 0 then f 0 else i); split <;> omega
  | k + 1 => by
    have := mx_ge f i k
    show _ ≤ (if mxT f i (k + 1) < f (k + 1) then f (k + 1) else mxT f i (k + 1))
    split <;> omega
def spanK (d : Dev) (zs : List Int) (c : Cn) : Int :=
  mxT (xAt d zs c) 0 (c.ks.length + 1) - mnT (xAt d zs c) d.W (c.ks.length + 1) + mxT (yAt d zs c) 0 (c.ks.length + 1) - mnT (yAt d zs c) d.H (c.ks.length + 1)
theorem zgq (c : Cn) : (pinsC c).length = c.ks.length + 1 := by unfold pinsC; rw [List.length_append, List.length_singleton]; omega
def PinB (B : Nat) (c : Cn) : Prop := ∀ k, k < (pinsC c).length → 0 ≤ ((pinsC c).getD k pn0).b ∧ ((pinsC c).getD k pn0).b < (B : Int)
theorem CnIn.pinB {B : Nat} {cs : List Cn} (h : CnIn B cs) {c : Cn} (hc : c ∈ cs) : PinB B c := fun k hk => by
  obtain ⟨h1, h2, h3⟩ := h c hc
  have hm : (pinsC c).getD k pn0 ∈ pinsC c := zeh hk
  rcases List.mem_append.1 (show (pinsC c).getD k pn0 ∈ [Pn.mk c.sb c.sp] ++ c.ks from hm) with hx | hx
  · rw [List.mem_singleton] at hx; rw [hx]; exact h1.1
  · exact (h3 _ hx).1
def ZsIn (d : Dev) (zs : List Int) : Prop := ∀ q, q < zs.length → 0 ≤ zs.getD q 0 ∧ zs.getD q 0 < d.W * d.H
theorem xy_rng {d : Dev} (hd : devB d = true) {zs : List Int} (hz : ZsIn d zs) {c : Cn} (hc : PinB zs.length c) {k : Nat} (hk : k < (pinsC c).length) : (0 ≤ xAt d zs c k ∧ xAt d zs c k < d.W) ∧ 0 ≤ yAt d zs c k ∧ yAt d zs c k < d.H := by
  obtain ⟨⟨a, b⟩, ⟨c', e⟩, -⟩ := (zeq d).1 hd
  have h1 := hc k hk
  have h2 := hz ((pinsC c).getD k pn0).b.toNat (by omega)
  refine ⟨⟨Int.emod_nonneg _ (by omega), Int.emod_lt_of_pos _ (by omega)⟩, Int.ediv_nonneg h2.1 (by omega), ?_⟩
  exact Int.ediv_lt_of_lt_mul (by omega) (by rw [Int.mul_comm]; exact h2.2)
theorem span_impl {d : Dev} (hd : devB d = true) {zs : List Int} (hz : ZsIn d zs) {c : Cn} (hc : PinB zs.length c) {n : Nat} (hn : n = (pinsC c).length) : mxT (xAt d zs c) (-1) n - mnT (xAt d zs c) 6 n + mxT (yAt d zs c) (-1) n - mnT (yAt d zs c) 6 n = spanK d zs c := by
  obtain ⟨⟨a, b⟩, ⟨c', e⟩, -⟩ := (zeq d).1 hd
  have h0 := xy_rng hd hz hc (k := 0) (by rw [zgq]; omega)
  rw [hn, zgq]
  unfold spanK
  rw [mxT_eq (f := xAt d zs c) (i := -1) (j := 0) (by omega) (by omega), mnT_eq (f := xAt d zs c) (i := 6) (j := d.W) (by omega) (by omega), mxT_eq (f := yAt d zs c) (i := -1) (j := 0) (by omega) (by omega), mnT_eq (f := yAt d zs c) (i := 6) (j := d.H) (by omega) (by omega)]
theorem span_nonneg {d : Dev} (zs : List Int) (c : Cn) : 0 ≤ spanK d zs c := by
  have h1 := mn_le (xAt d zs c) d.W c.ks.length
  have h2 := mx_ge (xAt d zs c) 0 c.ks.length
  have h3 := mn_le (yAt d zs c) d.H c.ks.length
  have h4 := mx_ge (yAt d zs c) 0 c.ks.length
  unfold spanK; omega
theorem tk_pos {d : Dev} (hd : devB d = true) {t : Int} (h : 0 ≤ t ∧ t < d.W * d.H) : 0 ≤ tileKindI d t := by
  unfold tileKindI; rw [if_pos ((zgo d t).2 ⟨hd, by omega, by omega⟩)]
  rcases kind_cases d t with h | h | h <;> omega
def costL (d : Dev) (zs : List Int) (cs : List Cn) : Nat → Int
  | 0 => 0
  | k + 1 => costL d zs cs k + spanK d zs (cs.getD k cn0)
noncomputable def costK (d : Dev) (zs : List Int) (cs : List Cn) : Int := if pB (CoP cs) = true then costL d zs cs cs.length else -1
theorem DrawPlaced_ret (a : Option Addr) (len cap : Nat) (z : List Int) (w : World) (hb : BRow .u8 w a len cap z) (hlen : len ≤ 1048576) :
   Calls Try.prog 16 #[.slice a len cap] w (Ret w (fun u_ p_ => ∃ (d : Dev) (ps : List HP) (ks zs : List Int) (cs : List Cn) (kv cv zv : Value), u_ = .tuple #[.agg #[.int .i64 d.W, .int .i64 d.H, .int .i64 d.T, .int .i64 d.R], kv, cv, zv] ∧ p_ = [bigE ps] ∧ (∀ w, (bigE ps).holds w → RdsW w kv 1 ks.length (ks.map (Value.int .i64)) ∧ RdsCn w cv cs ∧ RdsW w zv 1 zs.length (zs.map (Value.int .i64))) ∧ (kv.oneCell' = true ∧ cv.oneCell' = true ∧ zv.oneCell' = true) ∧ devB d = true ∧ ks.length ≤ 64 ∧ (∀ x ∈ ks, 0 ≤ x ∧ x ≤ 3) ∧ zs.length = ks.length ∧ PlP d ks zs ∧ CnIn ks.length cs ∧ cs.length ≤ 2 * ks.length + 4 ∧ CoP cs)) := by
 refine zbl (N := 13) (args := [.slice a len cap]) Try.func16 rfl rfl (srQ ?_)
 refine zdt rfl (zbw (z := .agg #[.int .i64 0, .int .i64 0, .int .i64 0, .int .i64 0]) rfl rfl) ?_
 intro b1
 refine zba 3 rfl (zaa (reQ 1 rfl ?_))
 refine zfu rfl rfl rfl (zan rfl rfl (fun w hm => new_ret (hb.below hm.bel) hlen)) ?_
 intro v2 p3 hR4
 obtain ⟨ghR4, rfl, rfl⟩ := hR4
 refine zdc (R := (fun u_ p_ => ∃ (d : Dev) (ps : List HP) (ks zs : List Int) (cs : List Cn) (kv cv zv : Value), u_ = .tuple #[.agg #[.int .i64 d.W, .int .i64 d.H, .int .i64 d.T, .int .i64 d.R], kv, cv, zv] ∧ p_ = bigE [curE ghR4 a len cap, bigE ps] ∧ (∀ w, (bigE ps).holds w → RdsW w kv 1 ks.length (ks.map (Value.int .i64)) ∧ RdsCn w cv cs ∧ RdsW w zv 1 zs.length (zs.map (Value.int .i64))) ∧ (kv.oneCell' = true ∧ cv.oneCell' = true ∧ zv.oneCell' = true) ∧ devB d = true ∧ ks.length ≤ 64 ∧ (∀ x ∈ ks, 0 ≤ x ∧ x ≤ 3) ∧ zs.length = ks.length ∧ PlP d ks zs ∧ CnIn ks.length cs ∧ cs.length ≤ 2 * ks.length + 4 ∧ CoP cs)) 0 rfl rfl rfl rfl rfl (fun l' w hm => l29Drawn_mut ghR4 a len cap z _ _ _ hm hb) ?_
 intro v5 p6 hR7
 obtain ⟨d, dp, ks, zs, cs, kv, cv, zv, rfl, rfl, hdp, ⟨oK, oC, oZ⟩, hdv, hkl, hkr, hzl, hzp, hci, hcl, hco⟩ := hR7
 refine zdz (l' := [bigE [curE ghR4 a len cap, bigE dp], boxE b1 #[.int .i64 0, .int .i64 0, .int .i64 0, .int .i64 0] 25]) rfl ?_
 refine zam 4 rfl (zcd (cs' := #[.int .i64 d.W, .int .i64 d.H, .int .i64 d.T, .int .i64 d.R]) (i := 1) (off := 0) (us := [.int .i64 d.W, .int .i64 d.H, .int .i64 d.T, .int .i64 d.R]) rfl rfl rfl rfl rfl rfl rfl (zah rfl (zah rfl (zah rfl (zah rfl zbp)))) rfl rfl rfl ?_)
 refine zba 3 rfl ?_
 refine zaw (zbn 2 [1, 0] rfl rfl (by decide) ?_)
 refine zfr [curE ghR4 a len cap, bigE dp, boxE b1 #[.int .i64 d.W, .int .i64 d.H, .int .i64 d.T, .int .i64 d.R] 25] zfk ?_
 exact zdb (rs := [.cell 2 25, .tmp 3, .tmp 4, .tmp 5]) (vs := [.agg #[.int .i64 d.W, .int .i64 d.H, .int .i64 d.T, .int .i64 d.R], kv, cv, zv]) (post := [bigE dp]) rfl ⟨⟨b1, 0, [.int .i64 d.W, .int .i64 d.H, .int .i64 d.T, .int .i64 d.R], rfl, rfl, by kernel_rfl, by kernel_rfl, zaj 2 rfl 0 rfl⟩, rfl, rfl, rfl, trivial⟩ rfl (slQ [1] rfl) ⟨d, dp, ks, zs, cs, _, _, _, rfl, rfl, hdp, ⟨oK, oC, oZ⟩, hdv, hkl, hkr, hzl, hzp, hci, hcl, hco⟩
theorem pinOk_yes9 (B : Nat) (p : Pn) (w : World) (hp : (0 ≤ p.b ∧ p.b < (B : Int)) ∧ 0 ≤ p.p ∧ p.p ≤ 4) (hB : B ≤ 64) :
   Calls Try.prog 87 #[.int .i64 (B : Int), .agg #[.int .i64 p.b, .int .i64 p.p]] w (Ans w (.bool true)) := by
 refine zbl (N := 15) (args := [.int .i64 (B : Int), .agg #[.int .i64 p.b, .int .i64 p.p]]) Try.func87 rfl rfl (srQ ?_)
 refine zdt rfl (zcm rfl rfl) ?_
 intro b1
 refine zba 1 rfl (srQ (hvQ rfl (fdQ 0 rfl rfl rfl) (hvQ rfl (zaf rfl rfl rfl (zab 0 rfl rfl)) (zam 1 rfl (hvQ rfl (vsQ rfl rfl rfl) ?_)))))
 refine zdp rfl (zan rfl rfl (fun w hm => zau (ans_of (by have h9 := zdk p.b 0 ((B : Int) - 1) w; rw [(zde _ _ _).2 (by omega)] at h9; exact h9)))) (zam 1 rfl (hvQ rfl (fdQ 1 rfl rfl rfl) (hvQ rfl (zaf rfl rfl rfl (zab 0 rfl rfl)) ?_)))
 refine zdp rfl (zan rfl rfl (fun w hm => zau (ans_of (by have h9 := zdk p.p 0 4 w; rw [(zde _ _ _).2 (by omega)] at h9; exact h9)))) (zba 2 rfl ?_)
 exact zaw (zbi rfl rfl rfl)
theorem zgl (B : Nat) (cs : List Cn) (v : Value) (w : World) (hcn : RdsCn w v cs) (hci : CnIn B cs) (hB : B ≤ 64) :
   Calls Try.prog 49 #[.int .i64 (B : Int), v] w (Ans w (.bool (pB (CoP cs)))) := by
 have hcs9 := sml hcn.row
 refine zbl (N := 48) (args := [.int .i64 (B : Int), v]) Try.func49 rfl rfl (zbd 1 rfl (zaa (zaa (reQ 1 rfl ?_))))
 refine zdp rfl (zan rfl rfl (fun w hm => zau (ans_of (zdk _ _ _ w)))) (zbx (fun h1 => ?_) (fun h1 => absurd ((((zde _ _ _).2 (by omega))).symm.trans h1) (by decide)))
 obtain ⟨h1a, h1b⟩ := (zde _ _ _).1 h1
 refine zam 3 rfl (hvQ rfl (lnQ rfl rfl rfl (zae hcn.row)) ?_)
 refine zff rfl rfl rfl rfl rfl rfl (fun h2 => ?_) (fun h2 => ?_)
 ·
  refine zba 1 rfl (zak rfl (zbd 1 rfl ?_))
  refine zaw (zap ?_)
  exact zbi rfl rfl (congrArg _ (zdv (fun hp => by have h9 := hp.1; first | omega | (have h8 := hp.2 i (by omega); omega))).symm)
 refine zba 1 rfl (zal rfl (zcn (zaa (zaa (reQ 1 rfl (hvQ rfl (lnQ rfl rfl rfl (zae hcn.row)) (zam 1 rfl (?_))))))))
 refine ntQ (zax ?_)
 refine lkQ1 (α := Nat) [0, 1, 4, 16, 17, 18] rfl (fun i => []) (fun i => [(19, .int .i64 (i : Int))]) (fun i => i ≤ cs.length ∧ ∀ q, q < i → (cs.getD q cn0).ks.length ≤ 120) (fun i => cs.length - i) 0 ⟨Nat.zero_le _, fun q hq => absurd hq (by omega)⟩ (saQ rfl) (.slnil) ?_
 intro i hi3
 obtain ⟨hi, hall⟩ := hi3
 refine srQ ?_
 refine zbk rfl rfl rfl rfl rfl rfl (fun h4 => ?_) (fun h4 => ?_)
 ·
  refine ntQ (tcQ rfl (zcn (sbQ (srQ ?_))))
  have hme := hci _ (zbs (d := cn0) (show i < cs.length by omega))
  obtain ⟨hsrc, hkn, hkp⟩ := hme
  refine hvQ rfl (riQ 4 rfl rfl rfl rfl (zae hcn.row)) (hvQ rfl (zcg (us := [.int .i64 ((cs.getD i cn0).nd), .int .i64 ((cs.getD i cn0).sb), .int .i64 ((cs.getD i cn0).sp), (cs.getD i cn0).kv]) rfl rfl rfl rfl (zae hcn.row) (by omega) rfl (zcw cnC 4 (fun _ => rfl) cs cn0 (show i < _ by omega) rfl)) ?_)
  refine zdt rfl (zbw (z := .agg #[.int .i64 0, .int .i64 0, .int .i64 0, .slice none 0 0]) rfl rfl) ?_
  intro b5
  refine zcd (cs' := #[.int .i64 ((cs.getD i cn0).nd), .int .i64 ((cs.getD i cn0).sb), .int .i64 ((cs.getD i cn0).sp), (cs.getD i cn0).kv]) (i := 0) (off := 0) (us := [.int .i64 ((cs.getD i cn0).nd), .int .i64 ((cs.getD i cn0).sb), .int .i64 ((cs.getD i cn0).sp), (cs.getD i cn0).kv]) rfl rfl rfl rfl rfl rfl rfl (zah rfl (zah rfl (zah rfl (zah (hcn.at (k := i) (by omega)).one zbp)))) rfl rfl rfl (ntQ (zfc (hvQ rfl (fdQ 3 rfl rfl rfl) (hvQ rfl (zaf rfl rfl rfl (zab 0 rfl rfl)) (hvQ rfl (lnQ rfl rfl rfl (zae (hcn.at (k := i) (by omega)))) ?_)))))
  refine zdp rfl (zan rfl rfl (fun w hm => zau (ans_of (zdk _ _ _ w)))) (zbx (fun h6 => ?_) (fun h6 => ?_))
  ·
   obtain ⟨h6a, h6b⟩ := (zde _ _ _).1 h6
   refine zam 3 rfl (hvQ rfl (fdQ 1 rfl rfl rfl) (hvQ rfl (zao (cs := [.int .i64 ((cs.getD i cn0).sb), .int .i64 ((cs.getD i cn0).sp)]) rfl rfl rfl rfl rfl (zaj 0 rfl 1 rfl)) ?_))
   refine zdp rfl (zan rfl rfl (fun w hm => zau (pinOk_yes9 B (Pn.mk ((cs.getD i cn0).sb) ((cs.getD i cn0).sp)) w hsrc hB))) (zba 2 rfl (zal rfl (zcn (srQ (hvQ rfl (fdQ 3 rfl rfl rfl) (hvQ rfl (zaf rfl rfl rfl (zab 0 rfl rfl)) (hvQ rfl (lnQ rfl rfl rfl (zae (hcn.at (k := i) (by omega)))) (zam 1 rfl (?_)))))))))
   refine ntQ (zax ?_)
   refine lkQ1 (α := Nat) [0, 1, 4, 6, 16, 17, 18, 19, 20, 34, 36, 37] rfl (fun k => [boxE b5 #[.int .i64 ((cs.getD i cn0).nd), .int .i64 ((cs.getD i cn0).sb), .int .i64 ((cs.getD i cn0).sp), (cs.getD i cn0).kv] 44]) (fun k => [(38, .int .i64 (k : Int))]) (fun k => k ≤ (cs.getD i cn0).ks.length) (fun k => (cs.getD i cn0).ks.length - k) 0 (Nat.zero_le _) (saQ rfl) (pfQ rfl) ?_
   intro k hi7
   have hk := hi7
   refine srQ ?_
   refine zbk rfl rfl rfl rfl rfl rfl (fun h8 => ?_) (fun h8 => ?_)
   ·
    refine ntQ (tcQ rfl (zcn (sbQ (srQ ?_))))
    have hpin := hkp _ (zbs (d := pn0) (show k < (cs.getD i cn0).ks.length by omega))
    refine hvQ rfl (riQ 2 rfl rfl rfl rfl (zae (hcn.at (k := i) (by omega)))) (hvQ rfl (zcg (us := [.int .i64 ((((cs.getD i cn0).ks).getD k pn0).b), .int .i64 ((((cs.getD i cn0).ks).getD k pn0).p)]) rfl rfl rfl rfl (zae (hcn.at (k := i) (by omega))) (by omega) rfl (zcw pnC 2 (fun _ => rfl) ((cs.getD i cn0).ks) pn0 (show k < _ by omega) rfl)) ?_)
    refine zdt rfl (zbw (z := .agg #[.int .i64 0, .int .i64 0]) rfl rfl) ?_
    intro b9
    refine zcd (cs' := #[.int .i64 ((((cs.getD i cn0).ks).getD k pn0).b), .int .i64 ((((cs.getD i cn0).ks).getD k pn0).p)]) (i := 0) (off := 0) (us := [.int .i64 ((((cs.getD i cn0).ks).getD k pn0).b), .int .i64 ((((cs.getD i cn0).ks).getD k pn0).p)]) rfl rfl rfl rfl rfl rfl rfl (zah rfl (zah rfl zbp)) rfl rfl rfl (ntQ (zaa (reQ 1 rfl (hvQ rfl (zao (cs := [.int .i64 ((((cs.getD i cn0).ks).getD k pn0).b), .int .i64 ((((cs.getD i cn0).ks).getD k pn0).p)]) rfl rfl rfl rfl rfl (zaj 0 rfl 0 rfl)) ?_))))
    refine zdp rfl (zan rfl rfl (fun w hm => zau (pinOk_yes9 B (Pn.mk ((((cs.getD i cn0).ks).getD k pn0).b) ((((cs.getD i cn0).ks).getD k pn0).p)) w hpin hB))) (zba 1 rfl (fsQ rfl (zco (zay (hvQ rfl (vaQ rfl rfl rfl) (enQ 1 rfl ?_))))))
    exact zcx (k + 1) (by omega) (by omega) (saQ rfl) (slQ [1] rfl)
   refine ntQ (fcQ rfl ?_)
   refine zaz (zds ?_)
   refine zag (zco (zay (hvQ rfl (vaQ rfl rfl rfl) (enQ 1 rfl ?_))))
   exact zcx (i + 1) ⟨by omega, fun q hq => by by_cases e : q = i; (subst e; omega); exact hall q (by omega)⟩ (by omega) (saQ rfl) (slQ [] rfl)
  have h6a := zfs h6
  refine zba 8 rfl (zak rfl (srQ (enQ 1 rfl ?_)))
  refine zav (zaw ?_)
  refine zap (zaq ?_)
  refine zgp ?_
  refine zaq (zap ?_)
  exact zbi rfl rfl (congrArg _ (zdv (fun hp => by have h9 := hp.1; first | omega | (have h8 := hp.2 i (by omega); omega))).symm)
 refine ntQ (fcQ rfl ?_)
 refine zaz (zds ?_)
 refine zag (zav (zbd 1 rfl ?_))
 exact zaw (zbi rfl rfl (congrArg _ (zed ⟨by omega, fun q hq => hall q (by omega)⟩).symm))
theorem pinsOf_ret (c : Cn) (w : World) (hkv : RdsW w c.kv 2 c.ks.length (c.ks.flatMap pnC)) (hkl : c.ks.length ≤ 1000) :
   Calls Try.prog 88 #[.agg #[.int .i64 c.nd, .int .i64 c.sb, .int .i64 c.sp, c.kv]] w (Ret w (fun v' post => post = [rowE 41 2 v' (pinsC c).length ((pinsC c).flatMap pnC)])) := by
 refine zbl (N := 9) (args := [.agg #[.int .i64 c.nd, .int .i64 c.sb, .int .i64 c.sp, c.kv]]) Try.func88 rfl rfl (srQ ?_)
 refine zdt rfl (zcm rfl rfl) ?_
 intro b1
 refine zba 1 rfl (srQ (hvQ rfl (fdQ 1 rfl rfl rfl) (hvQ rfl (zao (cs := [.int .i64 c.sb, .int .i64 c.sp]) rfl rfl rfl rfl rfl (zaj 0 rfl 1 rfl)) ?_)))
 refine zdi rfl (zas (z := .agg #[.int .i64 0, .int .i64 0]) (s := 2) (cs := ([c.sb, c.sp].map (Value.int .i64))) rfl Try.underlying42 rfl (by decide) rfl (by kernel_rfl) rfl) ?_
 intro g2
 refine zdz (l' := [rowE 41 2 (.slice (some ⟨g2, 0, none⟩) 1 1) (([Pn.mk c.sb c.sp]).length) (([Pn.mk c.sb c.sp]).flatMap pnC), boxE b1 #[.int .i64 c.nd, .int .i64 c.sb, .int .i64 c.sp, c.kv] 44]) rfl ?_
 refine hvQ rfl (fdQ 3 rfl rfl rfl) (hvQ rfl (zaf rfl rfl rfl (zab 1 rfl rfl)) ?_)
 refine zcf (i := 0) (z := .agg #[.int .i64 0, .int .i64 0]) (bytes := 16) (n' := (([Pn.mk c.sb c.sp]) ++ c.ks).length) (xs' := ((([Pn.mk c.sb c.sp]) ++ c.ks).flatMap pnC)) rfl rfl rfl rfl Try.underlying42 (by kernel_rfl) rfl rfl rfl rfl (zae hkv) (flat_ones pnC c.ks (fun r u hu => by simp [pnC] at hu; first | (subst hu; rfl) | (rcases hu with rfl | rfl <;> rfl))) (by first | omega | (simp only [List.length_cons, List.length_nil]; omega)) (zbt ([Pn.mk c.sb c.sp]) c.ks) (flat_app pnC ([Pn.mk c.sb c.sp]) c.ks) (fun _ => rfl) ?_
 intro v3
 refine zba 1 rfl ?_
 exact zaw (zcz (post := [rowE 41 2 v3 ((([Pn.mk c.sb c.sp]) ++ c.ks).length) ((([Pn.mk c.sb c.sp]) ++ c.ks).flatMap pnC)]) rfl rfl (slQ [0] rfl) rfl)
theorem implConnSpan_ans (d : Dev) (zs : List Int) (c : Cn) (zv : Value) (w : World) (hdv : devB d = true) (hzv : RdsW w zv 1 zs.length (zs.map (Value.int .i64))) (hzl : zs.length ≤ 64) (hzi : ZsIn d zs) (hcb : PinB zs.length c) (hkv : RdsW w c.kv 2 c.ks.length (c.ks.flatMap pnC)) (hkl : c.ks.length ≤ 1000) :
   Calls Try.prog 50 #[.agg #[.int .i64 d.W, .int .i64 d.H, .int .i64 d.T, .int .i64 d.R], zv, .agg #[.int .i64 c.nd, .int .i64 c.sb, .int .i64 c.sp, c.kv]] w (Ans w (.int .i64 (spanK d zs c))) := by
 obtain ⟨har1, har2⟩ := zfe hdv
 obtain ⟨⟨dw0, dw1⟩, ⟨dh0, dh1⟩, -⟩ := (zeq d).1 hdv
 have hpl := zgq c
 refine zbl (N := 78) (args := [.agg #[.int .i64 d.W, .int .i64 d.H, .int .i64 d.T, .int .i64 d.R], zv, .agg #[.int .i64 c.nd, .int .i64 c.sb, .int .i64 c.sp, c.kv]]) Try.func50 rfl rfl (srQ ?_)
 refine zdt rfl (zcm rfl rfl) ?_
 intro b1
 refine zdt rfl (zcm rfl rfl) ?_
 intro b2
 refine zba 1 rfl (zfc (hvQ rfl (zao (cs := [.int .i64 d.W, .int .i64 d.H, .int .i64 d.T, .int .i64 d.R]) rfl rfl rfl rfl rfl (zaj 1 rfl 0 rfl)) ?_))
 refine zdp rfl (zan rfl rfl (fun w hm => zau (by have h9 := zdm d w; rw [hdv] at h9; exact h9))) (zba 1 rfl (zal rfl (zcn (zbd 4 rfl (zaa ?_)))))
 refine srQ (hvQ rfl (zao (cs := [.int .i64 c.nd, .int .i64 c.sb, .int .i64 c.sp, c.kv]) rfl rfl rfl rfl rfl (zaj 0 rfl 0 rfl)) ?_)
 refine zfu rfl rfl rfl (zan rfl rfl (fun w hm => pinsOf_ret c w (hkv.below hm.bel) hkl)) ?_
 intro v3 p4 hR5
 subst hR5
 refine hvQ rfl (lnQ rfl rfl rfl (zac 0 rfl)) (zba 1 rfl (zax ?_))
 refine lkQ3 (α := Nat) (β := Int × Int) (γ := Int × Int) [0, 1, 2, 3, 5, 6, 17, 19, 20] rfl (fun k X Y => [rowE 41 2 v3 ((pinsC c).length) ((pinsC c).flatMap pnC), boxE b2 #[.int .i64 c.nd, .int .i64 c.sb, .int .i64 c.sp, c.kv] 44, boxE b1 #[.int .i64 d.W, .int .i64 d.H, .int .i64 d.T, .int .i64 d.R] 25]) (fun k X Y => [(7, .int .i64 X.1), (8, .int .i64 X.2), (9, .int .i64 Y.1), (10, .int .i64 Y.2), (21, .int .i64 (k : Int))]) (fun k X Y => k ≤ (pinsC c).length ∧ X.1 = mnT (xAt d zs c) 6 k ∧ X.2 = mxT (xAt d zs c) (-1) k ∧ Y.1 = mnT (yAt d zs c) 6 k ∧ Y.2 = mxT (yAt d zs c) (-1) k) (fun k X Y => (pinsC c).length - k) 0 (6, (-1)) (6, (-1)) ⟨Nat.zero_le _, rfl, rfl, rfl, rfl⟩ (saQ rfl) (pfQ rfl) ?_
 intro k X Y hi6
 obtain ⟨hk, hx1, hx2, hy1, hy2⟩ := hi6
 have rx1 := mnT_rng (f := (xAt d zs c)) (i := 6) (a := -1) (b := 6) (by omega) k (fun q hq => by have := xy_rng hdv hzi hcb (k := q) (by omega); omega)
 have rx2 := mxT_rng (f := (xAt d zs c)) (i := (-1)) (a := -1) (b := 6) (by omega) k (fun q hq => by have := xy_rng hdv hzi hcb (k := q) (by omega); omega)
 have ry1 := mnT_rng (f := (yAt d zs c)) (i := 6) (a := -1) (b := 6) (by omega) k (fun q hq => by have := xy_rng hdv hzi hcb (k := q) (by omega); omega)
 have ry2 := mxT_rng (f := (yAt d zs c)) (i := (-1)) (a := -1) (b := 6) (by omega) k (fun q hq => by have := xy_rng hdv hzi hcb (k := q) (by omega); omega)
 refine srQ ?_
 refine zbk rfl rfl rfl rfl rfl rfl (fun h7 => ?_) (fun h7 => ?_)
 ·
  refine ntQ (tcQ rfl (zcn (sbQ (srQ ?_))))
  have hpk := hcb k (by omega)
  have hzk := hzi ((pinsC c).getD k pn0).b.toNat (by omega)
  have htk := tk_pos hdv hzk
  have htk2 : tOk d (zs.getD ((pinsC c).getD k pn0).b.toNat 0) = true := (zgo d _).2 ⟨hdv, by omega, by omega⟩
  have hwp : d.W ≠ 0 := by omega
  have hxy := xy_rng hdv hzi hcb (k := k) (by omega)
  unfold xAt yAt at hxy
  refine hvQ rfl (riQ 2 rfl rfl rfl rfl (zac 0 rfl)) (hvQ rfl (zcg (us := [.int .i64 (((pinsC c).getD k pn0).b), .int .i64 (((pinsC c).getD k pn0).p)]) rfl rfl rfl rfl (zac 0 rfl) (by omega) rfl (zcw pnC 2 (fun _ => rfl) (pinsC c) pn0 (show k < _ by omega) rfl)) ?_)
  refine zdt rfl (zbw (z := .agg #[.int .i64 0, .int .i64 0]) rfl rfl) ?_
  intro b8
  refine zcd (cs' := #[.int .i64 (((pinsC c).getD k pn0).b), .int .i64 (((pinsC c).getD k pn0).p)]) (i := 0) (off := 0) (us := [.int .i64 (((pinsC c).getD k pn0).b), .int .i64 (((pinsC c).getD k pn0).p)]) rfl rfl rfl rfl rfl rfl rfl (zah rfl (zah rfl zbp)) rfl rfl rfl (ntQ (zaa (zaa ?_)))
  refine zca 17 [[], [0], [], [2], [3], [1, 4], [5], [6], [7], [7], [7], [7, 10], [7, 9, 11], [7, 12], [7, 8, 13], [7, 14], [7, 15]] [25, 26, 27, 28, 29, 30, 31, 32, 33, 34, 35, 36, 37, 38, 39, 40, 41] [.pointer (some ⟨b8, 0 + 0, none⟩), .int .i64 (((pinsC c).getD k pn0).b), zv, .int .i64 (zs.length : Int), .int .i64 ((zs.length : Int) - 1), .bool true, .bool false, .bool false, .agg #[.int .i64 d.W, .int .i64 d.H, .int .i64 d.T, .int .i64 d.R], zv, .pointer (some ⟨b8, 0 + 0, none⟩), .int .i64 (((pinsC c).getD k pn0).b), elP zv ((((pinsC c).getD k pn0).b).toNat * 1), .int .i64 (zs.getD ((((pinsC c).getD k pn0).b).toNat) 0), .bool true, .bool false, .bool false] (by kernel_rfl) rfl ?_ ?_
  ·
   exact ⟨iaQ rfl (fdQ 0 rfl rfl rfl) rfl, iaQ rfl (zaf rfl rfl rfl (zab 0 rfl rfl)) rfl, iaQ rfl (zat rfl) rfl, iaQ rfl (lnQ rfl rfl rfl (zae hzv)) rfl, iaQ rfl (vsQ rfl rfl rfl) rfl, .inl ⟨rfl, zan (by kernel_rfl) rfl (fun w hm => zau (ans_of (by have h9 := zdk (((pinsC c).getD k pn0).b) 0 ((zs.length : Int) - 1) w; rw [(zde _ _ _).2 (by omega)] at h9; exact h9)))⟩, iaQ rfl (zat rfl) rfl, iaQ rfl (zat rfl) rfl, iaQ rfl (zao (cs := [.int .i64 d.W, .int .i64 d.H, .int .i64 d.T, .int .i64 d.R]) rfl rfl rfl rfl rfl (zaj 3 rfl 0 rfl)) rfl, iaQ rfl (zat rfl) rfl, iaQ rfl (fdQ 0 rfl rfl rfl) rfl, iaQ rfl (zaf rfl rfl rfl (zab 0 rfl rfl)) rfl, iaQ rfl (riQ 1 rfl rfl rfl rfl (zae hzv)) rfl, iaQ rfl (lzQ rfl rfl rfl (zae hzv)) rfl, .inl ⟨rfl, zan rfl rfl (fun w hm => zau (by have h9 := zft d (zs.getD ((((pinsC c).getD k pn0).b).toNat) 0) w; rw [htk2] at h9; exact h9))⟩, iaQ rfl (zat rfl) rfl, iaQ rfl (zat rfl) rfl, trivial⟩
  simp only [List.drop_succ_cons, List.drop_zero]
  refine ntQ (zal rfl (zcn (zaa ?_)))
  refine zca 17 [[], [], [1], [0, 2], [3], [], [5], [4, 6], [], [], [9], [8, 10], [11], [], [13], [12, 14], [7]] [42, 43, 44, 45, 46, 47, 48, 49, 50, 51, 52, 53, 54, 55, 56, 57, 13] [zv, .pointer (some ⟨b8, 0 + 0, none⟩), .int .i64 (((pinsC c).getD k pn0).b), elP zv ((((pinsC c).getD k pn0).b).toNat * 1), .int .i64 (zs.getD ((((pinsC c).getD k pn0).b).toNat) 0), .pointer (some ⟨b1, 0 + 0, none⟩), .int .i64 d.W, .int .i64 ((zs.getD ((((pinsC c).getD k pn0).b).toNat) 0) % d.W), zv, .pointer (some ⟨b8, 0 + 0, none⟩), .int .i64 (((pinsC c).getD k pn0).b), elP zv ((((pinsC c).getD k pn0).b).toNat * 1), .int .i64 (zs.getD ((((pinsC c).getD k pn0).b).toNat) 0), .pointer (some ⟨b1, 0 + 0, none⟩), .int .i64 d.W, .int .i64 ((zs.getD ((((pinsC c).getD k pn0).b).toNat) 0) / d.W), .int .i64 ((zs.getD ((((pinsC c).getD k pn0).b).toNat) 0) % d.W)] (by kernel_rfl) rfl ?_ ?_
  ·
   exact ⟨iaQ rfl (zat rfl) rfl, iaQ rfl (fdQ 0 rfl rfl rfl) rfl, iaQ rfl (zaf rfl rfl rfl (zab 0 rfl rfl)) rfl, iaQ rfl (riQ 1 rfl rfl rfl rfl (zae hzv)) rfl, iaQ rfl (lzQ rfl rfl rfl (zae hzv)) rfl, iaQ rfl (fdQ 0 rfl rfl rfl) rfl, iaQ rfl (zaf rfl rfl rfl (zab 3 rfl rfl)) rfl, iaQ rfl (zgi rfl rfl rfl (by constructor <;> omega)) rfl, iaQ rfl (zat rfl) rfl, iaQ rfl (fdQ 0 rfl rfl rfl) rfl, iaQ rfl (zaf rfl rfl rfl (zab 0 rfl rfl)) rfl, iaQ rfl (riQ 1 rfl rfl rfl rfl (zae hzv)) rfl, iaQ rfl (lzQ rfl rfl rfl (zae hzv)) rfl, iaQ rfl (fdQ 0 rfl rfl rfl) rfl, iaQ rfl (zaf rfl rfl rfl (zab 3 rfl rfl)) rfl, iaQ rfl (zee rfl rfl rfl (by refine ⟨?_, ?_, ?_⟩ <;> omega)) rfl, iaQ rfl (zat rfl) rfl, trivial⟩
  simp only [List.drop_succ_cons, List.drop_zero]
  refine zba 1 rfl (zaa (reQ 2 rfl (hvQ rfl (rv_min rfl rfl rfl) (zam 2 rfl (hvQ rfl (rv_max rfl rfl rfl) (zba 2 rfl ?_))))))
  refine reQ 2 rfl (hvQ rfl (rv_min rfl rfl rfl) (zam 2 rfl (hvQ rfl (rv_max rfl rfl rfl) (enQ 2 rfl (zco (zay (hvQ rfl (vaQ rfl rfl rfl) (zam 1 rfl (?_)))))))))
  exact zbr (zbh (k + 1) (min X.1 ((zs.getD ((((pinsC c).getD k pn0).b).toNat) 0) % d.W), (if X.2 < (zs.getD ((((pinsC c).getD k pn0).b).toNat) 0) % d.W then (zs.getD ((((pinsC c).getD k pn0).b).toNat) 0) % d.W else X.2)) (min Y.1 ((zs.getD ((((pinsC c).getD k pn0).b).toNat) 0) / d.W), (if Y.2 < (zs.getD ((((pinsC c).getD k pn0).b).toNat) 0) / d.W then (zs.getD ((((pinsC c).getD k pn0).b).toNat) 0) / d.W else Y.2)) ⟨by omega, by rw [hx1]; show min _ ((xAt d zs c) k) = (if (xAt d zs c) k < mnT (xAt d zs c) 6 k then (xAt d zs c) k else mnT (xAt d zs c) 6 k); split <;> omega, by rw [hx2]; rfl, by rw [hy1]; show min _ ((yAt d zs c) k) = (if (yAt d zs c) k < mnT (yAt d zs c) 6 k then (yAt d zs c) k else mnT (yAt d zs c) 6 k); split <;> omega, by rw [hy2]; rfl⟩ (by omega) (saQ rfl) (slQ [1, 0, 0] rfl))
 refine ntQ (fcQ rfl ?_)
 refine zaz (zds ?_)
 refine zag (zav (zaa (reQ 2 rfl (hvQ rfl (vsQ rfl rfl rfl) (zam 1 rfl (hvQ rfl (vaQ rfl rfl rfl) (zam 1 rfl (hvQ rfl (vsQ rfl rfl rfl) (zba 1 rfl ?_)))))))))
 refine zaw ?_
 have hke : k = (pinsC c).length := by omega
 exact zbi rfl rfl (by rw [← span_impl hdv hzi hcb hke, hx1, hx2, hy1, hy2])
def mvG (t pb x : Int) : Int := if x = t then pb else x
def mvL (zs : List Int) (b : Nat) (t : Int) : List Int := (zs.map (mvG t (zs.getD b 0))).set b t
theorem ext0 {l m : List Int} (hl : l.length = m.length) (h : ∀ q, q < l.length → l.getD q 0 = m.getD q 0) : l = m := by
  refine List.ext_getElem hl fun q h1 h2 => ?_
  have := h q h1
  rwa [List.getD_eq_getElem?_getD, List.getD_eq_getElem?_getD, List.getElem?_eq_getElem h1, List.getElem?_eq_getElem h2] at this
theorem nodup_getD {l : List Int} : l.Nodup ↔ ∀ i j, i < j → j < l.length → l.getD i 0 ≠ l.getD j 0 := by
  unfold List.Nodup
  rw [List.pairwise_iff_getElem]
  constructor
  · intro h i j hij hj
    have := h i j (by omega) hj hij
    rwa [List.getD_eq_getElem?_getD, List.getD_eq_getElem?_getD, List.getElem?_eq_getElem hj, List.getElem?_eq_getElem (show i < l.length by omega)]
  · intro h i j hi hj hij
    have := h i j hij hj
    rwa [List.getD_eq_getElem?_getD, List.getD_eq_getElem?_getD, List.getElem?_eq_getElem hj, List.getElem?_eq_getElem hi] at this
theorem nodup_ne {l : List Int} (h : l.Nodup) {i j : Nat} (hi : i < l.length) (hj : j < l.length) (hij : i ≠ j) : l.getD i 0 ≠ l.getD j 0 := by
  rcases Nat.lt_or_gt_of_ne hij with h1 | h1
  · exact nodup_getD.1 h i j h1 hj
  · exact fun e => nodup_getD.1 h j i h1 hi e.symm
theorem span_le {d : Dev} (hd : devB d = true) {zs : List Int} (hz : ZsIn d zs) {c : Cn} (hc : PinB zs.length c) : spanK d zs c ≤ 12 := by
  obtain ⟨⟨a, b⟩, ⟨c', e⟩, -⟩ := (zeq d).1 hd
  have hp := zgq c
  have h1 := mnT_rng (f := xAt d zs c) (i := d.W) (a := 0) (b := 6) (by omega) (c.ks.length + 1) (fun q hq => by have := xy_rng hd hz hc (k := q) (by omega); omega)
  have h2 := mxT_rng (f := xAt d zs c) (i := 0) (a := 0) (b := 6) (by omega) (c.ks.length + 1) (fun q hq => by have := xy_rng hd hz hc (k := q) (by omega); omega)
  have h3 := mnT_rng (f := yAt d zs c) (i := d.H) (a := 0) (b := 6) (by omega) (c.ks.length + 1) (fun q hq => by have := xy_rng hd hz hc (k := q) (by omega); omega)
  have h4 := mxT_rng (f := yAt d zs c) (i := 0) (a := 0) (b := 6) (by omega) (c.ks.length + 1) (fun q hq => by have := xy_rng hd hz hc (k := q) (by omega); omega)
  unfold spanK; omega
theorem costL_rng {d : Dev} (hd : devB d = true) {zs : List Int} (hz : ZsIn d zs) {cs : List Cn} (hc : CnIn zs.length cs) : ∀ i, i ≤ cs.length → 0 ≤ costL d zs cs i ∧ costL d zs cs i ≤ 12 * (i : Int)
  | 0, _ => ⟨Int.le_refl _, Int.le_refl _⟩
  | i + 1, hi => by
    have ih := costL_rng hd hz hc i (by omega)
    have h1 := span_nonneg (d := d) zs (cs.getD i cn0)
    have h2 := span_le hd hz (hc.pinB (zbs (d := cn0) (show i < cs.length by omega)))
    show 0 ≤ costL d zs cs i + _ ∧ costL d zs cs i + _ ≤ _
    omega
theorem PlP.zsIn {d : Dev} {ks zs : List Int} (h : PlP d ks zs) : ZsIn d zs := h.rg
theorem zfw {xs : List Int} {x : Int} : hasB xs x = true ↔ x ∈ xs := by unfold hasB; exact List.contains_iff_mem
theorem hasB_take {zs : List Int} (h : zs.Nodup) {i : Nat} (hi : i < zs.length) : hasB (zs.take i) (zs.getD i 0) = false := by
  cases hb : hasB (zs.take i) (zs.getD i 0) with
  | false => rfl
  | true =>
    have hm := zfw.1 hb
    obtain ⟨q, hq, e⟩ := List.mem_iff_getElem.1 hm
    rw [List.length_take] at hq
    rw [List.getElem_take] at e
    exact absurd (by rw [List.getD_eq_getElem?_getD, List.getElem?_eq_getElem (show q < zs.length by omega)]; exact e) (nodup_ne h (show q < zs.length by omega) hi (by omega))
theorem hasInt9_ans (xs : List Int) (x : Int) (v : Value) (w : World) (hv : RdsW w v 1 xs.length (xs.map (Value.int .i64))) (hlen : xs.length ≤ 1000000000) :
   Calls Try.prog 43 #[v, .int .i64 x] w (Ans w (.bool (hasB xs x))) := by
 refine zbl (N := 17) (args := [v, .int .i64 x]) Try.func43 rfl rfl (zbd 1 rfl (zaa (zaa (reQ 1 rfl (hvQ rfl (lnQ rfl rfl rfl (zae hv)) (zam 1 rfl (?_)))))))
 refine ntQ (zax ?_)
 refine lkQ1 (α := Nat) [0, 1, 4, 7, 8] rfl (fun j => []) (fun j => [(9, .int .i64 (j : Int))]) (fun j => j ≤ xs.length ∧ ∀ q, q < j → xs.getD q 0 ≠ x) (fun j => xs.length - j) 0 ⟨Nat.zero_le _, fun q hq => absurd hq (by omega)⟩ (saQ rfl) (.slnil) ?_
 intro j hi1
 obtain ⟨hj, hall⟩ := hi1
 refine srQ ?_
 refine zbk rfl rfl rfl rfl rfl rfl (fun h2 => ?_) (fun h2 => ?_)
 ·
  refine ntQ (tcQ rfl (zcn (sbQ (srQ (hvQ rfl (riQ 1 rfl rfl rfl rfl (zae hv)) (hvQ rfl (liQ rfl rfl rfl (zae hv)) (zam 1 rfl ?_)))))))
  refine ntQ (zaa (reQ 2 rfl ?_))
  refine zby rfl rfl rfl rfl rfl rfl (fun h3 => ?_) (fun h3 => ?_)
  ·
   refine ntQ (zak rfl (zbd 1 rfl ?_))
   refine zaw (zaq ?_)
   refine zgp ?_
   refine zaq (zap ?_)
   exact zbi rfl rfl (congrArg _ (zfw.2 (by have h9 := zeh (es := xs) (d := 0) (show j < xs.length by omega); rwa [show xs.getD j 0 = x by assumption] at h9)).symm)
  refine ntQ (fsQ rfl (zco (zay (hvQ rfl (vaQ rfl rfl rfl) (enQ 1 rfl ?_)))))
  exact zcx (j + 1) ⟨by omega, fun q hq => by by_cases e : q = j; (subst e; assumption); exact hall q (by omega)⟩ (by omega) (saQ rfl) (.slnil)
 refine ntQ (fcQ rfl ?_)
 refine zaz (zds ?_)
 refine zag (zav (zbd 1 rfl ?_))
 exact zaw (zbi rfl rfl (congrArg _ (Bool.eq_false_iff.2 (fun h9 => by obtain ⟨q, hq, e⟩ := List.mem_iff_getElem.1 (zfw.1 h9); exact hall q (by omega) (by rw [List.getD_eq_getElem?_getD, List.getElem?_eq_getElem hq]; exact e))).symm))
theorem implPlaceCost_ans (d : Dev) (zs : List Int) (cs : List Cn) (zv v : Value) (w : World) (hdv : devB d = true) (hzv : RdsW w zv 1 zs.length (zs.map (Value.int .i64))) (hzl : zs.length ≤ 64) (hzi : ZsIn d zs) (hcn : RdsCn w v cs) (hci : CnIn zs.length cs) :
   Calls Try.prog 23 #[.agg #[.int .i64 d.W, .int .i64 d.H, .int .i64 d.T, .int .i64 d.R], zv, v] w (Ans w (.int .i64 (costK d zs cs))) := by
 have hcs9 := sml hcn.row
 refine zbl (N := 33) (args := [.agg #[.int .i64 d.W, .int .i64 d.H, .int .i64 d.T, .int .i64 d.R], zv, v]) Try.func23 rfl rfl (srQ ?_)
 refine zdt rfl (zcm rfl rfl) ?_
 intro b1
 refine zba 1 rfl (zaa (zaa (reQ 1 rfl (hvQ rfl (lnQ rfl rfl rfl (zae hzv)) (zam 1 rfl ?_)))))
 refine zdp rfl (zan rfl rfl (fun w hm => zau (zgl zs.length cs _ w (hcn.below hm.bel) hci hzl))) (zbx (fun h2 => ?_) (fun h2 => ?_))
 ·
  have h2p := of_pB h2
  refine zba 1 rfl (zal rfl (zcn (zbd 1 rfl (zaa ?_))))
  refine zaa (reQ 1 rfl (hvQ rfl (lnQ rfl rfl rfl (zae hcn.row)) (zba 1 rfl (zax ?_))))
  refine lkQ2 (α := Nat) (β := Int) [0, 1, 2, 3, 6, 15, 16, 17] rfl (fun i sm => [boxE b1 #[.int .i64 d.W, .int .i64 d.H, .int .i64 d.T, .int .i64 d.R] 25]) (fun i sm => [(7, .int .i64 sm), (18, .int .i64 (i : Int))]) (fun i sm => i ≤ cs.length ∧ sm = costL d zs cs i) (fun i sm => cs.length - i) 0 0 ⟨Nat.zero_le _, rfl⟩ (saQ rfl) (pfQ rfl) ?_
  intro i sm hi3
  obtain ⟨hi, hs⟩ := hi3
  refine srQ ?_
  refine zbk rfl rfl rfl rfl rfl rfl (fun h4 => ?_) (fun h4 => ?_)
  ·
   refine ntQ (tcQ rfl (zcn (sbQ (srQ ?_))))
   have hmc := zbs (d := cn0) (show i < cs.length by omega)
   have hpb := hci.pinB hmc
   have hkl9 : (cs.getD i cn0).ks.length ≤ 1000 := by have := (hci _ hmc).2.1; omega
   have hsn := span_nonneg (d := d) zs (cs.getD i cn0)
   have hsl := span_le hdv hzi hpb
   have hcr := costL_rng hdv hzi hci i (by omega)
   have hcp : CoP cs := by assumption
   have hcp1 := hcp.1
   refine hvQ rfl (riQ 4 rfl rfl rfl rfl (zae hcn.row)) (hvQ rfl (zcg (us := [.int .i64 ((cs.getD i cn0).nd), .int .i64 ((cs.getD i cn0).sb), .int .i64 ((cs.getD i cn0).sp), (cs.getD i cn0).kv]) rfl rfl rfl rfl (zae hcn.row) (by omega) rfl (zcw cnC 4 (fun _ => rfl) cs cn0 (show i < _ by omega) rfl)) ?_)
   refine zdt rfl (zbw (z := .agg #[.int .i64 0, .int .i64 0, .int .i64 0, .slice none 0 0]) rfl rfl) ?_
   intro b5
   refine zcd (cs' := #[.int .i64 ((cs.getD i cn0).nd), .int .i64 ((cs.getD i cn0).sb), .int .i64 ((cs.getD i cn0).sp), (cs.getD i cn0).kv]) (i := 0) (off := 0) (us := [.int .i64 ((cs.getD i cn0).nd), .int .i64 ((cs.getD i cn0).sb), .int .i64 ((cs.getD i cn0).sp), (cs.getD i cn0).kv]) rfl rfl rfl rfl rfl rfl rfl (zah rfl (zah rfl (zah rfl (zah (hcn.at (k := i) (by omega)).one zbp)))) rfl rfl rfl (ntQ (srQ (hvQ rfl (zao (cs := [.int .i64 d.W, .int .i64 d.H, .int .i64 d.T, .int .i64 d.R]) rfl rfl rfl rfl rfl (zaj 1 rfl 0 rfl)) (zam 1 rfl (hvQ rfl (zao (cs := [.int .i64 ((cs.getD i cn0).nd), .int .i64 ((cs.getD i cn0).sb), .int .i64 ((cs.getD i cn0).sp), (cs.getD i cn0).kv]) rfl rfl rfl rfl rfl (zaj 0 rfl 0 rfl)) ?_)))))
   refine zdp rfl (zan rfl rfl (fun w hm => zau (implConnSpan_ans d zs (cs.getD i cn0) _ w hdv (hzv.below hm.bel) hzl hzi hpb ((hcn.at (k := i) (by omega)).below hm.bel) hkl9))) (zba 1 rfl (zaa (zaa (reQ 1 rfl ?_))))
   refine zbk rfl rfl rfl rfl rfl rfl (fun h6 => absurd h6 (by omega)) (fun h6 => ?_)
   refine ntQ (zal rfl (zcn (reQ 2 rfl (hvQ rfl (vaQ rfl rfl rfl) (enQ 1 rfl (zco ?_))))))
   refine zay (hvQ rfl (vaQ rfl rfl rfl) (enQ 1 rfl ?_))
   exact zbg (i + 1) _ ⟨by omega, by rw [hs]; rfl⟩ (by omega) (saQ rfl) (slQ [1] rfl)
  refine ntQ (fcQ rfl ?_)
  refine zaz (zds ?_)
  refine zag (zav (zbd 2 rfl ?_))
  exact zaw (zbi rfl rfl (by rw [hs, show i = cs.length by omega]; unfold costK; rw [zed (by assumption)]; rfl))
 have h2p := zgr h2
 refine zba 1 rfl (zak rfl (zbd 1 rfl ?_))
 refine zaw (zap ?_)
 exact zbi rfl rfl (by unfold costK; rw [zdv (by assumption)]; rfl)
theorem PlaceOk_yes (d : Dev) (ks zs : List Int) (kv zv : Value) (w : World) (hdv : devB d = true) (hkk : RdsW w kv 1 ks.length (ks.map (Value.int .i64))) (hzv : RdsW w zv 1 zs.length (zs.map (Value.int .i64))) (hkl : ks.length ≤ 64) (hzl : zs.length = ks.length) (hzp : PlP d ks zs) :
   Calls Try.prog 17 #[.agg #[.int .i64 d.W, .int .i64 d.H, .int .i64 d.T, .int .i64 d.R], kv, zv] w (Ans w (.bool true)) := by
 refine zbl (N := 54) (args := [.agg #[.int .i64 d.W, .int .i64 d.H, .int .i64 d.T, .int .i64 d.R], kv, zv]) Try.func17 rfl rfl (srQ ?_)
 refine zdt rfl (zcm rfl rfl) ?_
 intro b1
 refine zba 1 rfl (zfc (hvQ rfl (zao (cs := [.int .i64 d.W, .int .i64 d.H, .int .i64 d.T, .int .i64 d.R]) rfl rfl rfl rfl rfl (zaj 0 rfl 0 rfl)) ?_))
 refine zdp rfl (zan rfl rfl (fun w hm => zau (by have h9 := zdm d w; rw [hdv] at h9; exact h9))) (zam 3 rfl (hvQ rfl (lnQ rfl rfl rfl (zae hkk)) ?_))
 refine zff rfl rfl rfl rfl rfl rfl (fun h2 => absurd h2 (by omega)) (fun h2 => ?_)
 refine zam 3 rfl (hvQ rfl (lnQ rfl rfl rfl (zae hzv)) (zam 1 rfl (hvQ rfl (lnQ rfl rfl rfl (zae hkk)) ?_)))
 refine zgw rfl rfl rfl rfl rfl rfl (fun h3 => absurd h3 (by omega)) (fun h3 => ?_)
 refine zba 1 rfl (zal rfl (zcn (zaa (zaa (reQ 1 rfl (hvQ rfl (lnQ rfl rfl rfl (zae hzv)) (zam 1 rfl (?_))))))))
 refine ntQ (zax ?_)
 refine lkQ1 (α := Nat) [0, 1, 2, 3, 6, 24, 25, 26] rfl (fun i => [boxE b1 #[.int .i64 d.W, .int .i64 d.H, .int .i64 d.T, .int .i64 d.R] 25]) (fun i => [(27, .int .i64 (i : Int))]) (fun i => i ≤ zs.length) (fun i => zs.length - i) 0 (Nat.zero_le _) (saQ rfl) (pfQ rfl) ?_
 intro i hi4
 have hi := hi4
 refine srQ ?_
 refine zbk rfl rfl rfl rfl rfl rfl (fun h5 => ?_) (fun h5 => ?_)
 ·
  refine ntQ (tcQ rfl (zcn (sbQ (zaa (reQ 1 rfl (hvQ rfl (riQ 1 rfl rfl rfl rfl (zae hzv)) (hvQ rfl (liQ rfl rfl rfl (zae hzv)) ?_)))))))
  refine zba 2 rfl (srQ ?_)
  have hkd := hzp.kd i (by omega)
  have htp := tk_pos hdv (hzp.rg i (by omega))
  refine zam 2 rfl (hvQ rfl (riQ 1 rfl rfl rfl rfl (zae hkk)) (hvQ rfl (liQ rfl rfl rfl (zae hkk)) ?_))
  refine zdp rfl (zan rfl rfl (fun w hm => zau (zen (ks.getD i 0) w))) (zba 1 rfl (zaa (reQ 1 rfl ?_)))
  refine zbk rfl rfl rfl rfl rfl rfl (fun h6 => absurd h6 (by omega)) (fun h6 => ?_)
  refine zam 1 rfl (hvQ rfl (zao (cs := [.int .i64 d.W, .int .i64 d.H, .int .i64 d.T, .int .i64 d.R]) rfl rfl rfl rfl rfl (zaj 0 rfl 0 rfl)) (zam 1 rfl ?_))
  refine zdp rfl (zan rfl rfl (fun w hm => zau (implTileKind_any d (zs.getD i 0) w))) (zam 1 rfl ?_)
  refine zgw rfl rfl rfl rfl rfl rfl (fun h7 => absurd h7 (by omega)) (fun h7 => ?_)
  refine zam 4 rfl (hvQ rfl (rv_slH rfl Try.underlying28 rfl rfl rfl (zae hzv) (by omega) (by omega)) (zam 1 rfl ?_))
  refine zdp rfl (zan rfl rfl (fun w hm => zau (by have h9 := hasInt9_ans (zs.take i) (zs.getD i 0) _ w ((rd_slH (zae hzv) (by omega)) w hm) (by rw [List.length_take]; omega); rw [hasB_take hzp.nd (by omega)] at h9; exact h9))) (zba 1 rfl (fsQ rfl (zco (zay (hvQ rfl (vaQ rfl rfl rfl) (enQ 1 rfl ?_))))))
  exact zcx (i + 1) (by omega) (by omega) (saQ rfl) (pfQ rfl)
 refine ntQ (fcQ rfl ?_)
 refine zaz (zds ?_)
 refine zag (zav (zbd 1 rfl ?_))
 exact zaw (zbi rfl rfl rfl)
theorem cost_rng {d : Dev} (hd : devB d = true) {zs : List Int} (hz : ZsIn d zs) {cs : List Cn} (hc : CnIn zs.length cs) (ho : CoP cs) : 0 ≤ costK d zs cs ∧ costK d zs cs ≤ 1200 := by
  have h := costL_rng hd hz hc cs.length (Nat.le_refl _)
  have := ho.1
  unfold costK; rw [zed ho]
  show 0 ≤ costL d zs cs cs.length ∧ costL d zs cs cs.length ≤ 1200
  omega
open Go.RowKit
theorem implTilesOf_ret (d : Dev) (k : Int) (w : World) (hdv : devB d = true) :
   Calls Try.prog 54 #[.agg #[.int .i64 d.W, .int .i64 d.H, .int .i64 d.T, .int .i64 d.R], .int .i64 k] w (Ret w (fun v' post => post = [rowE 3 1 v' ((tilesK d k)).length (((tilesK d k)).map (Value.int .i64))])) := by
 obtain ⟨har1, har2⟩ := zfe hdv
 refine zbl (N := 29) (args := [.agg #[.int .i64 d.W, .int .i64 d.H, .int .i64 d.T, .int .i64 d.R], .int .i64 k]) Try.func54 rfl rfl (srQ ?_)
 refine zdt rfl (zcm rfl rfl) ?_
 intro b1
 refine zba 1 rfl (zfc (hvQ rfl (zao (cs := [.int .i64 d.W, .int .i64 d.H, .int .i64 d.T, .int .i64 d.R]) rfl rfl rfl rfl rfl (zaj 0 rfl 0 rfl)) ?_))
 refine zdp rfl (zan rfl rfl (fun w hm => zau (by have h9 := zdm d w; rw [hdv] at h9; exact h9))) (zba 1 rfl (zal rfl (zcn (srQ ?_))))
 refine hl_nilRow 3 1 (zba 1 rfl (zaa (zbd 1 rfl (zax ?_))))
 refine lkQ3 (α := Nat) (β := Value) (γ := List Int) [0, 1, 2, 4, 9] rfl (fun t gu zs => [rowE 3 1 gu zs.length (zs.map (Value.int .i64)), boxE b1 #[.int .i64 d.W, .int .i64 d.H, .int .i64 d.T, .int .i64 d.R] 25]) (fun t gu zs => [(5, gu), (6, .int .i64 (t : Int))]) (fun t gu zs => (t : Int) ≤ d.W * d.H ∧ zs = tlL d k t) (fun t gu zs => (d.W * d.H).toNat - t) 0 _ [] ⟨by omega, rfl⟩ (saQ rfl) (pfQ rfl) ?_
 intro t gu zs hi3
 obtain ⟨ht, hz⟩ := hi3
 have hzl : zs.length ≤ t := by rw [hz]; exact tlL_le d k t
 refine zaa (zaa (reQ 1 rfl (hvQ rfl (fdQ 0 rfl rfl rfl) (hvQ rfl (zaf rfl rfl rfl (zab 1 rfl rfl)) (hvQ rfl (fdQ 1 rfl rfl rfl) (hvQ rfl (zaf rfl rfl rfl (zab 1 rfl rfl)) (hvQ rfl (zdu rfl rfl rfl (by constructor <;> omega)) ?_)))))))
 refine zbk rfl rfl rfl rfl rfl rfl (fun h4 => ?_) (fun h4 => ?_)
 ·
  refine ntQ (zak rfl (zcn (sbQ (srQ ?_))))
  have htk9 : tileKindI d (t : Int) = kindI d (t : Int) := if_pos ((zgo d _).2 ⟨hdv, by omega, by omega⟩)
  refine hvQ rfl (zao (cs := [.int .i64 d.W, .int .i64 d.H, .int .i64 d.T, .int .i64 d.R]) rfl rfl rfl rfl rfl (zaj 1 rfl 0 rfl)) (zam 1 rfl ?_)
  refine zdp rfl (zan rfl rfl (fun w hm => zau (by have h9 := zgv d (t : Int) hdv (by omega) (by omega) w; rw [← htk9] at h9; exact h9))) (zam 1 rfl ?_)
  refine zby rfl rfl rfl rfl rfl rfl (fun h5 => ?_) (fun h5 => ?_)
  ·
   refine ntQ (zak rfl (reQ 2 rfl ?_))
   refine zdi rfl (zas (z := .int .i64 0) (s := 1) (cs := ([(t : Int)].map (Value.int .i64))) rfl Try.underlying28 rfl (by decide) rfl (by kernel_rfl) rfl) ?_
   intro g6
   refine zcf (i := 1) (z := .int .i64 0) (bytes := 8) rfl rfl rfl rfl Try.underlying28 (by kernel_rfl) rfl rfl rfl rfl (zac 0 rfl) (zbm _) (by first | omega | (simp; done) | (simp; omega)) (zbt zs ([(t : Int)])) (zcl zs ([(t : Int)])) (fun _ => rfl) ?_
   intro v7
   refine enQ 1 rfl (zco (reQ 1 rfl (hvQ rfl (vaQ rfl rfl rfl) (enQ 1 rfl ?_))))
   exact zbh (t + 1) v7 (zs ++ ([(t : Int)])) ⟨by omega, by rw [hz]; show _ = (if _ then _ else _); first | rw [if_pos (by omega)] | rw [if_neg (by omega)]⟩ (by omega) (saQ rfl) (slQ [1, 0] rfl)
  refine ntQ (fsQ rfl (zco (reQ 1 rfl (hvQ rfl (vaQ rfl rfl rfl) (enQ 1 rfl ?_)))))
  exact zbh (t + 1) gu zs ⟨by omega, by rw [hz]; show _ = (if _ then _ else _); first | rw [if_pos (by omega)] | rw [if_neg (by omega)]⟩ (by omega) (saQ rfl) (pfQ rfl)
 refine ntQ (zal rfl ?_)
 refine zaz (zds ?_)
 refine zag (zav (zbd 2 rfl ?_))
 exact zaw (zcz (post := [rowE 3 1 gu zs.length (zs.map (Value.int .i64))]) rfl rfl (slQ [0] rfl) (by rw [hz, show t = (d.W * d.H).toNat by omega]; rfl))
theorem sq_rng {x : Int} (h0 : -600 ≤ x) (h1 : x ≤ 600) : 0 ≤ x * x ∧ x * x ≤ 360000 := by
  have h2 : 0 ≤ (600 - x) * (600 + x) := Int.mul_nonneg (by omega) (by omega)
  have h3 : (600 - x) * (600 + x) = 360000 - x * x := by rw [Int.sub_mul, Int.mul_add, Int.mul_add, Int.mul_comm x 600]; omega
  refine ⟨?_, by omega⟩
  rcases Int.le_total 0 x with h | h
  · exact Int.mul_nonneg h h
  · have := Int.mul_nonneg (a := -x) (b := -x) (by omega) (by omega)
    rwa [Int.neg_mul_neg] at this
theorem zeg {xs : List Int} {b q : Nat} {x : Int} (hb : b < xs.length) : (xs.set b x).getD q 0 = if b = q then x else xs.getD q 0 := by
  rw [getD_setI]
  by_cases e : b = q
  · rw [if_pos ⟨e, hb⟩, if_pos e]
  · rw [if_neg (fun h => e h.1), if_neg e]
theorem idx_filt (P : Int → Bool) (K : List Int) : ∀ n, n ≤ K.length → ((List.range n).filter (fun q => P (K.getD q 0))).length = ((K.take n).filter P).length
  | 0, _ => by simp
  | n + 1, h => by
    rw [List.range_succ, zdx 0 (show n < K.length by omega), List.filter_append, List.filter_append, List.length_append, List.length_append, idx_filt P K n (by omega)]
    congr 1
    by_cases e : P (K.getD n 0) = true
    · rw [List.filter_cons_of_pos (by simpa using e), List.filter_cons_of_pos (by simpa using e)]; rfl
    · rw [List.filter_cons_of_neg (by simpa using e), List.filter_cons_of_neg (by simpa using e)]; rfl
structure IP (d : Dev) (K us tk : List Int) : Prop where
  ln : us.length = K.length
  ok : ∀ q, q < us.length → us.getD q 0 = -1 ∨ ((0 ≤ us.getD q 0 ∧ us.getD q 0 < d.W * d.H) ∧ tileKindI d (us.getD q 0) = btI (K.getD q 0))
  mem : ∀ x, x ∈ tk ↔ 0 ≤ x ∧ ∃ q, q < us.length ∧ us.getD q 0 = x
  nd : ∀ i j, i < j → j < us.length → 0 ≤ us.getD i 0 → us.getD i 0 ≠ us.getD j 0
theorem rep_at {n q : Nat} (h : q < n) (x : Int) : (List.replicate n x).getD q 0 = x := by rw [List.getD_eq_getElem?_getD, List.getElem?_eq_getElem (by rw [List.length_replicate]; exact h)]; simp
theorem IP.start (d : Dev) (K : List Int) : IP d K (List.replicate K.length (-1)) [] :=
  ⟨List.length_replicate, fun q hq => .inl (rep_at (by rw [List.length_replicate] at hq; exact hq) _),
   fun x => ⟨fun h => (by cases h), fun ⟨h0, q, hq, e⟩ => by rw [List.length_replicate] at hq; rw [rep_at hq] at e; omega⟩,
   fun i j hij hj h0 => by rw [List.length_replicate] at hj; rw [rep_at (by omega)] at h0; omega⟩
theorem IP.put {d : Dev} (hd : devB d = true) {K us tk : List Int} (h : IP d K us tk) {b : Nat} (hb : b < us.length) (hn : us.getD b 0 = -1) {x : Int} (hx : x ∈ tilesK d (btI (K.getD b 0))) (ht : x ∉ tk) : IP d K (us.set b x) (tk ++ [x]) := by
  obtain ⟨hx1, hx2⟩ := (zel hd).1 hx
  have hne : ∀ q, q < us.length → us.getD q 0 ≠ x := fun q hq e => ht ((h.mem x).2 ⟨hx1.1, q, hq, e⟩)
  refine ⟨by rw [List.length_set]; exact h.ln, fun q hq => ?_, fun y => ?_, fun i j hij hj h0 => ?_⟩
  · rw [List.length_set] at hq
    rw [zeg hb]
    by_cases e : b = q
    · subst e; rw [if_pos rfl]; exact .inr ⟨hx1, hx2⟩
    · rw [if_neg e]; exact h.ok q hq
  · rw [List.mem_append, List.mem_singleton, h.mem y]
    constructor
    · rintro (⟨h0, q, hq, e⟩ | rfl)
      · refine ⟨h0, q, by rw [List.length_set]; exact hq, ?_⟩
        rw [zeg hb, if_neg (fun e9 => by subst e9; omega)]; exact e
      · exact ⟨hx1.1, b, by rw [List.length_set]; exact hb, by rw [zeg hb, if_pos rfl]⟩
    · rintro ⟨h0, q, hq, e⟩
      rw [List.length_set] at hq
      rw [zeg hb] at e
      split at e
      · exact .inr e.symm
      · exact .inl ⟨h0, q, hq, e⟩
  · rw [List.length_set] at hj
    rw [zeg hb] at h0
    rw [zeg hb, zeg hb]
    by_cases e1 : b = i
    · rw [if_pos e1, if_neg (by omega)]; exact fun e => hne j hj e.symm
    · rw [if_neg e1] at h0 ⊢
      by_cases e2 : b = j
      · rw [if_pos e2]; exact hne i (by omega)
      · rw [if_neg e2]; exact h.nd i j hij hj h0
theorem IP.all {d : Dev} {K us tk : List Int} (h : IP d K us tk) (ha : ∀ q, q < us.length → 0 ≤ us.getD q 0) : PlP d K us := by
  have hk : ∀ q, q < us.length → (0 ≤ us.getD q 0 ∧ us.getD q 0 < d.W * d.H) ∧ tileKindI d (us.getD q 0) = btI (K.getD q 0) := fun q hq => (h.ok q hq).resolve_left (by have := ha q hq; omega)
  exact ⟨fun q hq => (hk q hq).2, fun q hq => (hk q hq).1, nodup_getD.2 fun i j hij hj => h.nd i j hij hj (ha i (by omega)), by rw [h.ln]; exact Nat.le_refl _⟩
theorem IP.none {d : Dev} {K us tk : List Int} (h : IP d K us tk) (hd : devB d = true) {b : Nat} (hb : b < us.length) (hn : us.getD b 0 = -1) (hall : ∀ x ∈ tilesK d (btI (K.getD b 0)), x ∈ tk) : ¬ Fits d K := fun hf => by
  have h1 := hf (btI (K.getD b 0))
  have h2 := idx_filt (fun k => btI k == btI (K.getD b 0)) K K.length (Nat.le_refl _)
  rw [List.take_length] at h2
  have hl := h.ln
  have hbm : b ∈ (List.range K.length).filter (fun q => btI (K.getD q 0) == btI (K.getD b 0)) := by rw [List.mem_filter]; exact ⟨List.mem_range.2 (by omega), by simp⟩
  have h3 := zgy (tilesK d (btI (K.getD b 0))) ((((List.range K.length).filter (fun q => btI (K.getD q 0) == btI (K.getD b 0))).erase b).map (fun q => us.getD q 0)) (tlL_nodup _ _ _) fun x hx => by
    obtain ⟨h0, q, hq, e⟩ := (h.mem x).1 (hall x hx)
    have hk := ((zel hd).1 hx).2
    have hok := (h.ok q hq).resolve_left (by omega)
    rw [e, hk] at hok
    have hqb : q ≠ b := fun e9 => by subst e9; omega
    refine List.mem_map.2 ⟨q, (List.mem_erase_of_ne hqb).2 ?_, e⟩
    rw [List.mem_filter]; exact ⟨List.mem_range.2 (by omega), by simpa using hok.2.symm⟩
  rw [List.length_map, List.length_erase_of_mem hbm, h2] at h3
  have hp := List.length_pos_of_mem hbm
  omega
theorem idx_lt {j i m n : Nat} (hn : 0 < n) (hm : n ≤ m) (hij : j < i) : j * m / n < i * m / n := by
  have h1 : j * m + n ≤ i * m := by
    have := Nat.mul_le_mul_right m (show j + 1 ≤ i from hij)
    rw [Nat.add_mul, Nat.one_mul] at this; omega
  have h2 := Nat.div_le_div_right (c := n) h1
  rw [Nat.add_div_right _ hn] at h2
  omega
theorem idx_lt2 {i m n : Nat} (hi : i < n) (hm : 0 < m) : i * m / n < m := Nat.div_lt_of_lt_mul ((Nat.mul_lt_mul_right hm).2 hi)
abbrev ioN (K : List Int) (b : Nat) : Nat := ((K.take b).filter (fun k => btI k == 0)).length
theorem ioN_yes {K : List Int} {b : Nat} (hb : b < K.length) (h : btI (K.getD b 0) = 0) : ioN K (b + 1) = ioN K b + 1 := by
  show ((K.take (b + 1)).filter _).length = _
  rw [zdx 0 hb, List.filter_append, List.length_append, List.filter_cons_of_pos (by simpa using h)]; rfl
theorem ioN_no {K : List Int} {b : Nat} (hb : b < K.length) (h : btI (K.getD b 0) ≠ 0) : ioN K (b + 1) = ioN K b := by
  show ((K.take (b + 1)).filter _).length = _
  rw [zdx 0 hb, List.filter_append, List.length_append, List.filter_cons_of_neg (by simpa using h)]; rfl
theorem ioN_le (K : List Int) : ∀ b, ioN K b ≤ b
  | 0 => by simp [ioN]
  | b + 1 => by
    have := List.length_filter_le (fun k => btI k == 0) (K.take (b + 1))
    rw [List.length_take] at this
    show ((K.take (b + 1)).filter _).length ≤ _
    omega
theorem ioN_lt {K : List Int} {b : Nat} (hb : b < K.length) (h : btI (K.getD b 0) = 0) : ioN K b < (K.filter (fun k => btI k == 0)).length := by
  have h1 := ioN_yes hb h
  have h2 := ((List.take_sublist (b + 1) K).filter (fun k => btI k == 0)).length_le
  show _ < _
  have h3 : ((K.take (b + 1)).filter (fun k => btI k == 0)).length = ioN K (b + 1) := rfl
  omega
structure L1 (d : Dev) (K : List Int) (b : Nat) (os us tk : List Int) : Prop where
  hb : b ≤ K.length
  ho : os.length = K.length
  h1 : ∀ q, q < b → os.getD q 0 = us.getD q 0
  h2 : ∀ q, b ≤ q → q < K.length → us.getD q 0 = -1
  ip : IP d K us tk
  tj : ∀ y ∈ tk, ∃ j, j < ioN K b ∧ y = (tilesK d 0).getD (j * (tilesK d 0).length / (K.filter (fun k => btI k == 0)).length) 0
  tl : tk.length ≤ b
theorem L1.start (d : Dev) (K : List Int) : L1 d K 0 (List.replicate K.length 0) (List.replicate K.length (-1)) [] :=
  ⟨Nat.zero_le _, List.length_replicate, fun q hq => absurd hq (by omega), fun q _ hq => rep_at hq _, IP.start d K, fun y hy => (by cases hy), Nat.zero_le _⟩
theorem L1.no {d : Dev} {K os us tk : List Int} {b : Nat} (h : L1 d K b os us tk) (hb : b < K.length) (hk : btI (K.getD b 0) ≠ 0) : L1 d K (b + 1) (os.set b (-1)) us tk := by
  have ho := h.ho
  refine ⟨by omega, by rw [List.length_set]; exact ho, fun q hq => ?_, fun q h1 h2 => h.h2 q (by omega) h2, h.ip, by rw [ioN_no hb hk]; exact h.tj, by have := h.tl; omega⟩
  rw [zeg (by omega)]
  by_cases e : b = q
  · subst e; rw [if_pos rfl, h.h2 b (Nat.le_refl _) hb]
  · rw [if_neg e]; exact h.h1 q (by omega)
theorem L1.yes {d : Dev} (hd : devB d = true) {K os us tk : List Int} {b : Nat} (h : L1 d K b os us tk) (hb : b < K.length) (hk : btI (K.getD b 0) = 0) (hm : (K.filter (fun k => btI k == 0)).length ≤ (tilesK d 0).length) {x y : Int} (hx : x = (tilesK d 0).getD (ioN K b * (tilesK d 0).length / (K.filter (fun k => btI k == 0)).length) 0) (hy : y = x) : L1 d K (b + 1) ((os.set b (-1)).set b x) (us.set b x) (tk ++ [y]) := by
  have ho := h.ho
  have hil := ioN_lt hb hk
  have hul := h.ip.ln
  have hix := idx_lt2 hil (show 0 < (tilesK d 0).length by omega)
  subst hy
  have hxm : y ∈ tilesK d 0 := by rw [hx]; exact zeh hix
  have hxt : y ∉ tk := fun h9 => by
    obtain ⟨j, hj, e⟩ := h.tj y h9
    rw [hx] at e
    have hlt := idx_lt (show 0 < (K.filter (fun k => btI k == 0)).length by omega) hm hj
    exact nodup_ne (tlL_nodup d 0 _) (show _ < (tilesK d 0).length by omega) hix (show j * (tilesK d 0).length / (K.filter (fun k => btI k == 0)).length ≠ ioN K b * (tilesK d 0).length / (K.filter (fun k => btI k == 0)).length by omega) e.symm
  refine ⟨by omega, by rw [List.length_set, List.length_set]; exact ho, fun q hq => ?_, fun q h1 h2 => ?_, h.ip.put hd (by omega) (h.h2 b (Nat.le_refl _) hb) (by rw [hk]; exact hxm) hxt, fun z hz => ?_, by rw [List.length_append, List.length_singleton]; have := h.tl; omega⟩
  · rw [zeg (by rw [List.length_set]; omega), zeg (by omega), zeg (by omega)]
    by_cases e : b = q
    · rw [if_pos e, if_pos e]
    · rw [if_neg e, if_neg e, if_neg e]; exact h.h1 q (by omega)
  · rw [zeg (by omega), if_neg (by omega)]; exact h.h2 q (by omega) h2
  · rw [ioN_yes hb hk]
    rcases List.mem_append.1 hz with hz | hz
    · obtain ⟨j, hj, e⟩ := h.tj z hz; exact ⟨j, by omega, e⟩
    · rw [List.mem_singleton] at hz; subst hz; exact ⟨_, Nat.lt_succ_self _, hx⟩
theorem L1.fin {d : Dev} {K os us tk : List Int} (h : L1 d K K.length os us tk) : os = us := ext0 (by rw [h.ho, h.ip.ln]) fun q hq => h.h1 q (by rw [← h.ho]; exact hq)
def WsR (ws : List Pn) : Prop := ∀ p ∈ ws, (0 ≤ p.b ∧ p.b ≤ 600) ∧ 0 ≤ p.p ∧ p.p ≤ 600
theorem WsR.nil : WsR [] := fun p hp => by cases hp
theorem WsR.app {ws : List Pn} (h : WsR ws) {b p : Int} (h1 : 0 ≤ b ∧ b ≤ 600) (h2 : 0 ≤ p ∧ p ≤ 600) : WsR (ws ++ [Pn.mk b p]) := fun x hx => by
  rcases List.mem_append.1 hx with hx | hx
  · exact h x hx
  · rw [List.mem_singleton] at hx; subst hx; exact ⟨h1, h2⟩
theorem WsR.set {ws : List Pn} (h : WsR ws) (i : Nat) {b p : Int} (h1 : 0 ≤ b ∧ b ≤ 600) (h2 : 0 ≤ p ∧ p ≤ 600) : WsR (ws.set i (Pn.mk b p)) := fun x hx => by
  rcases List.mem_or_eq_of_mem_set hx with hx | hx
  · exact h x hx
  · subst hx; exact ⟨h1, h2⟩
theorem avg_rng {x n : Int} (h0 : 0 ≤ x) (h1 : x ≤ 600 * n) (hn : 0 < n) : 0 ≤ x / n ∧ x / n ≤ 600 := ⟨Int.ediv_nonneg h0 (by omega), Int.ediv_le_of_le_mul hn (by omega)⟩
theorem CnIn.mono {B C : Nat} {cs : List Cn} (h : CnIn B cs) (hl : B ≤ C) : CnIn C cs := fun c hc => by
  obtain ⟨⟨h1, h2⟩, h3, h4⟩ := h c hc
  exact ⟨⟨⟨h1.1, by omega⟩, h2⟩, ⟨h3.1, by omega⟩, fun k hk => ⟨⟨(h4 k hk).1.1, by have := (h4 k hk).1.2; omega⟩, (h4 k hk).2⟩⟩
theorem touches_ret (c : Cn) (i : Int) (w : World) (hkv : RdsW w c.kv 2 c.ks.length (c.ks.flatMap pnC)) (hkl : c.ks.length ≤ 1000) :
   Calls Try.prog 90 #[.agg #[.int .i64 c.nd, .int .i64 c.sb, .int .i64 c.sp, c.kv], .int .i64 i] w (Ret w (fun u_ p_ => ∃ b : Bool, u_ = .bool b ∧ p_ = [])) := by
 have hpl := zgq c
 refine zbl (N := 19) (args := [.agg #[.int .i64 c.nd, .int .i64 c.sb, .int .i64 c.sp, c.kv], .int .i64 i]) Try.func90 rfl rfl (srQ ?_)
 refine zdt rfl (zcm rfl rfl) ?_
 intro b1
 refine zba 1 rfl (zfc (hvQ rfl (zao (cs := [.int .i64 c.nd, .int .i64 c.sb, .int .i64 c.sp, c.kv]) rfl rfl rfl rfl rfl (zaj 0 rfl 0 rfl)) ?_))
 refine zfu rfl rfl rfl (zan rfl rfl (fun w hm => pinsOf_ret c w (hkv.below hm.bel) hkl)) ?_
 intro v2 p3 hR4
 subst hR4
 refine hvQ rfl (lnQ rfl rfl rfl (zac 0 rfl)) (zba 1 rfl (zax ?_))
 refine lkQ1 (α := Nat) [0, 1, 2, 4, 8, 9] rfl (fun k => [rowE 41 2 v2 ((pinsC c).length) ((pinsC c).flatMap pnC), boxE b1 #[.int .i64 c.nd, .int .i64 c.sb, .int .i64 c.sp, c.kv] 44]) (fun k => [(10, .int .i64 (k : Int))]) (fun k => k ≤ (pinsC c).length) (fun k => (pinsC c).length - k) 0 (Nat.zero_le _) (saQ rfl) (pfQ rfl) ?_
 intro k hi5
 have hk := hi5
 refine srQ ?_
 refine zbk rfl rfl rfl rfl rfl rfl (fun h6 => ?_) (fun h6 => ?_)
 ·
  refine ntQ (tcQ rfl (zcn (sbQ (srQ (hvQ rfl (riQ 2 rfl rfl rfl rfl (zac 0 rfl)) ?_)))))
  refine hvQ rfl (zcg (us := [.int .i64 (((pinsC c).getD k pn0).b), .int .i64 (((pinsC c).getD k pn0).p)]) rfl rfl rfl rfl (zac 0 rfl) (by omega) rfl (zcw pnC 2 (fun _ => rfl) (pinsC c) pn0 (show k < _ by omega) rfl)) (zdt rfl (zbw (z := .agg #[.int .i64 0, .int .i64 0]) rfl rfl) ?_)
  intro b7
  refine zcd (cs' := #[.int .i64 (((pinsC c).getD k pn0).b), .int .i64 (((pinsC c).getD k pn0).p)]) (i := 0) (off := 0) (us := [.int .i64 (((pinsC c).getD k pn0).b), .int .i64 (((pinsC c).getD k pn0).p)]) rfl rfl rfl rfl rfl rfl rfl (zah rfl (zah rfl zbp)) rfl rfl rfl (ntQ (srQ (hvQ rfl (fdQ 0 rfl rfl rfl) (hvQ rfl (zaf rfl rfl rfl (zab 0 rfl rfl)) (zam 1 rfl ?_)))))
  refine zby rfl rfl rfl rfl rfl rfl (fun h8 => ?_) (fun h8 => ?_)
  ·
   refine ntQ (zak rfl (zbd 1 rfl ?_))
   refine zaw (zaq ?_)
   refine zgp ?_
   refine zaq (zap ?_)
   exact zdb (rs := [.tmp 4]) (vs := [.bool true]) (post := []) rfl ⟨rfl, trivial⟩ rfl (slQ [] rfl) ⟨_, rfl, rfl⟩
  refine ntQ (fsQ rfl (zco (zay (hvQ rfl (vaQ rfl rfl rfl) (enQ 1 rfl ?_)))))
  exact zcx (k + 1) (by omega) (by omega) (saQ rfl) (slQ [1, 0] rfl)
 refine ntQ (fcQ rfl ?_)
 refine zaz (zds ?_)
 refine zag (zav (zbd 1 rfl ?_))
 exact zaw (zdb (rs := [.tmp 4]) (vs := [.bool false]) (post := []) rfl ⟨rfl, trivial⟩ rfl (slQ [] rfl) ⟨_, rfl, rfl⟩)
end Go.Proofs.Yteikplehipifkaa
