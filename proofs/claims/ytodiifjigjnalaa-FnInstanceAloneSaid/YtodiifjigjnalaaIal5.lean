/- Texts of the law FnInstanceAlone, part 5: what it uses. -/
import Derived.Test.YtodiifjigjnalaaIal4
set_option linter.unusedVariables false
set_option linter.unusedSimpArgs false
set_option maxHeartbeats 4000000
set_option maxRecDepth 100000
namespace Go.Proofs.Ytodiifjigjnalaa
open Go.RowKit Go.ChangeShapes
open Go.RowKit
theorem uH (os : List Oq) (vs : List Int) (x : Int) (f p : Nat) (v u : Value) (w : World) (hv : RdsW w v 3 os.length (os.flatMap oqC)) (hu : RdsW w u 1 vs.length (vs.map (Value.int .i64))) (hok : OpsP vs.length os) (hp : p < os.length) (hpf : os.length - p ≤ f + 1) (hx : 0 ≤ x ∧ x ≤ 4) (IH : ∀ (q : Nat), p < q → q < os.length → ∀ (w2 : World), RdsW w2 v 3 os.length (os.flatMap oqC) → RdsW w2 u 1 vs.length (vs.map (Value.int .i64)) → Calls Try.prog 104 #[v, .int .i64 (q : Int), u, .int .i64 x] w2 (Ret w2 (fun u_ p_ => u_ = .tuple #[.int .i64 (evE os vs x f q).1, .int .i64 ((evE os vs x f q).2 : Int)] ∧ p_ = []))) :
   Calls Try.prog 104 #[v, .int .i64 (p : Int), u, .int .i64 x] w (Ret w (fun u_ p_ => u_ = .tuple #[.int .i64 (evE os vs x (f + 1) p).1, .int .i64 ((evE os vs x (f + 1) p).2 : Int)] ∧ p_ = [])) := by
 have hv9 := gL hv
 have hl15 := hok.len
 have hgo : ∀ q, p < q → q < os.length → q < ((evE os vs x f) q).2 ∧ ((evE os vs x f) q).2 ≤ os.length ∧ needK os ((evE os vs x f) q).2 = needK os q - 1 := fun q h1 h2 => vI hok vs x f q (by omega) h2
 have har0 := sU hok hp
 have hop := (hok.op p hp).2
 unfold OqP at hop
 have harc := xW (os.getD p oq0).k
 refine bW (N := 155) (args := [v, jI (p : Int), u, jI x]) Try.func104 C C ?_
 refine sK _ [3, 2, 1, 0] C (aF (aO (aH 2 C (bS [9, 8, 3, 2, 1, 0] C (bK (aR (aF (aO (aH 2 C (eY C C C (eJ (s := 3) C Try.underlying71 (by kernel_rfl) C C (aD hv) (by omega) (by omega)) ?_))))))))))
 refine eY C C C (bL (us := [jI ((os.getD p oq0).k), jI ((os.getD p oq0).a), jI ((os.getD p oq0).b)]) C (by kernel_rfl) (by kernel_rfl) C (aD hv) (by omega) C (bY oqC 3 (fun _ => C) os oq0 (show p < _ by omega) C)) ?_
 refine zV C C C (bG (z := .agg #[jI 0, jI 0, jI 0]) C (by kernel_rfl)) ?_
 intro b1
 refine bE (cs' := #[jI ((os.getD p oq0).k), jI ((os.getD p oq0).a), jI ((os.getD p oq0).b)]) (i := 0) (off := 0) (us := [jI ((os.getD p oq0).k), jI ((os.getD p oq0).a), jI ((os.getD p oq0).b)]) C C C (by kernel_rfl) C C C (aB C (aB C (aB C bC))) C C C ?_
 refine bS [10, 9, 8, 3, 2, 1, 0] C (bK (aR (aF (aO (aH 1 C ?_)))))
 refine pP C C C (aV (by kernel_rfl) C (fun w hm => bJ (jR x w hx))) ?_
 refine aH 1 C (bS [11, 10, 9, 8, 3, 2, 1, 0] C (bK (aR (aF (aO (aH 1 C (eY C C C (lV C C C (by constructor <;> omega)) (aH 1 C (bS [11, 10, 9, 8, 3, 2, 1, 0] C (bK (aR (aF (aO ?_)))))))))))))
 refine eC 3 1 ?_
 refine eY C C C (aY C) (bS [12, 11, 10, 9, 8, 3, 2, 1, 0] C (bK (aR (aF (aF (aO (aH 1 C (bS [13, 12, 11, 10, 9, 8, 3, 2, 1, 0] C (bK (aR (bD ?_)))))))))))
 refine uB (α := Nat) (β := Value) (γ := List Int) (fun i gt zs => [rI9 3 gt zs, boxE b1 #[jI ((os.getD p oq0).k), jI ((os.getD p oq0).a), jI ((os.getD p oq0).b)] 97]) (fun i gt zs => [(0, v), (1, jI ((argE (evE os vs x f) (p + 1) i).2 : Int)), (2, u), (3, jI x), (8, jI 0), (9, jI 0), (10, pI b1), (11, jI (wmK x)), (12, gt), (13, jI (i : Int))]) (fun i gt zs => (i : Int) ≤ arI (os.getD p oq0).k ∧ zs = (argE (evE os vs x f) (p + 1) i).1) (fun i gt zs => (arI (os.getD p oq0).k).toNat - i) 0 _ [] ⟨by omega, C⟩ (aU [13, 12, 11, 10, 9, 8, 3, 2, 1, 0] C) ((.cons_cons _ (.cons_cons _ .slnil))) ?_
 intro i gt zs hi3
 obtain ⟨hi, hz⟩ := hi3
 have hzl : zs.length = i := by rw [hz]; exact uQ _ _ _
 have hpo := kM hok hp hgo i hi
 have hzr := Ac (L := zs) (by rw [hz]; exact uO (Bo os vs hx f) _ _)
 have hzr0 := hzr 0
 have hzr1 := hzr 1
 have hpl := fun h9 => oS hok hp hgo i h9
 refine aF (aF (aO (aH 1 C (eY C C C (jB (k0 := 0) C (by kernel_rfl) C) (eY C C C (aC C (by kernel_rfl) C (aA 1 C C)) ?_)))))
 refine pP C C C (aV (by kernel_rfl) C (fun w hm => bJ (jV ((os.getD p oq0).k) w))) ?_
 refine bN C C C C C C (fun h4 => ?_) (fun h4 => ?_)
 refine bS [29, 13, 12, 11, 10, 9, 8, 3, 2, 1, 0] C (bK (aR (aK C (fA (aR (aF (bD (aF (aO ?_)))))))))
 have hpl9 := hpl (by omega)
 refine eY C C C (aY C) (aH 3 C ?_)
 refine fC C C C (aV (by kernel_rfl) C (fun w hm => IH (argE (evE os vs x f) (p + 1) i).2 (by omega) (by omega) w (hv.below hm.bel) (hu.below hm.bel))) ?_
 intro v5 p6 R7
 obtain ⟨rfl, rfl⟩ := R7
 refine aH 5 C (bS [29, 15, 14, 13, 12, 11, 10, 9, 8, 3, 2, 1, 0] C (bK (aR (aF (aO (aH 2 C ?_))))))
 refine zU C C C (bB (z := jI 0) (s := 1) (cs := (mI [((evE os vs x f) (argE (evE os vs x f) (p + 1) i).2).1])) C Try.underlying48 (by kernel_rfl) (by decide) C (by kernel_rfl) C) ?_
 intro g8
 refine cW (i := 1) (z := jI 0) (bytes := 8) C C C C Try.underlying48 (by kernel_rfl) (by kernel_rfl) C C C (aJ 0 C) (cQ _) (by first | omega | (simp; done) | (simp; omega)) (cM zs ([((evE os vs x f) (argE (evE os vs x f) (p + 1) i).2).1])) (dP zs ([((evE os vs x f) (argE (evE os vs x f) (p + 1) i).2).1])) (fun _ => C) ?_
 intro v9
 refine aH 1 C (bS [29, 15, 14, 13, 12, 11, 10, 9, 8, 3, 2, 1, 0] C (bK (aR (aO (aH 2 C (bS [29, 15, 14, 13, 12, 11, 10, 9, 8, 3, 2, 1, 0] C (bK (bV (aR (aO (aH 1 C (eY C C C (lV C C C (by constructor <;> omega)) (aH 1 C ?_)))))))))))))
 refine bS [29, 15, 14, 13, 12, 11, 10, 9, 8, 3, 2, 1, 0] C (bK ?_)
 exact cO (i + 1) v9 (zs ++ ([((evE os vs x f) (argE (evE os vs x f) (p + 1) i).2).1])) ⟨by omega, by rw [hz]; rfl⟩ (by omega) (aU [13, 12, 11, 10, 9, 8, 3, 2, 1, 0] rfl) ((.cons _ (.cons_cons _ (.cons_cons _ .slnil))))
 refine bS [29, 13, 12, 11, 10, 9, 8, 3, 2, 1, 0] C (bK (aR (aS C ?_)))
 refine bI ?_
 refine gT (gT ?_)
 refine aM ?_
 refine aR (aF (aO (aH 1 C (bS [29, 16, 13, 12, 11, 10, 9, 8, 3, 2, 1, 0] C (bK (aR (aF (aF (aO (eY C C C (jB (k0 := 0) C (by kernel_rfl) C) (eY C C C (aC C (by kernel_rfl) C (aA 1 C C)) (bS [46, 29, 16, 13, 12, 11, 10, 9, 8, 3, 2, 1, 0] C (bK ?_)))))))))))))
 refine aR (bD (aF (aO ?_)))
 refine bU C C C C C C (fun h10 => ?_) (fun h10 => ?_)
 refine aH 1 C (bS [47, 46, 29, 16, 13, 12, 11, 10, 9, 8, 3, 2, 1, 0] C (bK (aR (aK C (aO (eY C C C (jB (k0 := 1) C (by kernel_rfl) C) (eY C C C (aC C (by kernel_rfl) C (aA 1 C C)) (aH 1 C (bS [47, 46, 29, 16, 13, 12, 11, 10, 9, 8, 3, 2, 1, 0] C (bK (bV (aR (aF ?_)))))))))))))
 refine aO (aH 2 C (eY C C C (dS C (by decide) C C (r := bits .and .i64 ((os.getD p oq0).a) (wmK x)) C) (aH 3 C (bS [47, 46, 29, 16, 13, 12, 11, 10, 9, 8, 3, 2, 1, 0] C (bK (aR ?_))))))
 refine aN ?_
 have hii : i = (arI (os.getD p oq0).k).toNat := by omega
 have hov : opV (os.getD p oq0) vs zs = (os.getD p oq0).a := by unfold opV; (repeat' split) <;> first | rfl | (exfalso; omega) | omega
 exact cH (rs := [.tmp 8, .tmp 9]) (vs := [jI (bits .and .i64 ((os.getD p oq0).a) (wmK x)), jI ((argE (evE os vs x f) (p + 1) i).2 : Int)]) (post := []) rfl ⟨rfl, rfl, trivial⟩ rfl ((.cons _ (.cons _ .slnil))) ⟨by rw [show evE os vs x (f + 1) p = (bits .and .i64 (opV (os.getD p oq0) vs (argE (evE os vs x f) (p + 1) (arI (os.getD p oq0).k).toNat).1) (wmK x), (argE (evE os vs x f) (p + 1) (arI (os.getD p oq0).k).toNat).2) from rfl, ← hii, ← hz, hov]; rfl, rfl⟩
 refine aH 1 C (bS [47, 46, 29, 16, 13, 12, 11, 10, 9, 8, 3, 2, 1, 0] C (bK (aR (aS C (aF (aO ?_))))))
 refine bU C C C C C C (fun h11 => ?_) (fun h11 => ?_)
 refine aH 1 C (bS [51, 47, 46, 29, 16, 13, 12, 11, 10, 9, 8, 3, 2, 1, 0] C (bK (aR (aK C (aO (aH 1 C (eY C C C (jB (k0 := 1) C (by kernel_rfl) C) (eY C C C (aC C (by kernel_rfl) C (aA 1 C C)) (eY C C C (eJ (s := 1) C Try.underlying48 (by kernel_rfl) C C (aD hu) (by omega) (by omega)) (eY C C C (aQ (u := jI (vs.getD (((os.getD p oq0).a).toNat) 0)) C (by kernel_rfl) C (aD hu) (cJ (show _ < vs.length by omega))) (aH 1 C (bS [51, 47, 46, 29, 16, 13, 12, 11, 10, 9, 8, 3, 2, 1, 0] C (bK ?_)))))))))))))
 refine bV (aR (aF (aO (aH 2 C (eY C C C (dS C (by decide) C C (r := bits .and .i64 (vs.getD (((os.getD p oq0).a).toNat) 0) (wmK x)) C) (aH 3 C (bS [51, 47, 46, 29, 16, 13, 12, 11, 10, 9, 8, 3, 2, 1, 0] C (bK (aR ?_)))))))))
 refine aN ?_
 have hii : i = (arI (os.getD p oq0).k).toNat := by omega
 have hov : opV (os.getD p oq0) vs zs = vs.getD (((os.getD p oq0).a).toNat) 0 := by unfold opV; (repeat' split) <;> first | rfl | (exfalso; omega) | omega
 exact cH (rs := [.tmp 8, .tmp 9]) (vs := [jI (bits .and .i64 (vs.getD (((os.getD p oq0).a).toNat) 0) (wmK x)), jI ((argE (evE os vs x f) (p + 1) i).2 : Int)]) (post := []) rfl ⟨rfl, rfl, trivial⟩ rfl ((.cons _ (.cons _ .slnil))) ⟨by rw [show evE os vs x (f + 1) p = (bits .and .i64 (opV (os.getD p oq0) vs (argE (evE os vs x f) (p + 1) (arI (os.getD p oq0).k).toNat).1) (wmK x), (argE (evE os vs x f) (p + 1) (arI (os.getD p oq0).k).toNat).2) from rfl, ← hii, ← hz, hov]; rfl, rfl⟩
 refine aH 1 C (bS [51, 47, 46, 29, 16, 13, 12, 11, 10, 9, 8, 3, 2, 1, 0] C (bK (aR (aS C (aF (aO ?_))))))
 refine bU C C C C C C (fun h12 => ?_) (fun h12 => ?_)
 refine aH 1 C (bS [58, 51, 47, 46, 29, 16, 13, 12, 11, 10, 9, 8, 3, 2, 1, 0] C (bK (aR (aK C ?_))))
 refine cI 10 [[], [], [1], [0, 2], [3], [], [5], [6], [4, 7], [8]] [60, 61, 62, 63, 64, 65, 66, 67, 68, 69] [u, .pointer (some ⟨b1, 0 + 1, none⟩), jI ((os.getD p oq0).a), elP u (((os.getD p oq0).a).toNat * 1), jI (vs.getD (((os.getD p oq0).a).toNat) 0), .pointer (some ⟨b1, 0 + 2, none⟩), jI ((os.getD p oq0).b), .int .u64 ((os.getD p oq0).b), jI ((vs.getD (((os.getD p oq0).a).toNat) 0) / 2 ^ ((os.getD p oq0).b : Int).toNat), jI (bits .and .i64 ((vs.getD (((os.getD p oq0).a).toNat) 0) / 2 ^ ((os.getD p oq0).b : Int).toNat) 1)] (by kernel_rfl) C ?_ ?_
 refine ⟨?_, ?_, ?_, ?_, ?_, ?_, ?_, ?_, ?_, ?_, trivial⟩
 exact .inl ⟨C, dN (aY C) C⟩
 exact .inl ⟨C, dN (jB (k0 := 1) C (by kernel_rfl) C) C⟩
 exact .inl ⟨C, dN (aC C (by kernel_rfl) C (aA 1 C C)) C⟩
 exact .inl ⟨C, dN (eJ (s := 1) C Try.underlying48 (by kernel_rfl) C C (aD hu) (by omega) (by omega)) C⟩
 exact .inl ⟨C, dN (aQ (u := jI (vs.getD (((os.getD p oq0).a).toNat) 0)) C (by kernel_rfl) C (aD hu) (cJ (show _ < vs.length by omega))) C⟩
 exact .inl ⟨C, dN (jB (k0 := 2) C (by kernel_rfl) C) C⟩
 exact .inl ⟨C, dN (aC C (by kernel_rfl) C (aA 1 C C)) C⟩
 exact .inl ⟨C, dN (vT C Try.underlying3 Try.underlying154 C (IntWalk.u64_in _ (by omega))) C⟩
 exact .inl ⟨C, dN (yJ C C C (by omega)) C⟩
 exact .inl ⟨C, dN (dS C (by decide) C C (r := bits .and .i64 ((vs.getD (((os.getD p oq0).a).toNat) 0) / 2 ^ ((os.getD p oq0).b : Int).toNat) 1) C) C⟩
 refine bS [69, 58, 51, 47, 46, 29, 16, 13, 12, 11, 10, 9, 8, 3, 2, 1, 0] C ?_
 simp only [List.drop_succ_cons, List.drop_zero]
 refine aH 1 C (bS [58, 51, 47, 46, 29, 16, 13, 12, 11, 10, 9, 8, 3, 2, 1, 0] C (bK (bV (aR (aF (aO (aH 2 C (eY C C C (dS C (by decide) C C (r := bits .and .i64 (bits .and .i64 ((vs.getD (((os.getD p oq0).a).toNat) 0) / 2 ^ ((os.getD p oq0).b : Int).toNat) 1) (wmK x)) C) (aH 3 C (bS [58, 51, 47, 46, 29, 16, 13, 12, 11, 10, 9, 8, 3, 2, 1, 0] C (bK (aR ?_))))))))))))
 refine aN ?_
 have hii : i = (arI (os.getD p oq0).k).toNat := by omega
 have hov : opV (os.getD p oq0) vs zs = bits .and .i64 ((vs.getD (((os.getD p oq0).a).toNat) 0) / 2 ^ ((os.getD p oq0).b : Int).toNat) 1 := by unfold opV; (repeat' split) <;> first | rfl | (exfalso; omega) | omega
 exact cH (rs := [.tmp 8, .tmp 9]) (vs := [jI (bits .and .i64 (bits .and .i64 ((vs.getD (((os.getD p oq0).a).toNat) 0) / 2 ^ ((os.getD p oq0).b : Int).toNat) 1) (wmK x)), jI ((argE (evE os vs x f) (p + 1) i).2 : Int)]) (post := []) rfl ⟨rfl, rfl, trivial⟩ rfl ((.cons _ (.cons _ .slnil))) ⟨by rw [show evE os vs x (f + 1) p = (bits .and .i64 (opV (os.getD p oq0) vs (argE (evE os vs x f) (p + 1) (arI (os.getD p oq0).k).toNat).1) (wmK x), (argE (evE os vs x f) (p + 1) (arI (os.getD p oq0).k).toNat).2) from rfl, ← hii, ← hz, hov]; rfl, rfl⟩
 refine aH 1 C (bS [58, 51, 47, 46, 29, 16, 13, 12, 11, 10, 9, 8, 3, 2, 1, 0] C (bK (aR (aS C (aF (aO ?_))))))
 refine bU C C C C C C (fun h13 => ?_) (fun h13 => ?_)
 refine aH 1 C (bS [70, 58, 51, 47, 46, 29, 16, 13, 12, 11, 10, 9, 8, 3, 2, 1, 0] C (bK (aR (aK C (aO (aH 1 C (eY C C C (eJ (s := 1) C Try.underlying48 (by kernel_rfl) C C (aJ 0 C) (by omega) (by omega)) (eY C C C (aQ (u := jI (zs.getD 0 0)) C (by kernel_rfl) C (aJ 0 C) (cJ (show _ < zs.length by omega))) (eY C C C (yH C C) (aH 1 C (bS [70, 58, 51, 47, 46, 29, 16, 13, 12, 11, 10, 9, 8, 3, 2, 1, 0] C (bK (bV ?_)))))))))))))
 refine aR (aF (aO (aH 2 C (eY C C C (dS C (by decide) C C (r := bits .and .i64 (bits .xor .i64 (-1) (zs.getD 0 0)) (wmK x)) C) (aH 3 C (bS [70, 58, 51, 47, 46, 29, 16, 13, 12, 11, 10, 9, 8, 3, 2, 1, 0] C (bK (aR ?_))))))))
 refine aN ?_
 have hii : i = (arI (os.getD p oq0).k).toNat := by omega
 have hov : opV (os.getD p oq0) vs zs = bits .xor .i64 (-1) (zs.getD 0 0) := by unfold opV; (repeat' split) <;> first | rfl | (exfalso; omega) | omega
 exact cH (rs := [.tmp 8, .tmp 9]) (vs := [jI (bits .and .i64 (bits .xor .i64 (-1) (zs.getD 0 0)) (wmK x)), jI ((argE (evE os vs x f) (p + 1) i).2 : Int)]) (post := []) rfl ⟨rfl, rfl, trivial⟩ rfl ((.cons _ (.cons _ .slnil))) ⟨by rw [show evE os vs x (f + 1) p = (bits .and .i64 (opV (os.getD p oq0) vs (argE (evE os vs x f) (p + 1) (arI (os.getD p oq0).k).toNat).1) (wmK x), (argE (evE os vs x f) (p + 1) (arI (os.getD p oq0).k).toNat).2) from rfl, ← hii, ← hz, hov]; rfl, rfl⟩
 refine aH 1 C (bS [70, 58, 51, 47, 46, 29, 16, 13, 12, 11, 10, 9, 8, 3, 2, 1, 0] C (bK (aR (aS C (aF (aO ?_))))))
 refine bU C C C C C C (fun h14 => ?_) (fun h14 => ?_)
 refine aH 1 C (bS [76, 70, 58, 51, 47, 46, 29, 16, 13, 12, 11, 10, 9, 8, 3, 2, 1, 0] C (bK (aR (aK C ?_))))
 refine cI 7 [[], [0], [1], [], [3], [4], [2, 5]] [78, 79, 80, 81, 82, 83, 84] [gt, elP gt ((0 : Int).toNat * 1), jI (zs.getD 0 0), gt, elP gt ((1 : Int).toNat * 1), jI (zs.getD 1 0), jI (bits .and .i64 (zs.getD 0 0) (zs.getD 1 0))] (by kernel_rfl) C ?_ ?_
 refine ⟨?_, ?_, ?_, ?_, ?_, ?_, ?_, trivial⟩
 exact .inl ⟨C, dN (aY C) C⟩
 exact .inl ⟨C, dN (eJ (s := 1) C Try.underlying48 (by kernel_rfl) C C (aJ 0 C) (by omega) (by omega)) C⟩
 exact .inl ⟨C, dN (aQ (u := jI (zs.getD 0 0)) C (by kernel_rfl) C (aJ 0 C) (cJ (show _ < zs.length by omega))) C⟩
 exact .inl ⟨C, dN (aY C) C⟩
 exact .inl ⟨C, dN (eJ (s := 1) C Try.underlying48 (by kernel_rfl) C C (aJ 0 C) (by omega) (by omega)) C⟩
 exact .inl ⟨C, dN (aQ (u := jI (zs.getD 1 0)) C (by kernel_rfl) C (aJ 0 C) (cJ (show _ < zs.length by omega))) C⟩
 exact .inl ⟨C, dN (dS C (by decide) C C (r := bits .and .i64 (zs.getD 0 0) (zs.getD 1 0)) C) C⟩
 refine bS [84, 76, 70, 58, 51, 47, 46, 29, 16, 13, 12, 11, 10, 9, 8, 3, 2, 1, 0] C ?_
 simp only [List.drop_succ_cons, List.drop_zero]
 refine aH 1 C (bS [76, 70, 58, 51, 47, 46, 29, 16, 13, 12, 11, 10, 9, 8, 3, 2, 1, 0] C (bK (bV (aR (aF (aO (aH 2 C (eY C C C (dS C (by decide) C C (r := bits .and .i64 (bits .and .i64 (zs.getD 0 0) (zs.getD 1 0)) (wmK x)) C) (aH 3 C (bS [76, 70, 58, 51, 47, 46, 29, 16, 13, 12, 11, 10, 9, 8, 3, 2, 1, 0] C (bK (aR ?_))))))))))))
 refine aN ?_
 have hii : i = (arI (os.getD p oq0).k).toNat := by omega
 have hov : opV (os.getD p oq0) vs zs = bits .and .i64 (zs.getD 0 0) (zs.getD 1 0) := by unfold opV; (repeat' split) <;> first | rfl | (exfalso; omega) | omega
 exact cH (rs := [.tmp 8, .tmp 9]) (vs := [jI (bits .and .i64 (bits .and .i64 (zs.getD 0 0) (zs.getD 1 0)) (wmK x)), jI ((argE (evE os vs x f) (p + 1) i).2 : Int)]) (post := []) rfl ⟨rfl, rfl, trivial⟩ rfl ((.cons _ (.cons _ .slnil))) ⟨by rw [show evE os vs x (f + 1) p = (bits .and .i64 (opV (os.getD p oq0) vs (argE (evE os vs x f) (p + 1) (arI (os.getD p oq0).k).toNat).1) (wmK x), (argE (evE os vs x f) (p + 1) (arI (os.getD p oq0).k).toNat).2) from rfl, ← hii, ← hz, hov]; rfl, rfl⟩
 refine aH 1 C (bS [76, 70, 58, 51, 47, 46, 29, 16, 13, 12, 11, 10, 9, 8, 3, 2, 1, 0] C (bK (aR (aS C (aF (aO ?_))))))
 refine bU C C C C C C (fun h15 => ?_) (fun h15 => ?_)
 refine aH 1 C (bS [85, 76, 70, 58, 51, 47, 46, 29, 16, 13, 12, 11, 10, 9, 8, 3, 2, 1, 0] C (bK (aR (aK C ?_))))
 refine cI 7 [[], [0], [1], [], [3], [4], [2, 5]] [87, 88, 89, 90, 91, 92, 93] [gt, elP gt ((0 : Int).toNat * 1), jI (zs.getD 0 0), gt, elP gt ((1 : Int).toNat * 1), jI (zs.getD 1 0), jI (bits .or .i64 (zs.getD 0 0) (zs.getD 1 0))] (by kernel_rfl) C ?_ ?_
 refine ⟨?_, ?_, ?_, ?_, ?_, ?_, ?_, trivial⟩
 exact .inl ⟨C, dN (aY C) C⟩
 exact .inl ⟨C, dN (eJ (s := 1) C Try.underlying48 (by kernel_rfl) C C (aJ 0 C) (by omega) (by omega)) C⟩
 exact .inl ⟨C, dN (aQ (u := jI (zs.getD 0 0)) C (by kernel_rfl) C (aJ 0 C) (cJ (show _ < zs.length by omega))) C⟩
 exact .inl ⟨C, dN (aY C) C⟩
 exact .inl ⟨C, dN (eJ (s := 1) C Try.underlying48 (by kernel_rfl) C C (aJ 0 C) (by omega) (by omega)) C⟩
 exact .inl ⟨C, dN (aQ (u := jI (zs.getD 1 0)) C (by kernel_rfl) C (aJ 0 C) (cJ (show _ < zs.length by omega))) C⟩
 exact .inl ⟨C, dN (dS C (by decide) C C (r := bits .or .i64 (zs.getD 0 0) (zs.getD 1 0)) C) C⟩
 refine bS [93, 85, 76, 70, 58, 51, 47, 46, 29, 16, 13, 12, 11, 10, 9, 8, 3, 2, 1, 0] C ?_
 simp only [List.drop_succ_cons, List.drop_zero]
 refine aH 1 C (bS [85, 76, 70, 58, 51, 47, 46, 29, 16, 13, 12, 11, 10, 9, 8, 3, 2, 1, 0] C (bK (bV (aR (aF (aO (aH 2 C (eY C C C (dS C (by decide) C C (r := bits .and .i64 (bits .or .i64 (zs.getD 0 0) (zs.getD 1 0)) (wmK x)) C) (aH 3 C (bS [85, 76, 70, 58, 51, 47, 46, 29, 16, 13, 12, 11, 10, 9, 8, 3, 2, 1, 0] C (bK (aR ?_))))))))))))
 refine aN ?_
 have hii : i = (arI (os.getD p oq0).k).toNat := by omega
 have hov : opV (os.getD p oq0) vs zs = bits .or .i64 (zs.getD 0 0) (zs.getD 1 0) := by unfold opV; (repeat' split) <;> first | rfl | (exfalso; omega) | omega
 exact cH (rs := [.tmp 8, .tmp 9]) (vs := [jI (bits .and .i64 (bits .or .i64 (zs.getD 0 0) (zs.getD 1 0)) (wmK x)), jI ((argE (evE os vs x f) (p + 1) i).2 : Int)]) (post := []) rfl ⟨rfl, rfl, trivial⟩ rfl ((.cons _ (.cons _ .slnil))) ⟨by rw [show evE os vs x (f + 1) p = (bits .and .i64 (opV (os.getD p oq0) vs (argE (evE os vs x f) (p + 1) (arI (os.getD p oq0).k).toNat).1) (wmK x), (argE (evE os vs x f) (p + 1) (arI (os.getD p oq0).k).toNat).2) from rfl, ← hii, ← hz, hov]; rfl, rfl⟩
 refine aH 1 C (bS [85, 76, 70, 58, 51, 47, 46, 29, 16, 13, 12, 11, 10, 9, 8, 3, 2, 1, 0] C (bK (aR (aS C (aF (aO ?_))))))
 refine bU C C C C C C (fun h16 => ?_) (fun h16 => ?_)
 refine aH 1 C (bS [94, 85, 76, 70, 58, 51, 47, 46, 29, 16, 13, 12, 11, 10, 9, 8, 3, 2, 1, 0] C (bK (aR (aK C ?_))))
 refine cI 7 [[], [0], [1], [], [3], [4], [2, 5]] [96, 97, 98, 99, 100, 101, 102] [gt, elP gt ((0 : Int).toNat * 1), jI (zs.getD 0 0), gt, elP gt ((1 : Int).toNat * 1), jI (zs.getD 1 0), jI (bits .xor .i64 (zs.getD 0 0) (zs.getD 1 0))] (by kernel_rfl) C ?_ ?_
 refine ⟨?_, ?_, ?_, ?_, ?_, ?_, ?_, trivial⟩
 exact .inl ⟨C, dN (aY C) C⟩
 exact .inl ⟨C, dN (eJ (s := 1) C Try.underlying48 (by kernel_rfl) C C (aJ 0 C) (by omega) (by omega)) C⟩
 exact .inl ⟨C, dN (aQ (u := jI (zs.getD 0 0)) C (by kernel_rfl) C (aJ 0 C) (cJ (show _ < zs.length by omega))) C⟩
 exact .inl ⟨C, dN (aY C) C⟩
 exact .inl ⟨C, dN (eJ (s := 1) C Try.underlying48 (by kernel_rfl) C C (aJ 0 C) (by omega) (by omega)) C⟩
 exact .inl ⟨C, dN (aQ (u := jI (zs.getD 1 0)) C (by kernel_rfl) C (aJ 0 C) (cJ (show _ < zs.length by omega))) C⟩
 exact .inl ⟨C, dN (dS C (by decide) C C (r := bits .xor .i64 (zs.getD 0 0) (zs.getD 1 0)) C) C⟩
 refine bS [102, 94, 85, 76, 70, 58, 51, 47, 46, 29, 16, 13, 12, 11, 10, 9, 8, 3, 2, 1, 0] C ?_
 simp only [List.drop_succ_cons, List.drop_zero]
 refine aH 1 C (bS [94, 85, 76, 70, 58, 51, 47, 46, 29, 16, 13, 12, 11, 10, 9, 8, 3, 2, 1, 0] C (bK (bV (aR (aF (aO (aH 2 C (eY C C C (dS C (by decide) C C (r := bits .and .i64 (bits .xor .i64 (zs.getD 0 0) (zs.getD 1 0)) (wmK x)) C) (aH 3 C (bS [94, 85, 76, 70, 58, 51, 47, 46, 29, 16, 13, 12, 11, 10, 9, 8, 3, 2, 1, 0] C (bK (aR ?_))))))))))))
 refine aN ?_
 have hii : i = (arI (os.getD p oq0).k).toNat := by omega
 have hov : opV (os.getD p oq0) vs zs = bits .xor .i64 (zs.getD 0 0) (zs.getD 1 0) := by unfold opV; (repeat' split) <;> first | rfl | (exfalso; omega) | omega
 exact cH (rs := [.tmp 8, .tmp 9]) (vs := [jI (bits .and .i64 (bits .xor .i64 (zs.getD 0 0) (zs.getD 1 0)) (wmK x)), jI ((argE (evE os vs x f) (p + 1) i).2 : Int)]) (post := []) rfl ⟨rfl, rfl, trivial⟩ rfl ((.cons _ (.cons _ .slnil))) ⟨by rw [show evE os vs x (f + 1) p = (bits .and .i64 (opV (os.getD p oq0) vs (argE (evE os vs x f) (p + 1) (arI (os.getD p oq0).k).toNat).1) (wmK x), (argE (evE os vs x f) (p + 1) (arI (os.getD p oq0).k).toNat).2) from rfl, ← hii, ← hz, hov]; rfl, rfl⟩
 refine aH 1 C (bS [94, 85, 76, 70, 58, 51, 47, 46, 29, 16, 13, 12, 11, 10, 9, 8, 3, 2, 1, 0] C (bK (aR (aS C (aF (aO ?_))))))
 refine bU C C C C C C (fun h17 => ?_) (fun h17 => ?_)
 refine aH 1 C (bS [103, 94, 85, 76, 70, 58, 51, 47, 46, 29, 16, 13, 12, 11, 10, 9, 8, 3, 2, 1, 0] C (bK (aR (aK C ?_))))
 refine cI 7 [[], [0], [1], [], [3], [4], [2, 5]] [105, 106, 107, 108, 109, 110, 111] [gt, elP gt ((0 : Int).toNat * 1), jI (zs.getD 0 0), gt, elP gt ((1 : Int).toNat * 1), jI (zs.getD 1 0), jI ((zs.getD 0 0) + (zs.getD 1 0))] (by kernel_rfl) C ?_ ?_
 refine ⟨?_, ?_, ?_, ?_, ?_, ?_, ?_, trivial⟩
 exact .inl ⟨C, dN (aY C) C⟩
 exact .inl ⟨C, dN (eJ (s := 1) C Try.underlying48 (by kernel_rfl) C C (aJ 0 C) (by omega) (by omega)) C⟩
 exact .inl ⟨C, dN (aQ (u := jI (zs.getD 0 0)) C (by kernel_rfl) C (aJ 0 C) (cJ (show _ < zs.length by omega))) C⟩
 exact .inl ⟨C, dN (aY C) C⟩
 exact .inl ⟨C, dN (eJ (s := 1) C Try.underlying48 (by kernel_rfl) C C (aJ 0 C) (by omega) (by omega)) C⟩
 exact .inl ⟨C, dN (aQ (u := jI (zs.getD 1 0)) C (by kernel_rfl) C (aJ 0 C) (cJ (show _ < zs.length by omega))) C⟩
 exact .inl ⟨C, dN (lV C C C (by constructor <;> omega)) C⟩
 refine bS [111, 103, 94, 85, 76, 70, 58, 51, 47, 46, 29, 16, 13, 12, 11, 10, 9, 8, 3, 2, 1, 0] C ?_
 simp only [List.drop_succ_cons, List.drop_zero]
 refine aH 1 C (bS [103, 94, 85, 76, 70, 58, 51, 47, 46, 29, 16, 13, 12, 11, 10, 9, 8, 3, 2, 1, 0] C (bK (bV (aR (aF (aO (aH 2 C (eY C C C (dS C (by decide) C C (r := bits .and .i64 ((zs.getD 0 0) + (zs.getD 1 0)) (wmK x)) C) (aH 3 C (bS [103, 94, 85, 76, 70, 58, 51, 47, 46, 29, 16, 13, 12, 11, 10, 9, 8, 3, 2, 1, 0] C (bK (aR ?_))))))))))))
 refine aN ?_
 have hii : i = (arI (os.getD p oq0).k).toNat := by omega
 have hov : opV (os.getD p oq0) vs zs = (zs.getD 0 0) + (zs.getD 1 0) := by unfold opV; (repeat' split) <;> first | rfl | (exfalso; omega) | omega
 exact cH (rs := [.tmp 8, .tmp 9]) (vs := [jI (bits .and .i64 ((zs.getD 0 0) + (zs.getD 1 0)) (wmK x)), jI ((argE (evE os vs x f) (p + 1) i).2 : Int)]) (post := []) rfl ⟨rfl, rfl, trivial⟩ rfl ((.cons _ (.cons _ .slnil))) ⟨by rw [show evE os vs x (f + 1) p = (bits .and .i64 (opV (os.getD p oq0) vs (argE (evE os vs x f) (p + 1) (arI (os.getD p oq0).k).toNat).1) (wmK x), (argE (evE os vs x f) (p + 1) (arI (os.getD p oq0).k).toNat).2) from rfl, ← hii, ← hz, hov]; rfl, rfl⟩
 refine aH 1 C (bS [103, 94, 85, 76, 70, 58, 51, 47, 46, 29, 16, 13, 12, 11, 10, 9, 8, 3, 2, 1, 0] C (bK (aR (aS C (aF (aO ?_))))))
 refine bU C C C C C C (fun h18 => ?_) (fun h18 => ?_)
 refine aH 1 C (bS [112, 103, 94, 85, 76, 70, 58, 51, 47, 46, 29, 16, 13, 12, 11, 10, 9, 8, 3, 2, 1, 0] C (bK (aR (aK C ?_))))
 refine cI 7 [[], [0], [1], [], [3], [4], [2, 5]] [114, 115, 116, 117, 118, 119, 120] [gt, elP gt ((0 : Int).toNat * 1), jI (zs.getD 0 0), gt, elP gt ((1 : Int).toNat * 1), jI (zs.getD 1 0), jI ((zs.getD 0 0) - (zs.getD 1 0))] (by kernel_rfl) C ?_ ?_
 refine ⟨?_, ?_, ?_, ?_, ?_, ?_, ?_, trivial⟩
 exact .inl ⟨C, dN (aY C) C⟩
 exact .inl ⟨C, dN (eJ (s := 1) C Try.underlying48 (by kernel_rfl) C C (aJ 0 C) (by omega) (by omega)) C⟩
 exact .inl ⟨C, dN (aQ (u := jI (zs.getD 0 0)) C (by kernel_rfl) C (aJ 0 C) (cJ (show _ < zs.length by omega))) C⟩
 exact .inl ⟨C, dN (aY C) C⟩
 exact .inl ⟨C, dN (eJ (s := 1) C Try.underlying48 (by kernel_rfl) C C (aJ 0 C) (by omega) (by omega)) C⟩
 exact .inl ⟨C, dN (aQ (u := jI (zs.getD 1 0)) C (by kernel_rfl) C (aJ 0 C) (cJ (show _ < zs.length by omega))) C⟩
 exact .inl ⟨C, dN (yI C C C (by constructor <;> omega)) C⟩
 refine bS [120, 112, 103, 94, 85, 76, 70, 58, 51, 47, 46, 29, 16, 13, 12, 11, 10, 9, 8, 3, 2, 1, 0] C ?_
 simp only [List.drop_succ_cons, List.drop_zero]
 refine aH 1 C (bS [112, 103, 94, 85, 76, 70, 58, 51, 47, 46, 29, 16, 13, 12, 11, 10, 9, 8, 3, 2, 1, 0] C (bK (bV (aR (aF (aO (aH 2 C (eY C C C (dS C (by decide) C C (r := bits .and .i64 ((zs.getD 0 0) - (zs.getD 1 0)) (wmK x)) C) (aH 3 C (bS [112, 103, 94, 85, 76, 70, 58, 51, 47, 46, 29, 16, 13, 12, 11, 10, 9, 8, 3, 2, 1, 0] C (bK (aR ?_))))))))))))
 refine aN ?_
 have hii : i = (arI (os.getD p oq0).k).toNat := by omega
 have hov : opV (os.getD p oq0) vs zs = (zs.getD 0 0) - (zs.getD 1 0) := by unfold opV; (repeat' split) <;> first | rfl | (exfalso; omega) | omega
 exact cH (rs := [.tmp 8, .tmp 9]) (vs := [jI (bits .and .i64 ((zs.getD 0 0) - (zs.getD 1 0)) (wmK x)), jI ((argE (evE os vs x f) (p + 1) i).2 : Int)]) (post := []) rfl ⟨rfl, rfl, trivial⟩ rfl ((.cons _ (.cons _ .slnil))) ⟨by rw [show evE os vs x (f + 1) p = (bits .and .i64 (opV (os.getD p oq0) vs (argE (evE os vs x f) (p + 1) (arI (os.getD p oq0).k).toNat).1) (wmK x), (argE (evE os vs x f) (p + 1) (arI (os.getD p oq0).k).toNat).2) from rfl, ← hii, ← hz, hov]; rfl, rfl⟩
 refine aH 1 C (bS [112, 103, 94, 85, 76, 70, 58, 51, 47, 46, 29, 16, 13, 12, 11, 10, 9, 8, 3, 2, 1, 0] C (bK (aR (aS C (aF (aO ?_))))))
 refine bU C C C C C C (fun h19 => ?_) (fun h19 => ?_)
 refine aH 1 C (bS [121, 112, 103, 94, 85, 76, 70, 58, 51, 47, 46, 29, 16, 13, 12, 11, 10, 9, 8, 3, 2, 1, 0] C (bK (aR (aK C (aF ?_)))))
 refine cI 7 [[], [0], [1], [], [3], [4], [2, 5]] [123, 124, 125, 126, 127, 128, 129] [gt, elP gt ((0 : Int).toNat * 1), jI (zs.getD 0 0), gt, elP gt ((1 : Int).toNat * 1), jI (zs.getD 1 0), .bool ((zs.getD 0 0) == (zs.getD 1 0))] (by kernel_rfl) C ?_ ?_
 refine ⟨?_, ?_, ?_, ?_, ?_, ?_, ?_, trivial⟩
 exact .inl ⟨C, dN (aY C) C⟩
 exact .inl ⟨C, dN (eJ (s := 1) C Try.underlying48 (by kernel_rfl) C C (aJ 0 C) (by omega) (by omega)) C⟩
 exact .inl ⟨C, dN (aQ (u := jI (zs.getD 0 0)) C (by kernel_rfl) C (aJ 0 C) (cJ (show _ < zs.length by omega))) C⟩
 exact .inl ⟨C, dN (aY C) C⟩
 exact .inl ⟨C, dN (eJ (s := 1) C Try.underlying48 (by kernel_rfl) C C (aJ 0 C) (by omega) (by omega)) C⟩
 exact .inl ⟨C, dN (aQ (u := jI (zs.getD 1 0)) C (by kernel_rfl) C (aJ 0 C) (cJ (show _ < zs.length by omega))) C⟩
 exact .inl ⟨C, dN (dR C C C C) C⟩
 refine bS [129, 121, 112, 103, 94, 85, 76, 70, 58, 51, 47, 46, 29, 16, 13, 12, 11, 10, 9, 8, 3, 2, 1, 0] C ?_
 simp only [List.drop_succ_cons, List.drop_zero]
 refine bS [129, 121, 112, 103, 94, 85, 76, 70, 58, 51, 47, 46, 29, 16, 13, 12, 11, 10, 9, 8, 3, 2, 1, 0] C (bK (aR ?_))
 refine eW C (fun h20 => ?_) (fun h20 => ?_)
 have h20p : zs.getD 0 0 = zs.getD 1 0 := beq_iff_eq.1 h20
 refine aO (aH 1 C (bS [129, 121, 112, 103, 94, 85, 76, 70, 58, 51, 47, 46, 29, 16, 13, 12, 11, 10, 9, 8, 3, 2, 1, 0] C (bK (bV (aR (aF (aO (aH 2 C (eY C C C (dS C (by decide) C C (r := bits .and .i64 1 (wmK x)) C) (aH 3 C (bS [129, 121, 112, 103, 94, 85, 76, 70, 58, 51, 47, 46, 29, 16, 13, 12, 11, 10, 9, 8, 3, 2, 1, 0] C (bK (aR ?_)))))))))))))
 refine aN ?_
 have hii : i = (arI (os.getD p oq0).k).toNat := by omega
 have hov : opV (os.getD p oq0) vs zs = 1 := by unfold opV; (repeat' split) <;> first | rfl | (exfalso; omega) | omega
 exact cH (rs := [.tmp 8, .tmp 9]) (vs := [jI (bits .and .i64 1 (wmK x)), jI ((argE (evE os vs x f) (p + 1) i).2 : Int)]) (post := []) rfl ⟨rfl, rfl, trivial⟩ rfl ((.cons _ (.cons _ .slnil))) ⟨by rw [show evE os vs x (f + 1) p = (bits .and .i64 (opV (os.getD p oq0) vs (argE (evE os vs x f) (p + 1) (arI (os.getD p oq0).k).toNat).1) (wmK x), (argE (evE os vs x f) (p + 1) (arI (os.getD p oq0).k).toNat).2) from rfl, ← hii, ← hz, hov]; rfl, rfl⟩
 have h20p : zs.getD 0 0 ≠ zs.getD 1 0 := beq_eq_false_iff_ne.1 h20
 refine fA (bV (aR (aF (aO (aH 2 C (eY C C C (dS C (by decide) C C (r := bits .and .i64 0 (wmK x)) C) (aH 3 C (bS [129, 121, 112, 103, 94, 85, 76, 70, 58, 51, 47, 46, 29, 16, 13, 12, 11, 10, 9, 8, 3, 2, 1, 0] C (bK (aR ?_))))))))))
 refine aN ?_
 have hii : i = (arI (os.getD p oq0).k).toNat := by omega
 have hov : opV (os.getD p oq0) vs zs = 0 := by unfold opV; (repeat' split) <;> first | rfl | (exfalso; omega) | omega
 exact cH (rs := [.tmp 8, .tmp 9]) (vs := [jI (bits .and .i64 0 (wmK x)), jI ((argE (evE os vs x f) (p + 1) i).2 : Int)]) (post := []) rfl ⟨rfl, rfl, trivial⟩ rfl ((.cons _ (.cons _ .slnil))) ⟨by rw [show evE os vs x (f + 1) p = (bits .and .i64 (opV (os.getD p oq0) vs (argE (evE os vs x f) (p + 1) (arI (os.getD p oq0).k).toNat).1) (wmK x), (argE (evE os vs x f) (p + 1) (arI (os.getD p oq0).k).toNat).2) from rfl, ← hii, ← hz, hov]; rfl, rfl⟩
 refine aH 1 C (bS [121, 112, 103, 94, 85, 76, 70, 58, 51, 47, 46, 29, 16, 13, 12, 11, 10, 9, 8, 3, 2, 1, 0] C (bK (aR (aS C (aF (aO ?_))))))
 refine bU C C C C C C (fun h21 => ?_) (fun h21 => ?_)
 refine aH 1 C (bS [130, 121, 112, 103, 94, 85, 76, 70, 58, 51, 47, 46, 29, 16, 13, 12, 11, 10, 9, 8, 3, 2, 1, 0] C (bK (aR (aK C (aF ?_)))))
 refine cI 7 [[], [0], [1], [], [3], [4], [2, 5]] [132, 133, 134, 135, 136, 137, 138] [gt, elP gt ((0 : Int).toNat * 1), jI (zs.getD 0 0), gt, elP gt ((1 : Int).toNat * 1), jI (zs.getD 1 0), .bool (decide (zs.getD 0 0 < zs.getD 1 0))] (by kernel_rfl) C ?_ ?_
 refine ⟨?_, ?_, ?_, ?_, ?_, ?_, ?_, trivial⟩
 exact .inl ⟨C, dN (aY C) C⟩
 exact .inl ⟨C, dN (eJ (s := 1) C Try.underlying48 (by kernel_rfl) C C (aJ 0 C) (by omega) (by omega)) C⟩
 exact .inl ⟨C, dN (aQ (u := jI (zs.getD 0 0)) C (by kernel_rfl) C (aJ 0 C) (cJ (show _ < zs.length by omega))) C⟩
 exact .inl ⟨C, dN (aY C) C⟩
 exact .inl ⟨C, dN (eJ (s := 1) C Try.underlying48 (by kernel_rfl) C C (aJ 0 C) (by omega) (by omega)) C⟩
 exact .inl ⟨C, dN (aQ (u := jI (zs.getD 1 0)) C (by kernel_rfl) C (aJ 0 C) (cJ (show _ < zs.length by omega))) C⟩
 exact .inl ⟨C, dN (dR C C C C) C⟩
 refine bS [138, 130, 121, 112, 103, 94, 85, 76, 70, 58, 51, 47, 46, 29, 16, 13, 12, 11, 10, 9, 8, 3, 2, 1, 0] C ?_
 simp only [List.drop_succ_cons, List.drop_zero]
 refine bS [138, 130, 121, 112, 103, 94, 85, 76, 70, 58, 51, 47, 46, 29, 16, 13, 12, 11, 10, 9, 8, 3, 2, 1, 0] C (bK (aR ?_))
 refine eW C (fun h22 => ?_) (fun h22 => ?_)
 have h22p : zs.getD 0 0 < zs.getD 1 0 := of_decide_eq_true h22
 refine aO (aH 1 C (bS [138, 130, 121, 112, 103, 94, 85, 76, 70, 58, 51, 47, 46, 29, 16, 13, 12, 11, 10, 9, 8, 3, 2, 1, 0] C (bK (bV (aR (aF (aO (aH 2 C (eY C C C (dS C (by decide) C C (r := bits .and .i64 1 (wmK x)) C) (aH 3 C (bS [138, 130, 121, 112, 103, 94, 85, 76, 70, 58, 51, 47, 46, 29, 16, 13, 12, 11, 10, 9, 8, 3, 2, 1, 0] C (bK (aR ?_)))))))))))))
 refine aN ?_
 have hii : i = (arI (os.getD p oq0).k).toNat := by omega
 have hov : opV (os.getD p oq0) vs zs = 1 := by unfold opV; (repeat' split) <;> first | rfl | (exfalso; omega) | omega
 exact cH (rs := [.tmp 8, .tmp 9]) (vs := [jI (bits .and .i64 1 (wmK x)), jI ((argE (evE os vs x f) (p + 1) i).2 : Int)]) (post := []) rfl ⟨rfl, rfl, trivial⟩ rfl ((.cons _ (.cons _ .slnil))) ⟨by rw [show evE os vs x (f + 1) p = (bits .and .i64 (opV (os.getD p oq0) vs (argE (evE os vs x f) (p + 1) (arI (os.getD p oq0).k).toNat).1) (wmK x), (argE (evE os vs x f) (p + 1) (arI (os.getD p oq0).k).toNat).2) from rfl, ← hii, ← hz, hov]; rfl, rfl⟩
 have h22p : ¬ (zs.getD 0 0 < zs.getD 1 0) := of_decide_eq_false h22
 refine fA (bV (aR (aF (aO (aH 2 C (eY C C C (dS C (by decide) C C (r := bits .and .i64 0 (wmK x)) C) (aH 3 C (bS [138, 130, 121, 112, 103, 94, 85, 76, 70, 58, 51, 47, 46, 29, 16, 13, 12, 11, 10, 9, 8, 3, 2, 1, 0] C (bK (aR ?_))))))))))
 refine aN ?_
 have hii : i = (arI (os.getD p oq0).k).toNat := by omega
 have hov : opV (os.getD p oq0) vs zs = 0 := by unfold opV; (repeat' split) <;> first | rfl | (exfalso; omega) | omega
 exact cH (rs := [.tmp 8, .tmp 9]) (vs := [jI (bits .and .i64 0 (wmK x)), jI ((argE (evE os vs x f) (p + 1) i).2 : Int)]) (post := []) rfl ⟨rfl, rfl, trivial⟩ rfl ((.cons _ (.cons _ .slnil))) ⟨by rw [show evE os vs x (f + 1) p = (bits .and .i64 (opV (os.getD p oq0) vs (argE (evE os vs x f) (p + 1) (arI (os.getD p oq0).k).toNat).1) (wmK x), (argE (evE os vs x f) (p + 1) (arI (os.getD p oq0).k).toNat).2) from rfl, ← hii, ← hz, hov]; rfl, rfl⟩
 refine aH 1 C (bS [130, 121, 112, 103, 94, 85, 76, 70, 58, 51, 47, 46, 29, 16, 13, 12, 11, 10, 9, 8, 3, 2, 1, 0] C (bK (aR (aS C (aF (aO ?_))))))
 refine bU C C C C C C (fun h23 => ?_) (fun h23 => ?_)
 refine aH 1 C (bS [139, 130, 121, 112, 103, 94, 85, 76, 70, 58, 51, 47, 46, 29, 16, 13, 12, 11, 10, 9, 8, 3, 2, 1, 0] C (bK (aR (aK C (aF (aO (aH 1 C (eY C C C (eJ (s := 1) C Try.underlying48 (by kernel_rfl) C C (aJ 0 C) (by omega) (by omega)) (eY C C C (aQ (u := jI (zs.getD 2 0)) C (by kernel_rfl) C (aJ 0 C) (cJ (show _ < zs.length by omega))) (aH 1 C (bS [139, 130, 121, 112, 103, 94, 85, 76, 70, 58, 51, 47, 46, 29, 16, 13, 12, 11, 10, 9, 8, 3, 2, 1, 0] C (bK (aR ?_)))))))))))))
 refine aF (aO (aH 1 C (eY C C C (eJ (s := 1) C Try.underlying48 (by kernel_rfl) C C (aJ 0 C) (by omega) (by omega)) (eY C C C (aQ (u := jI (zs.getD 0 0)) C (by kernel_rfl) C (aJ 0 C) (cJ (show _ < zs.length by omega))) ?_))))
 refine fZ C C C C C C (fun h24 => ?_) (fun h24 => ?_)
 refine bS [147, 139, 130, 121, 112, 103, 94, 85, 76, 70, 58, 51, 47, 46, 29, 16, 13, 12, 11, 10, 9, 8, 3, 2, 1, 0] C (bK (aR (aK C (aO (aH 1 C (eY C C C (eJ (s := 1) C Try.underlying48 (by kernel_rfl) C C (aJ 0 C) (by omega) (by omega)) (eY C C C (aQ (u := jI (zs.getD 1 0)) C (by kernel_rfl) C (aJ 0 C) (cJ (show _ < zs.length by omega))) (aH 1 C (bS [147, 139, 130, 121, 112, 103, 94, 85, 76, 70, 58, 51, 47, 46, 29, 16, 13, 12, 11, 10, 9, 8, 3, 2, 1, 0] C (bK (bV (aR (aF ?_)))))))))))))
 refine aO (aH 2 C (eY C C C (dS C (by decide) C C (r := bits .and .i64 (zs.getD 1 0) (wmK x)) C) (aH 3 C (bS [147, 139, 130, 121, 112, 103, 94, 85, 76, 70, 58, 51, 47, 46, 29, 16, 13, 12, 11, 10, 9, 8, 3, 2, 1, 0] C (bK (aR ?_))))))
 refine aN ?_
 have hii : i = (arI (os.getD p oq0).k).toNat := by omega
 have hov : opV (os.getD p oq0) vs zs = zs.getD 1 0 := by unfold opV; (repeat' split) <;> first | rfl | (exfalso; omega) | omega
 exact cH (rs := [.tmp 8, .tmp 9]) (vs := [jI (bits .and .i64 (zs.getD 1 0) (wmK x)), jI ((argE (evE os vs x f) (p + 1) i).2 : Int)]) (post := []) rfl ⟨rfl, rfl, trivial⟩ rfl ((.cons _ (.cons _ .slnil))) ⟨by rw [show evE os vs x (f + 1) p = (bits .and .i64 (opV (os.getD p oq0) vs (argE (evE os vs x f) (p + 1) (arI (os.getD p oq0).k).toNat).1) (wmK x), (argE (evE os vs x f) (p + 1) (arI (os.getD p oq0).k).toNat).2) from rfl, ← hii, ← hz, hov]; rfl, rfl⟩
 refine bS [147, 139, 130, 121, 112, 103, 94, 85, 76, 70, 58, 51, 47, 46, 29, 16, 13, 12, 11, 10, 9, 8, 3, 2, 1, 0] C (bK (aR (aS C (fA (bV (aR (aF (aO (aH 2 C (eY C C C (dS C (by decide) C C (r := bits .and .i64 (zs.getD 2 0) (wmK x)) C) (aH 3 C (bS [147, 139, 130, 121, 112, 103, 94, 85, 76, 70, 58, 51, 47, 46, 29, 16, 13, 12, 11, 10, 9, 8, 3, 2, 1, 0] C (bK ?_)))))))))))))
 refine aR ?_
 refine aN ?_
 have hii : i = (arI (os.getD p oq0).k).toNat := by omega
 have hov : opV (os.getD p oq0) vs zs = zs.getD 2 0 := by unfold opV; (repeat' split) <;> first | rfl | (exfalso; omega) | omega
 exact cH (rs := [.tmp 8, .tmp 9]) (vs := [jI (bits .and .i64 (zs.getD 2 0) (wmK x)), jI ((argE (evE os vs x f) (p + 1) i).2 : Int)]) (post := []) rfl ⟨rfl, rfl, trivial⟩ rfl ((.cons _ (.cons _ .slnil))) ⟨by rw [show evE os vs x (f + 1) p = (bits .and .i64 (opV (os.getD p oq0) vs (argE (evE os vs x f) (p + 1) (arI (os.getD p oq0).k).toNat).1) (wmK x), (argE (evE os vs x f) (p + 1) (arI (os.getD p oq0).k).toNat).2) from rfl, ← hii, ← hz, hov]; rfl, rfl⟩
 refine aH 1 C (bS [139, 130, 121, 112, 103, 94, 85, 76, 70, 58, 51, 47, 46, 29, 16, 13, 12, 11, 10, 9, 8, 3, 2, 1, 0] C (bK (aR (aS C (fA (bV (aR (aF (aO (aH 2 C (eY C C C (dS C (by decide) C C (r := bits .and .i64 0 (wmK x)) C) (aH 3 C (bS [139, 130, 121, 112, 103, 94, 85, 76, 70, 58, 51, 47, 46, 29, 16, 13, 12, 11, 10, 9, 8, 3, 2, 1, 0] C ?_)))))))))))))
 refine bK (aR ?_)
 refine aN ?_
 have hii : i = (arI (os.getD p oq0).k).toNat := by omega
 have hov : opV (os.getD p oq0) vs zs = 0 := by unfold opV; (repeat' split) <;> first | rfl | (exfalso; omega) | omega
 exact cH (rs := [.tmp 8, .tmp 9]) (vs := [jI (bits .and .i64 0 (wmK x)), jI ((argE (evE os vs x f) (p + 1) i).2 : Int)]) (post := []) rfl ⟨rfl, rfl, trivial⟩ rfl ((.cons _ (.cons _ .slnil))) ⟨by rw [show evE os vs x (f + 1) p = (bits .and .i64 (opV (os.getD p oq0) vs (argE (evE os vs x f) (p + 1) (arI (os.getD p oq0).k).toNat).1) (wmK x), (argE (evE os vs x f) (p + 1) (arI (os.getD p oq0).k).toNat).2) from rfl, ← hii, ← hz, hov]; rfl, rfl⟩
theorem jG (os : List Oq) (vs : List Int) {x : Int} (hx : 0 ≤ x ∧ x ≤ 4) : ∀ f p, 0 ≤ (evE os vs x f p).1 ∧ (evE os vs x f p).1 ≤ wmK x
  | 0, p => ⟨Int.le_refl _, (qP hx).1⟩
  | f + 1, p => rH hx
section
variable {os : List Oq} {vs : List Int} {x : Int} {f p : Nat}
theorem ev_0 (h : arI (os.getD p oq0).k = 0) : evE os vs x (f + 1) p = (bits .and .i64 (opV (os.getD p oq0) vs []) (wmK x), p + 1) := by
  show (bits .and .i64 (opV _ vs (argE _ _ _).1) _, (argE _ _ _).2) = _
  rw [h]; rfl
theorem ev_1 (h : arI (os.getD p oq0).k = 1) : evE os vs x (f + 1) p = (bits .and .i64 (opV (os.getD p oq0) vs [(evE os vs x f (p + 1)).1]) (wmK x), (evE os vs x f (p + 1)).2) := by
  show (bits .and .i64 (opV _ vs (argE _ _ _).1) _, (argE _ _ _).2) = _
  rw [h]; rfl
theorem sM (h : arI (os.getD p oq0).k = 2) : evE os vs x (f + 1) p = (bits .and .i64 (opV (os.getD p oq0) vs [(evE os vs x f (p + 1)).1, (evE os vs x f (evE os vs x f (p + 1)).2).1]) (wmK x), (evE os vs x f (evE os vs x f (p + 1)).2).2) := by
  show (bits .and .i64 (opV _ vs (argE _ _ _).1) _, (argE _ _ _).2) = _
  rw [h]; rfl
theorem ev_3 (h : arI (os.getD p oq0).k = 3) : evE os vs x (f + 1) p = (bits .and .i64 (opV (os.getD p oq0) vs [(evE os vs x f (p + 1)).1, (evE os vs x f (evE os vs x f (p + 1)).2).1, (evE os vs x f (evE os vs x f (evE os vs x f (p + 1)).2).2).1]) (wmK x), (evE os vs x f (evE os vs x f (evE os vs x f (p + 1)).2).2).2) := by
  show (bits .and .i64 (opV _ vs (argE _ _ _).1) _, (argE _ _ _).2) = _
  rw [h]; rfl
end
theorem sS {w a b : Int} (hw : 0 ≤ w ∧ w ≤ 4) (ha : 0 ≤ a ∧ a ≤ wmK w) (hb : 0 ≤ b ∧ b ≤ wmK w) : bits .and .i64 (bits .and .i64 a b) (wmK w) = bits .and .i64 a b ∧ bits .and .i64 (bits .or .i64 a b) (wmK w) = bits .or .i64 a b ∧ bits .and .i64 (bits .xor .i64 a b) (wmK w) = bits .xor .i64 a b := by
  have key : ∀ (w : Fin 5) (a b : Fin 16), (a.val : Int) ≤ wmK ((w.val : Nat) : Int) → (b.val : Int) ≤ wmK ((w.val : Nat) : Int) → bits .and .i64 (bits .and .i64 ((a.val : Nat) : Int) ((b.val : Nat) : Int)) (wmK ((w.val : Nat) : Int)) = bits .and .i64 ((a.val : Nat) : Int) ((b.val : Nat) : Int) ∧ bits .and .i64 (bits .or .i64 ((a.val : Nat) : Int) ((b.val : Nat) : Int)) (wmK ((w.val : Nat) : Int)) = bits .or .i64 ((a.val : Nat) : Int) ((b.val : Nat) : Int) ∧ bits .and .i64 (bits .xor .i64 ((a.val : Nat) : Int) ((b.val : Nat) : Int)) (wmK ((w.val : Nat) : Int)) = bits .xor .i64 ((a.val : Nat) : Int) ((b.val : Nat) : Int) := by decide +kernel
  have h15 := (qP hw).2
  have := key ⟨w.toNat, by omega⟩ ⟨a.toNat, by omega⟩ ⟨b.toNat, by omega⟩
  simp only [] at this
  rw [show ((w.toNat : Nat) : Int) = w by omega, show ((a.toNat : Nat) : Int) = a by omega, show ((b.toNat : Nat) : Int) = b by omega] at this
  exact this ha.2 hb.2
theorem wm_1 {w : Int} (hw : 1 ≤ w ∧ w ≤ 4) : 1 ≤ wmK w := by
  unfold wmK
  rcases (by omega : w = 1 ∨ w = 2 ∨ w = 3 ∨ w = 4) with rfl | rfl | rfl | rfl <;> decide
section
variable {o : Oq} {vs : List Int} {a b c x : Int}
theorem op_0 (h : o.k = 0) (L : List Int) : opV o vs L = o.a := by unfold opV; rw [if_pos h]
theorem op_2 (h : o.k = 2) (L : List Int) : opV o vs L = vs.getD o.a.toNat 0 := by unfold opV; rw [if_neg (by omega), if_pos h]
theorem op_3 (h : o.k = 3) (L : List Int) : opV o vs L = bits .and .i64 (vs.getD o.a.toNat 0 / 2 ^ o.b.toNat) 1 := by unfold opV; rw [if_neg (by omega), if_neg (by omega), if_pos h]
theorem op_4 (h : o.k = 4) : opV o vs [a] = bits .xor .i64 (-1) a := by unfold opV; rw [if_neg (by omega), if_neg (by omega), if_neg (by omega), if_pos h]; rfl
theorem kI (h : 5 ≤ o.k ∧ o.k ≤ 11) : opV o vs [a, b] = if o.k = 5 then bits .and .i64 a b else if o.k = 6 then bits .or .i64 a b else if o.k = 7 then bits .xor .i64 a b else if o.k = 8 then a + b else if o.k = 9 then a - b else if o.k = 10 then (if a = b then 1 else 0) else (if a < b then 1 else 0) := by
  unfold opV
  rw [if_neg (by omega), if_neg (by omega), if_neg (by omega), if_neg (by omega)]
  show (if o.k = 5 then bits .and .i64 a b else if o.k = 6 then bits .or .i64 a b else if o.k = 7 then bits .xor .i64 a b else if o.k = 8 then a + b else if o.k = 9 then a - b else if o.k = 10 then (if a = b then 1 else 0) else if o.k = 11 then (if a < b then 1 else 0) else if o.k = 12 then _ else 0) = _
  by_cases h11 : o.k = 11
  · rw [if_pos h11]
  · rw [if_neg h11, if_neg (show ¬ o.k = 12 by omega)]
    by_cases h10 : o.k = 10
    · rw [if_pos h10, if_pos h10]
    · rw [if_neg h10, if_neg h10]
      repeat' split
      all_goals first | rfl | (exfalso; omega)
theorem Bu (h : o.k = 12) : opV o vs [a, b, c] = if a ≠ 0 then b else c := by unfold opV; rw [if_neg (by omega), if_neg (by omega), if_neg (by omega), if_neg (by omega), if_neg (by omega), if_neg (by omega), if_neg (by omega), if_neg (by omega), if_neg (by omega), if_neg (by omega), if_neg (by omega), if_pos h]; rfl
end
theorem nX (b : Bool) (w : World)  :
   Calls Try.prog 156 #[.bool b] w (Ans w (.int .i64 (if b = true then 1 else 0))) := by
 refine bW (N := 4) (args := [.bool b]) Try.func156 C C (bA 1 C (aF (aF (cG 1 C ?_))))
 refine bT (fun h1 => ?_) (fun h1 => ?_)
 refine bQ (aK C (bA 1 C ?_))
 refine aN (aG ?_)
 exact aX C C (by first | rw [if_pos (by assumption)] | rw [if_neg (by simp_all)])
 refine bQ (aS C (cE (bA 1 C ?_)))
 exact aN (aX C C (by first | rw [if_pos (by assumption)] | rw [if_neg (by simp_all)]))
theorem jM (w : World) : Calls Try.prog 156 #[.bool true] w (Ans w (.int .i64 1)) ∧ Calls Try.prog 156 #[.bool false] w (Ans w (.int .i64 0)) := ⟨nX true w, nX false w⟩
theorem xV {k : Int} (h : 0 ≤ arI k) : (arI k = 0 ∧ 0 ≤ k ∧ k ≤ 3) ∨ (k = 4 ∧ arI k = 1) ∨ (k = 12 ∧ arI k = 3) ∨ ((5 ≤ k ∧ k ≤ 11) ∧ arI k = 2) := by
  unfold arI at h ⊢
  split at h
  · omega
  · next q0 =>
    rw [if_neg q0]
    split at h
    · next q1 => rw [if_pos q1]; omega
    · next q1 =>
      rw [if_neg q1]
      split at h
      · next q2 => rw [if_pos q2]; omega
      · next q2 =>
        rw [if_neg q2]
        split at h
        · next q3 => rw [if_pos q3]; omega
        · next q3 => rw [if_neg q3]; omega
theorem sB (os : List Oq) (vs : List Int) (x : Int) (f p : Nat) (v u : Value) (w : World) (hv : RdsW w v 3 os.length (os.flatMap oqC)) (hu : RdsW w u 1 vs.length (vs.map (Value.int .i64))) (hok : OpsP vs.length os) (hp : p < os.length) (hpf : os.length - p ≤ f + 1) (hx : 1 ≤ x ∧ x ≤ 4) (hnp : ¬ HpP os) (IH : ∀ (q : Nat), p < q → q < os.length → ∀ (w2 : World), RdsW w2 v 3 os.length (os.flatMap oqC) → RdsW w2 u 1 vs.length (vs.map (Value.int .i64)) → Calls Try.prog 122 #[v, .int .i64 (q : Int), u, .int .i64 (wmK x)] w2 (Ret w2 (fun u_ p_ => u_ = .tuple #[.int .i64 (evE os vs x f q).1, .int .i64 ((evE os vs x f q).2 : Int)] ∧ p_ = []))) :
   Calls Try.prog 122 #[v, .int .i64 (p : Int), u, .int .i64 (wmK x)] w (Ret w (fun u_ p_ => u_ = .tuple #[.int .i64 (evE os vs x (f + 1) p).1, .int .i64 ((evE os vs x (f + 1) p).2 : Int)] ∧ p_ = [])) := by
 have hv9 := gL hv
 have hl15 := hok.len
 have hx9 : 0 ≤ x ∧ x ≤ 4 := ⟨by omega, hx.2⟩
 have hw15 := qP hx9
 have hw1 := wm_1 hx
 have hgo : ∀ q, p < q → q < os.length → q < ((evE os vs x f) q).2 ∧ ((evE os vs x f) q).2 ≤ os.length ∧ needK os ((evE os vs x f) q).2 = needK os q - 1 := fun q h1 h2 => vI hok vs x f q (by omega) h2
 have har0 := sU hok hp
 have hop := (hok.op p hp).2
 unfold OqP at hop
 have hk1 : (os.getD p oq0).k ≠ 1 := fun h9 => hnp ⟨p, hp, h9⟩
 have harc := xV (k := (os.getD p oq0).k) (by omega)
 have hr1 := jG os vs hx9 f (p + 1)
 have hr2 := jG os vs hx9 f (evE os vs x f (p + 1)).2
 have hr3 := jG os vs hx9 f (evE os vs x f (evE os vs x f (p + 1)).2).2
 refine bW (N := 141) (args := [v, jI (p : Int), u, jI (wmK x)]) Try.func122 C C (bA 2 C (aF (cG 2 C (aI C (cR 3 C C C C (aD hv)) ?_))))
 refine aI C (bL (us := [jI ((os.getD p oq0).k), jI ((os.getD p oq0).a), jI ((os.getD p oq0).b)]) C C C C (aD hv) (by omega) C (bY oqC 3 (fun _ => C) os oq0 (show p < _ by omega) C)) (cL C (bG (z := .agg #[jI 0, jI 0, jI 0]) C C) ?_)
 intro b1
 refine bE (cs' := #[jI ((os.getD p oq0).k), jI ((os.getD p oq0).a), jI ((os.getD p oq0).b)]) (i := 0) (off := 0) (us := [jI ((os.getD p oq0).k), jI ((os.getD p oq0).a), jI ((os.getD p oq0).b)]) C C C C C C C (aB C (aB C (aB C bC))) C C C (bQ (aF (cG 1 C (aI C (dO C C C) (aP 1 C (eM ?_))))))
 refine aI C (bM 0 C C C) (aI C (aC C C C (aA 0 C C)) (bQ (bD (cA ?_))))
 refine bU C C C C C C (fun h2 => ?_) (fun h2 => ?_)
 refine aP 1 C (aK C (cA (aI C (bM 1 C C C) (aI C (aC C C C (aA 0 C C)) (aH 1 C (aI C (dS C (by decide) C C (r := bits .and .i64 ((os.getD p oq0).a) (wmK x)) C) (dA 3 C ?_)))))))
 refine aR (aN ?_)
 refine aE (aG ?_)
 have hev := ev_0 (os := os) (vs := vs) (x := x) (f := f) (p := p) (by omega)
 have hvl : bits .and .i64 ((os.getD p oq0).a) (wmK x) = (evE os vs x (f + 1) p).1 := by rw [hev]; show bits .and .i64 ((os.getD p oq0).a) (wmK x) = bits .and .i64 (opV (os.getD p oq0) vs []) (wmK x); rw [op_0 (by omega)]
 have hps : (p : Int) + 1 = ((evE os vs x (f + 1) p).2 : Int) := by rw [hev]; show (p : Int) + 1 = ((p + 1 : Nat) : Int); omega
 exact cH (rs := [.tmp 8, .tmp 9]) (vs := [jI (bits .and .i64 ((os.getD p oq0).a) (wmK x)), jI ((p : Int) + 1)]) (post := []) rfl ⟨rfl, rfl, trivial⟩ rfl (eO [] rfl) ⟨by rw [hvl, hps]; rfl, rfl⟩
 refine aP 1 C (aS C (cA ?_))
 refine bU C C C C C C (fun h3 => ?_) (fun h3 => ?_)
 refine aP 1 C (aK C (aF (cG 1 C (aI C (bM 1 C C C) (aI C (aC C C C (aA 0 C C)) (aI C (cR 1 C C C C (aD hu)) (aI C (nD C C C (aD hu)) (aH 1 C (aI C (dS C (by decide) C C (r := bits .and .i64 (vs.getD (((os.getD p oq0).a).toNat) 0) (wmK x)) C) ?_)))))))))
 refine aP 3 C ?_
 refine aN (aE ?_)
 refine aG ?_
 have hev := ev_0 (os := os) (vs := vs) (x := x) (f := f) (p := p) (by omega)
 have hvl : bits .and .i64 (vs.getD (((os.getD p oq0).a).toNat) 0) (wmK x) = (evE os vs x (f + 1) p).1 := by rw [hev]; show bits .and .i64 (vs.getD (((os.getD p oq0).a).toNat) 0) (wmK x) = bits .and .i64 (opV (os.getD p oq0) vs []) (wmK x); rw [op_2 (by omega)]
 have hps : (p : Int) + 1 = ((evE os vs x (f + 1) p).2 : Int) := by rw [hev]; show (p : Int) + 1 = ((p + 1 : Nat) : Int); omega
 exact cH (rs := [.tmp 8, .tmp 9]) (vs := [jI (bits .and .i64 (vs.getD (((os.getD p oq0).a).toNat) 0) (wmK x)), jI ((p : Int) + 1)]) (post := []) rfl ⟨rfl, rfl, trivial⟩ rfl (eO [] rfl) ⟨by rw [hvl, hps]; rfl, rfl⟩
 refine aP 1 C (aS C (cA ?_))
 refine bU C C C C C C (fun h4 => ?_) (fun h4 => ?_)
 refine aP 1 C (aK C (aF (sK _ [39, 29, 22, 21, 10, 9, 3, 2, 1, 0] C ?_)))
 refine cI 13 [[], [], [1], [0, 2], [3], [], [5], [4, 6], [7], [], [8, 9], [], [10]] [41, 42, 43, 44, 45, 46, 47, 48, 49, 50, 51, 52, 8] [u, .pointer (some ⟨b1, 0 + 1, none⟩), jI ((os.getD p oq0).a), elP u (((os.getD p oq0).a).toNat * 1), jI (vs.getD (((os.getD p oq0).a).toNat) 0), .pointer (some ⟨b1, 0 + 2, none⟩), jI ((os.getD p oq0).b), jI ((vs.getD (((os.getD p oq0).a).toNat) 0) / 2 ^ ((os.getD p oq0).b : Int).toNat), jI (bits .and .i64 ((vs.getD (((os.getD p oq0).a).toNat) 0) / 2 ^ ((os.getD p oq0).b : Int).toNat) 1), jI (wmK x), jI (bits .and .i64 (bits .and .i64 ((vs.getD (((os.getD p oq0).a).toNat) 0) / 2 ^ ((os.getD p oq0).b : Int).toNat) 1) (wmK x)), jI ((p : Int) + 1), jI (bits .and .i64 (bits .and .i64 ((vs.getD (((os.getD p oq0).a).toNat) 0) / 2 ^ ((os.getD p oq0).b : Int).toNat) 1) (wmK x))] (by kernel_rfl) C ?_ ?_
 exact ⟨bF C (aY C) C, bF C (bM 1 C C C) C, bF C (aC C C C (aA 0 C C)) C, bF C (cR 1 C C C C (aD hu)) C, bF C (nD C C C (aD hu)) C, bF C (bM 2 C C C) C, bF C (aC C C C (aA 0 C C)) C, bF C (yJ C C C (by omega)) C, bF C (dS C (by decide) C C (r := bits .and .i64 ((vs.getD (((os.getD p oq0).a).toNat) 0) / 2 ^ ((os.getD p oq0).b : Int).toNat) 1) C) C, bF C (aY C) C, bF C (dS C (by decide) C C (r := bits .and .i64 (bits .and .i64 ((vs.getD (((os.getD p oq0).a).toNat) 0) / 2 ^ ((os.getD p oq0).b : Int).toNat) 1) (wmK x)) C) C, bF C (aY C) C, bF C (aY C) C, trivial⟩
 simp only [List.drop_succ_cons, List.drop_zero]
 refine aP 1 C ?_
 refine aN (aE ?_)
 refine aG ?_
 have hev := ev_0 (os := os) (vs := vs) (x := x) (f := f) (p := p) (by omega)
 have hvl : bits .and .i64 (bits .and .i64 ((vs.getD (((os.getD p oq0).a).toNat) 0) / 2 ^ ((os.getD p oq0).b : Int).toNat) 1) (wmK x) = (evE os vs x (f + 1) p).1 := by rw [hev]; show bits .and .i64 (bits .and .i64 ((vs.getD (((os.getD p oq0).a).toNat) 0) / 2 ^ ((os.getD p oq0).b : Int).toNat) 1) (wmK x) = bits .and .i64 (opV (os.getD p oq0) vs []) (wmK x); rw [op_3 (by omega)]
 have hps : (p : Int) + 1 = ((evE os vs x (f + 1) p).2 : Int) := by rw [hev]; show (p : Int) + 1 = ((p + 1 : Nat) : Int); omega
 exact cH (rs := [.tmp 8, .tmp 9]) (vs := [jI (bits .and .i64 (bits .and .i64 ((vs.getD (((os.getD p oq0).a).toNat) 0) / 2 ^ ((os.getD p oq0).b : Int).toNat) 1) (wmK x)), jI ((p : Int) + 1)]) (post := []) rfl ⟨rfl, rfl, trivial⟩ rfl (eO [] rfl) ⟨by rw [hvl, hps]; rfl, rfl⟩
 refine aP 1 C (gM C (cK (cA ?_)))
 have hl1 : (p + 1) < os.length := oS hok hp hgo 0 (by omega)
 have hq1 : p < (p + 1) := (kM hok hp hgo 0 (by omega)).1
 refine aH 4 C (fC C C C (aV C C (fun w hm => IH (p + 1) (by omega) hl1 w (hv.below hm.bel) (hu.below hm.bel))) ?_)
 intro v5 p6 R7
 obtain ⟨rfl, rfl⟩ := R7
 refine aP 5 C (eM (aI C (bM 0 C C C) (aI C (aC C C C (aA 0 C C)) ?_)))
 refine bU C C C C C C (fun h8 => ?_) (fun h8 => ?_)
 refine bQ (aK C (aF (cG 1 C (aI C (yH C C) (aH 1 C (aI C (dS C (by decide) C C (r := bits .and .i64 (bits .xor .i64 (-1) ((evE os vs x f (p + 1)).1)) (wmK x)) C) (aP 3 C ?_)))))))
 refine aN (aG ?_)
 have hev := ev_1 (os := os) (vs := vs) (x := x) (f := f) (p := p) (by omega)
 have hvl : bits .and .i64 (bits .xor .i64 (-1) ((evE os vs x f (p + 1)).1)) (wmK x) = (evE os vs x (f + 1) p).1 := by rw [hev]; show bits .and .i64 (bits .xor .i64 (-1) ((evE os vs x f (p + 1)).1)) (wmK x) = bits .and .i64 (opV (os.getD p oq0) vs [(evE os vs x f (p + 1)).1]) (wmK x); rw [op_4 (by omega)]
 have hps : ((evE os vs x f (p + 1)).2 : Int) = ((evE os vs x (f + 1) p).2 : Int) := by rw [hev]
 exact cH (rs := [.tmp 8, .tmp 9]) (vs := [jI (bits .and .i64 (bits .xor .i64 (-1) ((evE os vs x f (p + 1)).1)) (wmK x)), jI ((evE os vs x f (p + 1)).2 : Int)]) (post := []) rfl ⟨rfl, rfl, trivial⟩ rfl (eO [] rfl) ⟨by rw [hvl, hps]; rfl, rfl⟩
 refine bQ (aS C (cE (cA ?_)))
 have hl2 : ((evE os vs x f (p + 1)).2) < os.length := oS hok hp hgo 1 (by omega)
 have hq2 : p < ((evE os vs x f (p + 1)).2) := (kM hok hp hgo 1 (by omega)).1
 refine aH 4 C (fC C C C (aV C C (fun w hm => IH ((evE os vs x f (p + 1)).2) (by omega) hl2 w (hv.below hm.bel) (hu.below hm.bel))) ?_)
 intro v9 p10 R11
 obtain ⟨rfl, rfl⟩ := R11
 refine aP 5 C (eM (aI C (bM 0 C C C) (aI C (aC C C C (aA 0 C C)) (bQ (bD (aF ?_))))))
 refine aO (bU C C C C C C (fun h12 => ?_) (fun h12 => ?_))
 refine aP 1 C (aK C (aF (cG 2 C (aI C (dS C (by decide) C C (r := bits .and .i64 ((evE os vs x f (p + 1)).1) ((evE os vs x f ((evE os vs x f (p + 1)).2)).1)) C) (aP 3 C ?_)))))
 refine aN (aE ?_)
 refine aG ?_
 have hev := sM (os := os) (vs := vs) (x := x) (f := f) (p := p) (by omega)
 have hvl : bits .and .i64 ((evE os vs x f (p + 1)).1) ((evE os vs x f ((evE os vs x f (p + 1)).2)).1) = (evE os vs x (f + 1) p).1 := by rw [hev]; show bits .and .i64 ((evE os vs x f (p + 1)).1) ((evE os vs x f ((evE os vs x f (p + 1)).2)).1) = bits .and .i64 (opV (os.getD p oq0) vs [(evE os vs x f (p + 1)).1, (evE os vs x f ((evE os vs x f (p + 1)).2)).1]) (wmK x); rw [kI (by omega), if_pos (by omega)]; exact (sS hx9 (jG os vs hx9 f _) (jG os vs hx9 f _)).1.symm
 have hps : ((evE os vs x f ((evE os vs x f (p + 1)).2)).2 : Int) = ((evE os vs x (f + 1) p).2 : Int) := by rw [hev]
 exact cH (rs := [.tmp 8, .tmp 9]) (vs := [jI (bits .and .i64 ((evE os vs x f (p + 1)).1) ((evE os vs x f ((evE os vs x f (p + 1)).2)).1)), jI ((evE os vs x f ((evE os vs x f (p + 1)).2)).2 : Int)]) (post := []) rfl ⟨rfl, rfl, trivial⟩ rfl (eO [] rfl) ⟨by rw [hvl, hps]; rfl, rfl⟩
 refine aP 1 C (aS C (cA ?_))
 refine bU C C C C C C (fun h13 => ?_) (fun h13 => ?_)
 refine aP 1 C (aK C (aF (cG 2 C (aI C (dS C (by decide) C C (r := bits .or .i64 ((evE os vs x f (p + 1)).1) ((evE os vs x f ((evE os vs x f (p + 1)).2)).1)) C) (aP 3 C ?_)))))
 refine aN (aE ?_)
 refine aG ?_
 have hev := sM (os := os) (vs := vs) (x := x) (f := f) (p := p) (by omega)
 have hvl : bits .or .i64 ((evE os vs x f (p + 1)).1) ((evE os vs x f ((evE os vs x f (p + 1)).2)).1) = (evE os vs x (f + 1) p).1 := by rw [hev]; show bits .or .i64 ((evE os vs x f (p + 1)).1) ((evE os vs x f ((evE os vs x f (p + 1)).2)).1) = bits .and .i64 (opV (os.getD p oq0) vs [(evE os vs x f (p + 1)).1, (evE os vs x f ((evE os vs x f (p + 1)).2)).1]) (wmK x); rw [kI (by omega), if_neg (by omega), if_pos (by omega)]; exact (sS hx9 (jG os vs hx9 f _) (jG os vs hx9 f _)).2.1.symm
 have hps : ((evE os vs x f ((evE os vs x f (p + 1)).2)).2 : Int) = ((evE os vs x (f + 1) p).2 : Int) := by rw [hev]
 exact cH (rs := [.tmp 8, .tmp 9]) (vs := [jI (bits .or .i64 ((evE os vs x f (p + 1)).1) ((evE os vs x f ((evE os vs x f (p + 1)).2)).1)), jI ((evE os vs x f ((evE os vs x f (p + 1)).2)).2 : Int)]) (post := []) rfl ⟨rfl, rfl, trivial⟩ rfl (eO [] rfl) ⟨by rw [hvl, hps]; rfl, rfl⟩
 refine aP 1 C (aS C (cA ?_))
 refine bU C C C C C C (fun h14 => ?_) (fun h14 => ?_)
 refine aP 1 C (aK C (aF (cG 2 C (aI C (dS C (by decide) C C (r := bits .xor .i64 ((evE os vs x f (p + 1)).1) ((evE os vs x f ((evE os vs x f (p + 1)).2)).1)) C) (aP 3 C ?_)))))
 refine aN (aE ?_)
 refine aG ?_
 have hev := sM (os := os) (vs := vs) (x := x) (f := f) (p := p) (by omega)
 have hvl : bits .xor .i64 ((evE os vs x f (p + 1)).1) ((evE os vs x f ((evE os vs x f (p + 1)).2)).1) = (evE os vs x (f + 1) p).1 := by rw [hev]; show bits .xor .i64 ((evE os vs x f (p + 1)).1) ((evE os vs x f ((evE os vs x f (p + 1)).2)).1) = bits .and .i64 (opV (os.getD p oq0) vs [(evE os vs x f (p + 1)).1, (evE os vs x f ((evE os vs x f (p + 1)).2)).1]) (wmK x); rw [kI (by omega), if_neg (by omega), if_neg (by omega), if_pos (by omega)]; exact (sS hx9 (jG os vs hx9 f _) (jG os vs hx9 f _)).2.2.symm
 have hps : ((evE os vs x f ((evE os vs x f (p + 1)).2)).2 : Int) = ((evE os vs x (f + 1) p).2 : Int) := by rw [hev]
 exact cH (rs := [.tmp 8, .tmp 9]) (vs := [jI (bits .xor .i64 ((evE os vs x f (p + 1)).1) ((evE os vs x f ((evE os vs x f (p + 1)).2)).1)), jI ((evE os vs x f ((evE os vs x f (p + 1)).2)).2 : Int)]) (post := []) rfl ⟨rfl, rfl, trivial⟩ rfl (eO [] rfl) ⟨by rw [hvl, hps]; rfl, rfl⟩
 refine aP 1 C (aS C (cA ?_))
 refine bU C C C C C C (fun h15 => ?_) (fun h15 => ?_)
 refine aP 1 C (aK C (aF (cG 2 C (aI C (dO C C C) (aH 1 C (aI C (dS C (by decide) C C (r := bits .and .i64 (((evE os vs x f (p + 1)).1) + ((evE os vs x f ((evE os vs x f (p + 1)).2)).1)) (wmK x)) C) (dA 3 C ?_)))))))
 refine aR (aN ?_)
 refine aE (aG ?_)
 have hev := sM (os := os) (vs := vs) (x := x) (f := f) (p := p) (by omega)
 have hvl : bits .and .i64 (((evE os vs x f (p + 1)).1) + ((evE os vs x f ((evE os vs x f (p + 1)).2)).1)) (wmK x) = (evE os vs x (f + 1) p).1 := by rw [hev]; show bits .and .i64 (((evE os vs x f (p + 1)).1) + ((evE os vs x f ((evE os vs x f (p + 1)).2)).1)) (wmK x) = bits .and .i64 (opV (os.getD p oq0) vs [(evE os vs x f (p + 1)).1, (evE os vs x f ((evE os vs x f (p + 1)).2)).1]) (wmK x); rw [kI (by omega), if_neg (by omega), if_neg (by omega), if_neg (by omega), if_pos (by omega)]
 have hps : ((evE os vs x f ((evE os vs x f (p + 1)).2)).2 : Int) = ((evE os vs x (f + 1) p).2 : Int) := by rw [hev]
 exact cH (rs := [.tmp 8, .tmp 9]) (vs := [jI (bits .and .i64 (((evE os vs x f (p + 1)).1) + ((evE os vs x f ((evE os vs x f (p + 1)).2)).1)) (wmK x)), jI ((evE os vs x f ((evE os vs x f (p + 1)).2)).2 : Int)]) (post := []) rfl ⟨rfl, rfl, trivial⟩ rfl (eO [] rfl) ⟨by rw [hvl, hps]; rfl, rfl⟩
 refine aP 1 C (aS C (cA ?_))
 refine bU C C C C C C (fun h16 => ?_) (fun h16 => ?_)
 refine aP 1 C (aK C (aF (cG 2 C (aI C (nC C C C) (aH 1 C (aI C (dS C (by decide) C C (r := bits .and .i64 (((evE os vs x f (p + 1)).1) - ((evE os vs x f ((evE os vs x f (p + 1)).2)).1)) (wmK x)) C) (dA 3 C ?_)))))))
 refine aR (aN ?_)
 refine aE (aG ?_)
 have hev := sM (os := os) (vs := vs) (x := x) (f := f) (p := p) (by omega)
 have hvl : bits .and .i64 (((evE os vs x f (p + 1)).1) - ((evE os vs x f ((evE os vs x f (p + 1)).2)).1)) (wmK x) = (evE os vs x (f + 1) p).1 := by rw [hev]; show bits .and .i64 (((evE os vs x f (p + 1)).1) - ((evE os vs x f ((evE os vs x f (p + 1)).2)).1)) (wmK x) = bits .and .i64 (opV (os.getD p oq0) vs [(evE os vs x f (p + 1)).1, (evE os vs x f ((evE os vs x f (p + 1)).2)).1]) (wmK x); rw [kI (by omega), if_neg (by omega), if_neg (by omega), if_neg (by omega), if_neg (by omega), if_pos (by omega)]
 have hps : ((evE os vs x f ((evE os vs x f (p + 1)).2)).2 : Int) = ((evE os vs x (f + 1) p).2 : Int) := by rw [hev]
 exact cH (rs := [.tmp 8, .tmp 9]) (vs := [jI (bits .and .i64 (((evE os vs x f (p + 1)).1) - ((evE os vs x f ((evE os vs x f (p + 1)).2)).1)) (wmK x)), jI ((evE os vs x f ((evE os vs x f (p + 1)).2)).2 : Int)]) (post := []) rfl ⟨rfl, rfl, trivial⟩ rfl (eO [] rfl) ⟨by rw [hvl, hps]; rfl, rfl⟩
 refine aP 1 C (aS C (cA ?_))
 refine bU C C C C C C (fun h17 => ?_) (fun h17 => ?_)
 refine aP 1 C (aK C (aF (cG 2 C ?_)))
 refine bU C C C C C C (fun h18 => ?_) (fun h18 => ?_)
 refine dW C (aV C C (fun w hm => bJ (jM w).1)) (aP 3 C ?_)
 refine aN (aE ?_)
 refine aG ?_
 have hev := sM (os := os) (vs := vs) (x := x) (f := f) (p := p) (by omega)
 have hvl : 1 = (evE os vs x (f + 1) p).1 := by rw [hev]; show 1 = bits .and .i64 (opV (os.getD p oq0) vs [(evE os vs x f (p + 1)).1, (evE os vs x f ((evE os vs x f (p + 1)).2)).1]) (wmK x); rw [kI (by omega), if_neg (by omega), if_neg (by omega), if_neg (by omega), if_neg (by omega), if_neg (by omega), if_pos (by omega), if_pos (by omega)]; exact (jH hx9 ⟨by omega, by omega⟩).symm
 have hps : ((evE os vs x f ((evE os vs x f (p + 1)).2)).2 : Int) = ((evE os vs x (f + 1) p).2 : Int) := by rw [hev]
 exact cH (rs := [.tmp 8, .tmp 9]) (vs := [jI 1, jI ((evE os vs x f ((evE os vs x f (p + 1)).2)).2 : Int)]) (post := []) rfl ⟨rfl, rfl, trivial⟩ rfl (eO [] rfl) ⟨by rw [hvl, hps]; rfl, rfl⟩
 refine dW C (aV C C (fun w hm => bJ (jM w).2)) (aP 3 C ?_)
 refine aN (aE ?_)
 refine aG ?_
 have hev := sM (os := os) (vs := vs) (x := x) (f := f) (p := p) (by omega)
 have hvl : 0 = (evE os vs x (f + 1) p).1 := by rw [hev]; show 0 = bits .and .i64 (opV (os.getD p oq0) vs [(evE os vs x f (p + 1)).1, (evE os vs x f ((evE os vs x f (p + 1)).2)).1]) (wmK x); rw [kI (by omega), if_neg (by omega), if_neg (by omega), if_neg (by omega), if_neg (by omega), if_neg (by omega), if_pos (by omega), if_neg (by omega)]; exact (jH hx9 ⟨by omega, by omega⟩).symm
 have hps : ((evE os vs x f ((evE os vs x f (p + 1)).2)).2 : Int) = ((evE os vs x (f + 1) p).2 : Int) := by rw [hev]
 exact cH (rs := [.tmp 8, .tmp 9]) (vs := [jI 0, jI ((evE os vs x f ((evE os vs x f (p + 1)).2)).2 : Int)]) (post := []) rfl ⟨rfl, rfl, trivial⟩ rfl (eO [] rfl) ⟨by rw [hvl, hps]; rfl, rfl⟩
 refine aP 1 C (aS C (cA ?_))
 refine bU C C C C C C (fun h19 => ?_) (fun h19 => ?_)
 refine aP 1 C (aK C (aF (cG 2 C ?_)))
 refine bN C C C C C C (fun h20 => ?_) (fun h20 => ?_)
 refine dW C (aV C C (fun w hm => bJ (jM w).1)) (aP 3 C ?_)
 refine aN (aE ?_)
 refine aG ?_
 have hev := sM (os := os) (vs := vs) (x := x) (f := f) (p := p) (by omega)
 have hvl : 1 = (evE os vs x (f + 1) p).1 := by rw [hev]; show 1 = bits .and .i64 (opV (os.getD p oq0) vs [(evE os vs x f (p + 1)).1, (evE os vs x f ((evE os vs x f (p + 1)).2)).1]) (wmK x); rw [kI (by omega), if_neg (by omega), if_neg (by omega), if_neg (by omega), if_neg (by omega), if_neg (by omega), if_neg (by omega), if_pos (by omega)]; exact (jH hx9 ⟨by omega, by omega⟩).symm
 have hps : ((evE os vs x f ((evE os vs x f (p + 1)).2)).2 : Int) = ((evE os vs x (f + 1) p).2 : Int) := by rw [hev]
 exact cH (rs := [.tmp 8, .tmp 9]) (vs := [jI 1, jI ((evE os vs x f ((evE os vs x f (p + 1)).2)).2 : Int)]) (post := []) rfl ⟨rfl, rfl, trivial⟩ rfl (eO [] rfl) ⟨by rw [hvl, hps]; rfl, rfl⟩
 refine dW C (aV C C (fun w hm => bJ (jM w).2)) (aP 3 C ?_)
 refine aN (aE ?_)
 refine aG ?_
 have hev := sM (os := os) (vs := vs) (x := x) (f := f) (p := p) (by omega)
 have hvl : 0 = (evE os vs x (f + 1) p).1 := by rw [hev]; show 0 = bits .and .i64 (opV (os.getD p oq0) vs [(evE os vs x f (p + 1)).1, (evE os vs x f ((evE os vs x f (p + 1)).2)).1]) (wmK x); rw [kI (by omega), if_neg (by omega), if_neg (by omega), if_neg (by omega), if_neg (by omega), if_neg (by omega), if_neg (by omega), if_neg (by omega)]; exact (jH hx9 ⟨by omega, by omega⟩).symm
 have hps : ((evE os vs x f ((evE os vs x f (p + 1)).2)).2 : Int) = ((evE os vs x (f + 1) p).2 : Int) := by rw [hev]
 exact cH (rs := [.tmp 8, .tmp 9]) (vs := [jI 0, jI ((evE os vs x f ((evE os vs x f (p + 1)).2)).2 : Int)]) (post := []) rfl ⟨rfl, rfl, trivial⟩ rfl (eO [] rfl) ⟨by rw [hvl, hps]; rfl, rfl⟩
 refine aP 1 C (gM C (cK (cA ?_)))
 have hl3 : ((evE os vs x f ((evE os vs x f (p + 1)).2)).2) < os.length := oS hok hp hgo 2 (by omega)
 have hq3 : p < ((evE os vs x f ((evE os vs x f (p + 1)).2)).2) := (kM hok hp hgo 2 (by omega)).1
 refine aH 4 C (fC C C C (aV C C (fun w hm => IH ((evE os vs x f ((evE os vs x f (p + 1)).2)).2) (by omega) hl3 w (hv.below hm.bel) (hu.below hm.bel))) ?_)
 intro v21 p22 R23
 obtain ⟨rfl, rfl⟩ := R23
 refine aP 5 C (aF (aF (cG 1 C ?_)))
 refine fZ C C C C C C (fun h24 => ?_) (fun h24 => ?_)
 refine bQ (aK C (bA 4 C ?_))
 refine aN (aG ?_)
 have hev := ev_3 (os := os) (vs := vs) (x := x) (f := f) (p := p) (by omega)
 have hvl : (evE os vs x f ((evE os vs x f (p + 1)).2)).1 = (evE os vs x (f + 1) p).1 := by rw [hev]; show (evE os vs x f ((evE os vs x f (p + 1)).2)).1 = bits .and .i64 (opV (os.getD p oq0) vs [(evE os vs x f (p + 1)).1, (evE os vs x f ((evE os vs x f (p + 1)).2)).1, (evE os vs x f ((evE os vs x f ((evE os vs x f (p + 1)).2)).2)).1]) (wmK x); rw [Bu (by omega), if_pos (by omega)]; exact (jH hx9 (jG os vs hx9 f _)).symm
 have hps : ((evE os vs x f ((evE os vs x f ((evE os vs x f (p + 1)).2)).2)).2 : Int) = ((evE os vs x (f + 1) p).2 : Int) := by rw [hev]
 exact cH (rs := [.tmp 8, .tmp 9]) (vs := [jI ((evE os vs x f ((evE os vs x f (p + 1)).2)).1), jI ((evE os vs x f ((evE os vs x f ((evE os vs x f (p + 1)).2)).2)).2 : Int)]) (post := []) rfl ⟨rfl, rfl, trivial⟩ rfl (eO [] rfl) ⟨by rw [hvl, hps]; rfl, rfl⟩
 refine bQ (aS C (cE (bA 4 C ?_)))
 refine aN ?_
 have hev := ev_3 (os := os) (vs := vs) (x := x) (f := f) (p := p) (by omega)
 have hvl : (evE os vs x f ((evE os vs x f ((evE os vs x f (p + 1)).2)).2)).1 = (evE os vs x (f + 1) p).1 := by rw [hev]; show (evE os vs x f ((evE os vs x f ((evE os vs x f (p + 1)).2)).2)).1 = bits .and .i64 (opV (os.getD p oq0) vs [(evE os vs x f (p + 1)).1, (evE os vs x f ((evE os vs x f (p + 1)).2)).1, (evE os vs x f ((evE os vs x f ((evE os vs x f (p + 1)).2)).2)).1]) (wmK x); rw [Bu (by omega), if_neg (by omega)]; exact (jH hx9 (jG os vs hx9 f _)).symm
 have hps : ((evE os vs x f ((evE os vs x f ((evE os vs x f (p + 1)).2)).2)).2 : Int) = ((evE os vs x (f + 1) p).2 : Int) := by rw [hev]
 exact cH (rs := [.tmp 8, .tmp 9]) (vs := [jI ((evE os vs x f ((evE os vs x f ((evE os vs x f (p + 1)).2)).2)).1), jI ((evE os vs x f ((evE os vs x f ((evE os vs x f (p + 1)).2)).2)).2 : Int)]) (post := []) rfl ⟨rfl, rfl, trivial⟩ rfl (eO [] rfl) ⟨by rw [hvl, hps]; rfl, rfl⟩
theorem kW (os : List Oq) (vs : List Int) (x : Int) (v u : Value) (hok : OpsP vs.length os) (hx : 1 ≤ x ∧ x ≤ 4) (hnp : ¬ HpP os) : ∀ (f p : Nat), os.length - p ≤ f → p < os.length → ∀ (w : World), RdsW w v 3 os.length (os.flatMap oqC) → RdsW w u 1 vs.length (vs.map (Value.int .i64)) →
    Calls Try.prog 122 #[v, .int .i64 (p : Int), u, .int .i64 (wmK x)] w (Ret w (fun u_ p_ => u_ = .tuple #[.int .i64 (evE os vs x f p).1, .int .i64 ((evE os vs x f p).2 : Int)] ∧ p_ = []))
  | 0, p, h, hp, w, hv, hu => by omega
  | f + 1, p, h, hp, w, hv, hu => sB os vs x f p v u w hv hu hok hp h hx hnp (fun q h1 h2 w2 hv2 hu2 => kW os vs x v u hok hx hnp f q (by omega) h2 w2 hv2 hu2)
theorem mB (os : List Oq) (vs : List Int) (x : Int) (v u : Value) (hok : OpsP vs.length os) (hx : 0 ≤ x ∧ x ≤ 4) : ∀ (f p : Nat), os.length - p ≤ f → p < os.length → ∀ (w : World), RdsW w v 3 os.length (os.flatMap oqC) → RdsW w u 1 vs.length (vs.map (Value.int .i64)) →
    Calls Try.prog 104 #[v, .int .i64 (p : Int), u, .int .i64 x] w (Ret w (fun u_ p_ => u_ = .tuple #[.int .i64 (evE os vs x f p).1, .int .i64 ((evE os vs x f p).2 : Int)] ∧ p_ = []))
  | 0, p, h, hp, w, hv, hu => by omega
  | f + 1, p, h, hp, w, hv, hu => uH os vs x f p v u w hv hu hok hp h hx (fun q h1 h2 w2 hv2 hu2 => mB os vs x v u hok hx f q (by omega) h2 w2 hv2 hu2)
theorem jN (m : Md) (w : World) (hr : RdsMd w m) :
   Calls Try.prog 66 #[.agg #[m.sv, m.av, m.iv, m.mv]] w (Ret w (fun u_ p_ => ∃ v, u_ = .tuple #[v, .bool (pB (EoP m))] ∧ p_ = [rI9 3 v (eoK m)])) := by
 have hs9 := gL hr.s
 have hg9 := gL hr.g
 have hx9 := gL hr.x
 refine bW (N := 101) (args := [.agg #[m.sv, m.av, m.iv, m.mv]]) Try.func66 C C (cA ?_)
 refine cL C (cY C C) ?_
 intro b1
 refine eC 3 1 (aP 2 C (eM (aI C (bM 2 C C C) (aI C (aC C C C (aA 1 C C)) (aI C (dL C C C (aD ((hr).x))) ?_)))))
 refine eS C C C C C C (fun h3 => ?_) (fun h3 => ?_)
 refine aP 7 C (aK C (cA ?_))
 refine eC 3 1 (aP 2 C ?_)
 refine aN (aG ?_)
 have hE : ¬ EoP m := fun hp => by first | (have := hp.1; omega) | exact absurd hp.2.1 (by assumption) | exact Can.stop (m := m) (T := zs) (fun e => by have h9 : zs.length = 0 := (by rw [e]; rfl); omega) (fun q hq => hnf q (by omega)) (hp.2.2.sub hzs)
 exact cH (rs := [.tmp 2, .tmp 3]) (vs := [.slice none 0 0, .bool false]) (post := [rowE 3 1 (.slice none 0 0) 0 ([])]) rfl ⟨rfl, rfl, trivial⟩ rfl (eO [0] rfl) ⟨_, by rw [bX hE]; rfl, by rw [vJ hE]; rfl⟩
 refine aH 1 C (aI C (aW (cs := [m.sv, m.av, m.iv, m.mv]) C C C C C (aT 1 C 0 C)) ?_)
 refine eA C (bB (z := .agg #[.slice none 0 0, .slice none 0 0, .slice none 0 0, .slice none 0 0]) (s := 4) (cs := [m.sv, m.av, m.iv, m.mv]) C Try.underlying24 C (by decide) C (by kernel_rfl) C) ?_
 intro g5
 refine aI C (cU (cs := #[.slice (some ⟨g5, 0, none⟩) 1 1]) C C C) (dW C (aV C C (fun w hm => bJ (kA [m] (.slice (some ⟨g5, 0, none⟩) 1 1) w ⟨aJ 0 C w hm, fun m9 h9 => by obtain rfl := List.mem_singleton.1 h9; exact hr.below hm.bel⟩))) ?_)
 refine bT (fun h6 => ?_) (fun h6 => ?_)
 have h6p := fK h6
 refine aP 2 C (aS C (cE (cA ?_)))
 have hdes : DesP [m] := by assumption
 have hgs : ∀ i, i < m.gs.length → AsP m (m.gs.getD i as0) := fun i hi => hdes.gs1 hi
 obtain ⟨hl1, hl2, hl3, hl4⟩ := hdes.len1
 refine eC 3 1 (aH 1 C ?_)
 refine eC 3 1 (aP 1 C (eM (aI C (bM 1 C C C) (aI C (aC C C C (aA 4 C C)) (aI C (dL C C C (aD ((hr).g))) (aP 1 C ?_))))))
 refine bD ?_
 refine jC (α := Nat) (β := Value) (γ := List Int) [0, 1, 2, 3, 5, 24, 26, 27] C (fun i gt zs => [rowE 3 1 (.slice none 0 0) 0 ([]), rI9 3 gt zs, rowE 35 4 (.slice (some ⟨g5, 0, none⟩) 1 1) 1 ([m.sv, m.av, m.iv, m.mv]), rowE 3 1 (.slice none 0 0) 0 ([]), boxE b1 #[m.sv, m.av, m.iv, m.mv] 35]) (fun i gt zs => [(4, gt), (28, jI (i : Int))]) (fun i gt zs => i ≤ m.gs.length ∧ zs = todoA m i) (fun i gt zs => m.gs.length - i) 0 _ [] ⟨Nat.zero_le _, C⟩ (cN C) (eT C) ?_
 intro i gt zs hi9
 obtain ⟨hi, hz⟩ := hi9
 have hzl : zs.length ≤ i := by rw [hz]; exact mE _ _
 refine cA ?_
 refine bN C C C C C C (fun h10 => ?_) (fun h10 => ?_)
 refine bQ (jX C (cE (fD (aF (cG 1 C (aI C (cR 2 C C C C (aD ((hr).g))) ?_))))))
 refine aI C (bL (us := [jI ((m.gs.getD i as0).t), (m.gs.getD i as0).ov]) C C C C (aD ((hr).g)) (by omega) C (bY asC 2 (fun _ => C) m.gs as0 (show i < _ by omega) C)) (cL C (bG (z := .agg #[jI 0, .slice none 0 0]) C C) ?_)
 intro b11
 refine aH 1 C (bE (cs' := #[jI ((m.gs.getD i as0).t), (m.gs.getD i as0).ov]) (i := 0) (off := 0) (us := [jI ((m.gs.getD i as0).t), (m.gs.getD i as0).ov]) C C C C C C C (aB C (aB (hr.o.at (k := i) (by omega)).one bC)) C C C ?_)
 refine bQ (cA ?_)
 have htg := (hgs i (by omega)).tgt
 refine aI C (bM 0 C C C) (aI C (aC C C C (aA 5 C C)) (aI C (bM 0 C C C) (aI C (aC C C C (aA 0 C C)) (aI C (cR 3 C C C C (aD ((hr).s))) (aI C (aZ (k0 := 0) C C C (aD ((hr).s)) (by omega)) ?_)))))
 refine aI C (aQ (u := jI ((m.ss.getD (((m.gs.getD i as0).t).toNat) sg0).k)) C C C (aD ((hr).s)) ((bR sgC 3 (fun _ => C) m.ss sg0 (show ((m.gs.getD i as0).t).toNat < _ by omega) (by decide)).trans C)) (fZ C C C C C C (fun h12 => ?_) (fun h12 => ?_))
 refine bQ (aK C (cG 2 C ?_))
 refine eA C (bB (z := jI 0) (s := 1) (cs := (mI [(i : Int)])) C Try.underlying48 C (by decide) C (by kernel_rfl) C) ?_
 intro g13
 refine cW (i := 3) (z := jI 0) (bytes := 8) C C C C Try.underlying48 (by kernel_rfl) C C C C (aJ 0 C) (cQ _) (by first | omega | (simp; done) | (simp; omega)) (cM zs ([(i : Int)])) (dP zs ([(i : Int)])) (fun _ => C) ?_
 intro v14
 refine dA 1 C (cK (aO (aI C (dO C C C) (dA 1 C ?_))))
 exact cO (i + 1) v14 (zs ++ ([(i : Int)])) ⟨by omega, by rw [hz]; exact nF (by omega)⟩ (by omega) (cN rfl) (eO [2, 0, 0, 0, 0] rfl)
 refine bQ (gM C (cK (aO (aI C (dO C C C) (dA 1 C ?_)))))
 exact cO (i + 1) gt zs ⟨by omega, hz.trans (oW (by omega))⟩ (by omega) (cN C) (eO [1, 0, 0, 0, 0] C)
 refine bQ (kD C ?_)
 refine bI (dC ?_)
 refine aM (aR (fD ?_))
 refine lZ (α := Value) (β := List Int) (γ := Value) (δ := List Int) [0, 1, 2, 3, 24, 26, 27, 28, 29] C (fun gu zs go ys => [rI9 3 go ys, rI9 3 gu zs, rowE 35 4 (.slice (some ⟨g5, 0, none⟩) 1 1) 1 ([m.sv, m.av, m.iv, m.mv]), rowE 3 1 (.slice none 0 0) 0 ([]), boxE b1 #[m.sv, m.av, m.iv, m.mv] 35]) (fun gu zs go ys => [(4, gu), (5, go)]) (fun gu zs go ys => (∀ x ∈ zs, x ∈ (todoA m m.gs.length)) ∧ (Can m zs → Can m (todoA m m.gs.length)) ∧ ys ++ ordK m zs = ordK m (todoA m m.gs.length) ∧ ys.length + zs.length ≤ 30) (fun gu zs go ys => zs.length) _ zs _ [] (by have e9 : i = m.gs.length := (by omega); rw [e9] at hz; rw [hz] at hzl ⊢; exact ⟨fun x hx => hx, fun h => h, rfl, by simp only [List.length_nil]; omega⟩) (cN C) (eT C) ?_
 intro gu zs go ys hi15
 obtain ⟨hzs, hbk, hod, hln⟩ := hi15
 have hin : ∀ x ∈ zs, 0 ≤ x ∧ x < m.gs.length := fun x hx => by obtain ⟨j, h1, -, rfl⟩ := fP.1 (hzs x hx); omega
 refine aF (aF (cG 1 C (aI C (dL C C C (aJ 1 C)) ?_)))
 refine eS C C C C C C (fun h16 => ?_) (fun h16 => ?_)
 refine bQ (aK C (cE (bD (bA 1 C (aF ?_)))))
 refine aF (cG 1 C (aI C (dL C C C (aJ 1 C)) (aP 1 C (bD ?_))))
 refine gK (α := Nat) [0, 1, 2, 3, 4, 5, 8, 24, 26, 27, 28, 29, 48, 49, 50] C (fun k => [rI9 3 go ys, rI9 3 gu zs, rowE 35 4 (.slice (some ⟨g5, 0, none⟩) 1 1) 1 ([m.sv, m.av, m.iv, m.mv]), rowE 3 1 (.slice none 0 0) 0 ([]), boxE b1 #[m.sv, m.av, m.iv, m.mv] 35]) (fun k => [(51, jI (k : Int))]) (fun k => k ≤ zs.length ∧ ∀ q, q < k → ¬ FreeP m zs (zs.getD q 0)) (fun k => zs.length - k) 0 ⟨Nat.zero_le _, fun q hq => absurd hq (by omega)⟩ (cN C) (eT C) ?_
 intro k hi17
 obtain ⟨hk, hnf⟩ := hi17
 refine cA ?_
 refine bN C C C C C C (fun h18 => ?_) (fun h18 => ?_)
 refine bQ (jX C (cE (fD (cA ?_))))
 have hkz := hin _ (cV (d := (0 : Int)) (show k < zs.length by omega))
 refine aH 1 C (aI C (cR 1 C C C C (aJ 1 C)) (aI C (qD C C C (aJ 1 C)) (aP 2 C (bA 1 C (aF ?_)))))
 refine aF (cG 1 C (aI C (dL C C C (aJ 1 C)) (aP 1 C (bD ?_))))
 refine jZ (α := Nat) (β := Bool) [0, 1, 2, 3, 4, 5, 8, 9, 10, 24, 26, 27, 28, 29, 48, 49, 50, 51, 52, 56, 57] C (fun j c => [rI9 3 go ys, rI9 3 gu zs, rowE 35 4 (.slice (some ⟨g5, 0, none⟩) 1 1) 1 ([m.sv, m.av, m.iv, m.mv]), rowE 3 1 (.slice none 0 0) 0 ([]), boxE b1 #[m.sv, m.av, m.iv, m.mv] 35]) (fun j c => [(11, .bool c), (58, jI (j : Int))]) (fun j c => j ≤ zs.length ∧ c = frB m zs (zs.getD k 0) j) (fun j c => zs.length - j) 0 true ⟨Nat.zero_le _, frB_0.symm⟩ (cN C) (eT C) ?_
 intro j c hi19
 obtain ⟨hj, hcf⟩ := hi19
 refine cA ?_
 refine bN C C C C C C (fun h20 => ?_) (fun h20 => ?_)
 refine bQ (jX C (cE (fD (cA ?_))))
 have hjz := hin _ (cV (d := (0 : Int)) (show j < zs.length by omega))
 refine aI C (cR 1 C C C C (aJ 1 C)) (aI C (qD C C C (aJ 1 C)) (aP 1 C ?_))
 rcases Bool.eq_false_or_eq_true (c) with hb21 | hb21
 have hfr : j = zs.length → frB m zs (zs.getD k 0) zs.length = true := fun e9 => by rw [← e9, ← hcf]; exact hb21
 rcases Bool.eq_false_or_eq_true (pB (RdS (m.gs.getD (zs.getD k 0).toNat as0).os ((m.gs.getD ((zs.getD j 0).toNat) as0).t))) with hb22 | hb22
 have hb22p := fK hb22
 refine cI 17 [[], [0], [1], [1, 2], [1], [1, 3, 4], [1, 5], [1, 6], [1], [1, 8], [1], [1, 9, 10], [1, 11], [1, 12], [1, 7, 13], [1, 14], [1, 15]] [62, 63, 64, 65, 66, 67, 68, 69, 70, 71, 72, 73, 74, 75, 76, 77, 78] [.bool true, .bool true, .pointer (some ⟨b1, 0 + 1, none⟩), m.av, jI (zs.getD k 0), elP m.av ((zs.getD k 0).toNat * 2), elP m.av ((zs.getD k 0).toNat * 2 + 1), (m.gs.getD ((zs.getD k 0).toNat) as0).ov, .pointer (some ⟨b1, 0 + 1, none⟩), m.av, jI (zs.getD j 0), elP m.av ((zs.getD j 0).toNat * 2), elP m.av ((zs.getD j 0).toNat * 2 + 0), jI ((m.gs.getD ((zs.getD j 0).toNat) as0).t), .bool true, .bool false, .bool false] (by kernel_rfl) C ?_ ?_
 exact ⟨.inl ⟨C, gG (aY C) hb21⟩, bF C (aY C) C, bF C (bM 1 C C C) C, bF C (aC C C C (aA 4 C C)) C, bF C (aY C) C, bF C (cR 2 C C C C (aD ((hr).g))) C, bF C (aZ (k0 := 1) C C C (aD ((hr).g)) (by omega)) C, bF C (aQ (u := (m.gs.getD ((zs.getD k 0).toNat) as0).ov) C C C (aD ((hr).g)) ((bR asC 2 (fun _ => C) m.gs as0 (show (zs.getD k 0).toNat < _ by omega) (by decide)).trans C)) C, bF C (bM 1 C C C) C, bF C (aC C C C (aA 4 C C)) C, bF C (aY C) C, bF C (cR 2 C C C C (aD ((hr).g))) C, bF C (aZ (k0 := 0) C C C (aD ((hr).g)) (by omega)) C, bF C (aQ (u := jI ((m.gs.getD ((zs.getD j 0).toNat) as0).t)) C C C (aD ((hr).g)) ((bR asC 2 (fun _ => C) m.gs as0 (show (zs.getD j 0).toNat < _ by omega) (by decide)).trans C)) C, .inl ⟨C, qS (aV C C (fun w hm => bJ (kO (m.gs.getD (zs.getD k 0).toNat as0).os ((m.gs.getD ((zs.getD j 0).toNat) as0).t) _ w ((hr.o.at (by omega)).below hm.bel)))) hb22⟩, bF C (aY C) C, bF C (aY C) C, trivial⟩
 simp only [List.drop_succ_cons, List.drop_zero]
 refine dA 1 C (cK (aO (aI C (dO C C C) (dA 1 C ?_))))
 exact cX (j + 1) false ⟨by omega, (by first | exact (Ae (hcf.symm.trans (by assumption))).symm | exact (Bv (by assumption)).symm)⟩ (by omega) (cN C) (eT C)
 have hb22p := eP hb22
 refine cI 17 [[], [0], [1], [1, 2], [1], [1, 3, 4], [1, 5], [1, 6], [1], [1, 8], [1], [1, 9, 10], [1, 11], [1, 12], [1, 7, 13], [1, 14], [1, 15]] [62, 63, 64, 65, 66, 67, 68, 69, 70, 71, 72, 73, 74, 75, 76, 77, 78] [.bool true, .bool true, .pointer (some ⟨b1, 0 + 1, none⟩), m.av, jI (zs.getD k 0), elP m.av ((zs.getD k 0).toNat * 2), elP m.av ((zs.getD k 0).toNat * 2 + 1), (m.gs.getD ((zs.getD k 0).toNat) as0).ov, .pointer (some ⟨b1, 0 + 1, none⟩), m.av, jI (zs.getD j 0), elP m.av ((zs.getD j 0).toNat * 2), elP m.av ((zs.getD j 0).toNat * 2 + 0), jI ((m.gs.getD ((zs.getD j 0).toNat) as0).t), .bool false, .bool true, .bool true] (by kernel_rfl) C ?_ ?_
 exact ⟨.inl ⟨C, gG (aY C) hb21⟩, bF C (aY C) C, bF C (bM 1 C C C) C, bF C (aC C C C (aA 4 C C)) C, bF C (aY C) C, bF C (cR 2 C C C C (aD ((hr).g))) C, bF C (aZ (k0 := 1) C C C (aD ((hr).g)) (by omega)) C, bF C (aQ (u := (m.gs.getD ((zs.getD k 0).toNat) as0).ov) C C C (aD ((hr).g)) ((bR asC 2 (fun _ => C) m.gs as0 (show (zs.getD k 0).toNat < _ by omega) (by decide)).trans C)) C, bF C (bM 1 C C C) C, bF C (aC C C C (aA 4 C C)) C, bF C (aY C) C, bF C (cR 2 C C C C (aD ((hr).g))) C, bF C (aZ (k0 := 0) C C C (aD ((hr).g)) (by omega)) C, bF C (aQ (u := jI ((m.gs.getD ((zs.getD j 0).toNat) as0).t)) C C C (aD ((hr).g)) ((bR asC 2 (fun _ => C) m.gs as0 (show (zs.getD j 0).toNat < _ by omega) (by decide)).trans C)) C, .inl ⟨C, qS (aV C C (fun w hm => bJ (kO (m.gs.getD (zs.getD k 0).toNat as0).os ((m.gs.getD ((zs.getD j 0).toNat) as0).t) _ w ((hr.o.at (by omega)).below hm.bel)))) hb22⟩, bF C (aY C) C, bF C (aY C) C, trivial⟩
 simp only [List.drop_succ_cons, List.drop_zero]
 refine dA 1 C (cK (aO (aI C (dO C C C) (dA 1 C ?_))))
 exact cX (j + 1) true ⟨by omega, (frB_t (hcf.symm.trans (by assumption)) (by assumption)).symm⟩ (by omega) (cN C) (eT C)
 have hfr : j = zs.length → frB m zs (zs.getD k 0) zs.length = false := fun e9 => by rw [← e9, ← hcf]; exact hb21
 refine cI 17 [[], [0], [1], [1], [1], [1], [1], [1], [1], [1], [1], [1], [1], [1], [1], [1], [1, 15]] [62, 63, 64, 65, 66, 67, 68, 69, 70, 71, 72, 73, 74, 75, 76, 77, 78] [.bool false, .bool false, undef, undef, undef, undef, undef, undef, undef, undef, undef, undef, undef, undef, undef, undef, .bool false] (by kernel_rfl) C ?_ ?_
 exact ⟨.inl ⟨C, gG (aY C) hb21⟩, bF C (aY C) C, .inr ⟨C, C⟩, .inr ⟨C, C⟩, .inr ⟨C, C⟩, .inr ⟨C, C⟩, .inr ⟨C, C⟩, .inr ⟨C, C⟩, .inr ⟨C, C⟩, .inr ⟨C, C⟩, .inr ⟨C, C⟩, .inr ⟨C, C⟩, .inr ⟨C, C⟩, .inr ⟨C, C⟩, .inr ⟨C, C⟩, .inr ⟨C, C⟩, bF C (aY C) C, trivial⟩
 simp only [List.drop_succ_cons, List.drop_zero]
 refine dA 1 C (cK (aO (aI C (dO C C C) (dA 1 C ?_))))
 exact cX (j + 1) false ⟨by omega, (by first | exact (Ae (hcf.symm.trans (by assumption))).symm | exact (Bv (by assumption)).symm)⟩ (by omega) (cN C) (eT C)
 refine bQ (kD C ?_)
 refine bI (dC ?_)
 refine aM (aR (aF (cG 1 C ?_)))
 refine bT (fun h23 => ?_) (fun h23 => ?_)
 have hfr : j = zs.length → frB m zs (zs.getD k 0) zs.length = true := fun e9 => by rw [← e9, ← hcf]; exact h23
 refine bQ (aK C (bA 2 C ?_))
 refine bI (qL C ?_)
 refine dC ?_
 refine aM (aR (aF (aF (cG 1 C ?_))))
 refine bN C C C C C C (fun h24 => absurd h24 (by omega)) (fun h24 => ?_)
 refine bQ (aS C (cE (aF (cG 3 C (aI C (cR 1 C C C C (aJ 1 C)) (aI C (qD C C C (aJ 1 C)) ?_))))))
 refine eA C (bB (z := jI 0) (s := 1) (cs := (mI [zs.getD k 0])) C Try.underlying48 C (by decide) C (by kernel_rfl) C) ?_
 intro g25
 refine cW (i := 1) (z := jI 0) (bytes := 8) C C C C Try.underlying48 (by kernel_rfl) C C C C (aJ 0 C) (cQ _) (by first | omega | (simp; done) | (simp; omega)) (cM ys ([zs.getD k 0])) (dP ys ([zs.getD k 0])) (fun _ => C) ?_
 intro v26
 refine aP 1 C ?_
 refine cI 7 [[], [], [0, 1], [], [], [4], [3, 5]] [92, 93, 94, 95, 96, 97, 98] [gu, jI (k : Int), slV gu 0 (k : Int).toNat 1, gu, jI (k : Int), jI ((k : Int) + 1), slV gu ((k : Int) + 1).toNat zs.length 1] (by kernel_rfl) C ?_ ?_
 exact ⟨bF C (aY C) C, bF C (aY C) C, bF C (rv_slH C Try.underlying48 C C C (aJ 2 C) (by omega) (by omega)) C, bF C (aY C) C, bF C (aY C) C, bF C (dO C C C) C, bF C (rv_slL C Try.underlying48 C C C (aJ 2 C) (by omega) (by omega)) C, trivial⟩
 simp only [List.drop_succ_cons, List.drop_zero]
 refine xM (i := 2) (k := (k : Int).toNat) (z := jI 0) (bytes := 8) (n' := (zs.eraseIdx ((k : Int).toNat)).length) (xs' := (mI (zs.eraseIdx ((k : Int).toNat)))) (L := fun v27 => [rowE 3 1 (.slice (some ⟨g25, 0, none⟩) 1 1) 1 (mI [zs.getD k 0]), rowE 3 1 v26 ((ys ++ ([zs.getD k 0])).length) (mI (ys ++ ([zs.getD k 0]))), rowE 3 1 v27 ((zs.eraseIdx ((k : Int).toNat)).length) (mI (zs.eraseIdx ((k : Int).toNat))), rowE 35 4 (.slice (some ⟨g5, 0, none⟩) 1 1) 1 ([m.sv, m.av, m.iv, m.mv]), rowE 3 1 (.slice none 0 0) 0 ([]), boxE b1 #[m.sv, m.av, m.iv, m.mv] 35]) C C C C Try.underlying48 C C C C C (by omega) (cQ _) (by omega) (List.length_eraseIdx_of_lt (by omega)).symm (Bp zs (by omega)) (fun _ => C) (fun v27 => ?_)
 refine dA 1 C (bV ?_)
 exact eR _ (zs.eraseIdx ((k : Int).toNat)) _ (ys ++ ([zs.getD k 0])) ⟨fun x hx => hzs x (gX hx), fun h => hbk (Can.back (by omega) (wT (hfr (by omega))) h), by rw [← hod, zC (by omega) (wT (hfr (by omega))) hnf]; simp, by rw [List.length_append, List.length_eraseIdx_of_lt (by omega)]; simp only [List.length_singleton]; omega⟩ (by rw [List.length_eraseIdx_of_lt (by omega)]; omega) (cN C) (eO [1, 0, 0, 0, 0] C)
 have hfr : j = zs.length → frB m zs (zs.getD k 0) zs.length = false := fun e9 => by rw [← e9, ← hcf]; exact h23
 refine bQ (gM C (cK (aO (aI C (dO C C C) (dA 1 C ?_)))))
 exact cB (k + 1) ⟨by omega, fun q hq => by by_cases e : q = k; (subst e; exact frB_nn (hfr (by omega))); exact hnf q (by omega)⟩ (by omega) (cN C) (eT C)
 refine bQ (kD C ?_)
 refine bI (dC ?_)
 refine aM (aR (aF (aF (cG 1 C ?_))))
 refine bN C C C C C C (fun h28 => ?_) (fun h28 => absurd h28 (by omega))
 refine bQ (aK C (cA ?_))
 refine eC 3 1 (aP 2 C ?_)
 refine aN (aG ?_)
 refine aE (aG ?_)
 refine aE (aG ?_)
 have hE : ¬ EoP m := fun hp => by first | (have := hp.1; omega) | exact absurd hp.2.1 (by assumption) | exact Can.stop (m := m) (T := zs) (fun e => by have h9 : zs.length = 0 := (by rw [e]; rfl); omega) (fun q hq => hnf q (by omega)) (hp.2.2.sub hzs)
 exact cH (rs := [.tmp 2, .tmp 3]) (vs := [.slice none 0 0, .bool false]) (post := [rowE 3 1 (.slice none 0 0) 0 ([])]) rfl ⟨rfl, rfl, trivial⟩ rfl (eO [0] rfl) ⟨_, by rw [bX hE]; rfl, by rw [vJ hE]; rfl⟩
 refine bQ (aS C ?_)
 refine bI (dC ?_)
 refine aM (aR (bA 3 C ?_))
 refine aN ?_
 have hz0 : zs = [] := List.eq_nil_of_length_eq_zero (by omega)
 have hE : EoP m := ⟨by omega, hdes, hbk (by rw [hz0]; exact Can.nil m)⟩
 have hys : ys = eoK m := by rw [mZ hE, ← hod, hz0, Bc, List.append_nil]
 exact cH (rs := [.tmp 2, .tmp 3]) (vs := [go, .bool true]) (post := [rI9 3 go ys]) rfl ⟨rfl, rfl, trivial⟩ rfl (eO [0] rfl) ⟨_, by rw [dG hE]; rfl, by rw [hys]⟩
 have h6p := eP h6
 refine aP 2 C (aK C (cA ?_))
 refine eC 3 1 (aP 2 C ?_)
 refine aN (aG ?_)
 have hE : ¬ EoP m := fun hp => by first | (have := hp.1; omega) | exact absurd hp.2.1 (by assumption) | exact Can.stop (m := m) (T := zs) (fun e => by have h9 : zs.length = 0 := (by rw [e]; rfl); omega) (fun q hq => hnf q (by omega)) (hp.2.2.sub hzs)
 exact cH (rs := [.tmp 2, .tmp 3]) (vs := [.slice none 0 0, .bool false]) (post := [rowE 3 1 (.slice none 0 0) 0 ([])]) rfl ⟨rfl, rfl, trivial⟩ rfl (eO [0] rfl) ⟨_, by rw [bX hE]; rfl, by rw [vJ hE]; rfl⟩
theorem DesP.sg1 {m : Md} (h : DesP [m]) {i : Nat} (hi : i < m.ss.length) : SgP (m.ss.getD i sg0) := (h.2 0 (by simp)).sg i hi
theorem DesP.ms1 {m : Md} (h : DesP [m]) {i : Nat} (hi : i < m.ms.length) : MmP m (m.ms.getD i mm0) := (h.2 0 (by simp)).ms i hi
theorem kH {m : Md} (h : DesP [m]) (c : Int) : ∀ x ∈ pwK m c, 0 ≤ x ∧ x ≤ 4 := fun x hx => by
  unfold pwK at hx; split at hx
  · exact vV (fun q hq => (h.sg1 hq).2.1) _ (Nat.le_refl _) x hx
  · cases hx
theorem oY {m : Md} (h : DesP [m]) (c : Int) : 0 ≤ sumZ (pwK m c) ∧ sumZ (pwK m c) ≤ 120 := by
  have h1 := mG (kH h c) _ (Nat.le_refl _)
  have h2 := kU m c
  unfold sumZ; omega
theorem rW {m : Md} (h : DesP [m]) : ∀ j, j ≤ m.ms.length → 0 ≤ moA m j ∧ moA m j ≤ 4 * j
  | 0, _ => ⟨Int.le_refl _, Int.le_refl _⟩
  | j + 1, hj => by
    have h1 := rW h j (by omega)
    have h2 := (h.ms1 (show j < m.ms.length by omega)).2.inn
    have h3 := (h.sg1 (i := (m.ms.getD j mm0).o.toNat) (by have := h2.1; have := h2.2; omega)).2.1
    show 0 ≤ moA m j + _ ∧ moA m j + _ ≤ _
    omega
theorem memI {m : Md} (h : DesP [m]) {i : Nat} (hi : i < m.ms.length) : ((0 ≤ (m.ms.getD i mm0).a ∧ (m.ms.getD i mm0).a < m.ss.length) ∧ (0 ≤ (m.ms.getD i mm0).d ∧ (m.ms.getD i mm0).d < m.ss.length) ∧ 0 ≤ (m.ms.getD i mm0).w ∧ (m.ms.getD i mm0).w < m.ss.length) ∧ (0 ≤ (m.ms.getD i mm0).o ∧ (m.ms.getD i mm0).o < m.ss.length) ∧ 0 ≤ (m.ss.getD (m.ms.getD i mm0).o.toNat sg0).w ∧ (m.ss.getD (m.ms.getD i mm0).o.toNat sg0).w ≤ 4 := by
  have h1 := h.ms1 hi
  have h2 := h1.2.inn
  have h3 := (h.sg1 (i := (m.ms.getD i mm0).o.toNat) (by have := h2.1; have := h2.2; omega)).2.1
  exact ⟨h1.1, h2, h3⟩
theorem kZ (m : Md) (w : World) (hr : RdsMd w m) :
   Calls Try.prog 29 #[.agg #[m.sv, m.av, m.iv, m.mv]] w (Ans w (.bool (pB (FlP m)))) := by
 have hs9 := gL hr.s
 have hg9 := gL hr.g
 have hx9 := gL hr.x
 have hm9 := gL hr.m
 refine bW (N := 110) (args := [.agg #[m.sv, m.av, m.iv, m.mv]]) Try.func29 C C (cA ?_)
 refine cL C (cY C C) ?_
 intro b1
 refine aP 1 C (cA (aI C (aW (cs := [m.sv, m.av, m.iv, m.mv]) C C C C C (aT 0 C 0 C)) ?_))
 refine fC C C C (aV C C (fun w hm => jN m w (hr.below hm.bel))) ?_
 intro v2 p3 R4
 obtain ⟨ov, rfl, rfl⟩ := R4
 refine aH 3 C (bT (fun h5 => ?_) (fun h5 => ?_))
 have h5p := fK h5
 refine aP 2 C (aF (bA 2 C (aS C (cE ?_))))
 refine eM ?_
 have hE : EoP m := by assumption
 have hdes := hE.2.1
 obtain ⟨hl1, hl2, hl3, hl4⟩ := hdes.len1
 have hz3 := oY hdes 3
 refine aI C (bM 0 C C C) (aI C (aC C C C (aA 1 C C)) (aI C (dL C C C (aD ((hr).s))) (aP 1 C (bD ?_))))
 refine gK (α := Nat) [0, 1, 2, 4, 18, 20, 21] C (fun i => [rowE 3 1 ov ((eoK m).length) (mI (eoK m)), boxE b1 #[m.sv, m.av, m.iv, m.mv] 35]) (fun i => [(22, jI (i : Int))]) (fun i => i ≤ m.ss.length ∧ ∀ q, q < i → (m.ss.getD q sg0).w ≠ 0) (fun i => m.ss.length - i) 0 ⟨Nat.zero_le _, fun q hq => absurd hq (by omega)⟩ (cN C) (eT C) ?_
 intro i hi6
 obtain ⟨hi, hwd⟩ := hi6
 refine cA ?_
 refine bN C C C C C C (fun h7 => ?_) (fun h7 => ?_)
 refine bQ (jX C (cE (fD (cA (aI C (cR 3 C C C C (aD ((hr).s))) ?_)))))
 refine aI C (bL (us := [jI ((m.ss.getD i sg0).k), jI ((m.ss.getD i sg0).w), jI ((m.ss.getD i sg0).i)]) C C C C (aD ((hr).s)) (by omega) C (bY sgC 3 (fun _ => C) m.ss sg0 (show i < _ by omega) C)) (cL C (bG (z := .agg #[jI 0, jI 0, jI 0]) C C) ?_)
 intro b8
 refine bE (cs' := #[jI ((m.ss.getD i sg0).k), jI ((m.ss.getD i sg0).w), jI ((m.ss.getD i sg0).i)]) (i := 0) (off := 0) (us := [jI ((m.ss.getD i sg0).k), jI ((m.ss.getD i sg0).w), jI ((m.ss.getD i sg0).i)]) C C C C C C C (aB C (aB C (aB C bC))) C C C (bQ (cA (aI C (bM 1 C C C) (aI C (aC C C C (aA 0 C C)) ?_))))
 refine bU C C C C C C (fun h9 => ?_) (fun h9 => ?_)
 refine bQ (aK C (bA 1 C ?_))
 refine aN (aE ?_)
 refine dZ ?_
 refine aE (aG ?_)
 exact aX C C (congrArg _ (bX (fun hp => by first | (exact absurd hp.eo (by assumption)) | (exact absurd (by omega) (hp.wid i (by omega))) | (exact absurd (by assumption) (hp.par k (by omega))) | (have h9 := hp.mem j (by omega); unfold MwP at h9; omega) | (have h9 := hp.ins; omega) | (have h9 := hp.outs; omega) | (have h9 := hp.bits; rw [show m.ms.length = j by omega] at h9; omega))).symm)
 refine bQ (gM C (cK (aO (aI C (dO C C C) (dA 1 C ?_)))))
 exact cB (i + 1) ⟨by omega, fun q hq => by by_cases e : q = i; (subst e; omega); exact hwd q (by omega)⟩ (by omega) (cN C) (eO [1, 0] C)
 refine bQ (kD C ?_)
 refine bI (dC ?_)
 refine aM (aR (eM (aI C (bM 1 C C C) (aI C (aC C C C (aA 1 C C)) (aI C (dL C C C (aD ((hr).g))) (aP 1 C (bD ?_)))))))
 refine gK (α := Nat) [0, 1, 2, 4, 18, 20, 21, 22, 23, 31, 32] C (fun k => [rowE 3 1 ov ((eoK m).length) (mI (eoK m)), boxE b1 #[m.sv, m.av, m.iv, m.mv] 35]) (fun k => [(33, jI (k : Int))]) (fun k => k ≤ m.gs.length ∧ ∀ q, q < k → ¬ HpP (m.gs.getD q as0).os) (fun k => m.gs.length - k) 0 ⟨Nat.zero_le _, fun q hq => absurd hq (by omega)⟩ (cN C) (eT C) ?_
 intro k hi10
 obtain ⟨hk, hpr⟩ := hi10
 refine cA ?_
 refine bN C C C C C C (fun h11 => ?_) (fun h11 => ?_)
 refine bQ (jX C (cE (fD (cA (aI C (cR 2 C C C C (aD ((hr).g))) ?_)))))
 refine aI C (bL (us := [jI ((m.gs.getD k as0).t), (m.gs.getD k as0).ov]) C C C C (aD ((hr).g)) (by omega) C (bY asC 2 (fun _ => C) m.gs as0 (show k < _ by omega) C)) (cL C (bG (z := .agg #[jI 0, .slice none 0 0]) C C) ?_)
 intro b12
 refine bE (cs' := #[jI ((m.gs.getD k as0).t), (m.gs.getD k as0).ov]) (i := 0) (off := 0) (us := [jI ((m.gs.getD k as0).t), (m.gs.getD k as0).ov]) C C C C C C C (aB C (aB (hr.o.at (k := k) (by omega)).one bC)) C C C (bQ (cA (aI C (bM 1 C C C) (aI C (aC C C C (aA 0 C C)) ?_))))
 refine dW C (aV C C (fun w hm => bJ (sL (m.gs.getD k as0).os _ w ((hr.o.at (by omega)).below hm.bel)))) (bT (fun h13 => ?_) (fun h13 => ?_))
 have h13p := fK h13
 refine bQ (aK C (bA 1 C ?_))
 refine aN (aE ?_)
 refine dZ ?_
 refine aE (aG ?_)
 exact aX C C (congrArg _ (bX (fun hp => by first | (exact absurd hp.eo (by assumption)) | (exact absurd (by omega) (hp.wid i (by omega))) | (exact absurd (by assumption) (hp.par k (by omega))) | (have h9 := hp.mem j (by omega); unfold MwP at h9; omega) | (have h9 := hp.ins; omega) | (have h9 := hp.outs; omega) | (have h9 := hp.bits; rw [show m.ms.length = j by omega] at h9; omega))).symm)
 have h13p := eP h13
 refine bQ (gM C (cK (aO (aI C (dO C C C) (dA 1 C ?_)))))
 exact cB (k + 1) ⟨by omega, fun q hq => by by_cases e : q = k; (subst e; assumption); exact hpr q (by omega)⟩ (by omega) (cN C) (eO [1, 0] C)
 refine bQ (kD C ?_)
 refine bI (dC ?_)
 refine aM (aR (cA (aI C (aW (cs := [m.sv, m.av, m.iv, m.mv]) C C C C C (aT 1 C 0 C)) ?_)))
 refine fC C C C (aV C C (fun w hm => gD m 3 w (hr.below hm.bel))) ?_
 intro v14 p15 R16
 subst R16
 refine dW C (aV C C (fun w hm => bJ (kP (pwK m 3) v14 w (aJ 0 C w hm) (kH hdes _) (kU _ _)))) (aP 1 C (eM (aI C (bM 3 C C C) (aI C (aC C C C (aA 2 C C)) (aI C (dL C C C (aD ((hr).m))) (aP 1 C ?_))))))
 refine bD ?_
 refine jZ (α := Nat) (β := Int) [0, 1, 2, 4, 18, 20, 21, 22, 23, 31, 32, 33, 34, 45, 46] C (fun j c => [rowE 3 1 v14 ((pwK m 3).length) (mI (pwK m 3)), rowE 3 1 ov ((eoK m).length) (mI (eoK m)), boxE b1 #[m.sv, m.av, m.iv, m.mv] 35]) (fun j c => [(9, jI c), (47, jI (j : Int))]) (fun j c => j ≤ m.ms.length ∧ c = sumZ (pwK m 3) + moA m j ∧ ∀ q, q < j → MwP m (m.ms.getD q mm0)) (fun j c => m.ms.length - j) 0 _ ⟨Nat.zero_le _, (by show _ = _ + (0 : Int); omega), fun q hq => absurd hq (by omega)⟩ (cN C) (eT C) ?_
 intro j c hi17
 obtain ⟨hj, hcs, hmw⟩ := hi17
 have hmo := rW hdes j hj
 refine cA ?_
 refine bN C C C C C C (fun h18 => ?_) (fun h18 => ?_)
 refine bQ (jX C (cE (fD (cA ?_))))
 have hmm := memI hdes (show j < m.ms.length by omega)
 refine aI C (cR 4 C C C C (aD ((hr).m))) (aI C (bL (us := [jI ((m.ms.getD j mm0).a), jI ((m.ms.getD j mm0).d), jI ((m.ms.getD j mm0).w), jI ((m.ms.getD j mm0).o)]) C C C C (aD ((hr).m)) (by omega) C (bY mmC 4 (fun _ => C) m.ms mm0 (show j < _ by omega) C)) ?_)
 refine cL C (bG (z := .agg #[jI 0, jI 0, jI 0, jI 0]) C C) ?_
 intro b19
 refine bE (cs' := #[jI ((m.ms.getD j mm0).a), jI ((m.ms.getD j mm0).d), jI ((m.ms.getD j mm0).w), jI ((m.ms.getD j mm0).o)]) (i := 0) (off := 0) (us := [jI ((m.ms.getD j mm0).a), jI ((m.ms.getD j mm0).d), jI ((m.ms.getD j mm0).w), jI ((m.ms.getD j mm0).o)]) C C C C C C C (aB C (aB C (aB C (aB C bC)))) C C C (bQ (aF (aF ?_)))
 rcases Bool.eq_false_or_eq_true (((m.ss.getD (((m.ms.getD j mm0).a).toNat) sg0).w) != 2) with hb20 | hb20
 have hb20p : (m.ss.getD (((m.ms.getD j mm0).a).toNat) sg0).w ≠ 2 := bne_iff_ne.1 hb20
 refine cI 35 [[], [0], [], [2], [1, 3], [4], [5], [6], [7], [8], [8], [8], [8], [8], [8], [8], [8], [8, 16], [17], [18], [18], [18], [18], [18], [18], [18], [18], [18], [18], [18], [18], [18], [18], [18], [18, 33]] [51, 52, 53, 54, 55, 56, 57, 58, 59, 60, 61, 62, 63, 64, 65, 66, 67, 68, 69, 70, 71, 72, 73, 74, 75, 76, 77, 78, 79, 80, 81, 82, 83, 84, 85] [.pointer (some ⟨b1, 0 + 0, none⟩), m.sv, .pointer (some ⟨b19, 0 + 0, none⟩), jI ((m.ms.getD j mm0).a), elP m.sv (((m.ms.getD j mm0).a).toNat * 3), elP m.sv (((m.ms.getD j mm0).a).toNat * 3 + 1), jI ((m.ss.getD (((m.ms.getD j mm0).a).toNat) sg0).w), .bool true, .bool true, undef, undef, undef, undef, undef, undef, undef, undef, .bool true, .bool true, undef, undef, undef, undef, undef, undef, undef, undef, undef, undef, undef, undef, undef, undef, undef, .bool true] (by kernel_rfl) C ?_ ?_
 exact ⟨bF C (bM 0 C C C) C, bF C (aC C C C (aA 3 C C)) C, bF C (bM 0 C C C) C, bF C (aC C C C (aA 0 C C)) C, bF C (cR 3 C C C C (aD ((hr).s))) C, bF C (aZ (k0 := 1) C C C (aD ((hr).s)) (by omega)) C, bF C (aQ (u := jI ((m.ss.getD (((m.ms.getD j mm0).a).toNat) sg0).w)) C C C (aD ((hr).s)) ((bR sgC 3 (fun _ => C) m.ss sg0 (show ((m.ms.getD j mm0).a).toNat < _ by omega) (by decide)).trans C)) C, .inl ⟨C, gG (dR C C C C) hb20⟩, bF C (aY C) C, .inr ⟨C, C⟩, .inr ⟨C, C⟩, .inr ⟨C, C⟩, .inr ⟨C, C⟩, .inr ⟨C, C⟩, .inr ⟨C, C⟩, .inr ⟨C, C⟩, .inr ⟨C, C⟩, bF C (aY C) C, bF C (aY C) C, .inr ⟨C, C⟩, .inr ⟨C, C⟩, .inr ⟨C, C⟩, .inr ⟨C, C⟩, .inr ⟨C, C⟩, .inr ⟨C, C⟩, .inr ⟨C, C⟩, .inr ⟨C, C⟩, .inr ⟨C, C⟩, .inr ⟨C, C⟩, .inr ⟨C, C⟩, .inr ⟨C, C⟩, .inr ⟨C, C⟩, .inr ⟨C, C⟩, .inr ⟨C, C⟩, bF C (aY C) C, trivial⟩
 simp only [List.drop_succ_cons, List.drop_zero]
 refine bQ (aK C (bA 1 C ?_))
 refine aN (aG ?_)
 refine aE (dZ ?_)
 refine aE (aG ?_)
 exact aX C C (congrArg _ (bX (fun hp => by first | (exact absurd hp.eo (by assumption)) | (exact absurd (by omega) (hp.wid i (by omega))) | (exact absurd (by assumption) (hp.par k (by omega))) | (have h9 := hp.mem j (by omega); unfold MwP at h9; omega) | (have h9 := hp.ins; omega) | (have h9 := hp.outs; omega) | (have h9 := hp.bits; rw [show m.ms.length = j by omega] at h9; omega))).symm)
 have hb20p : (m.ss.getD (((m.ms.getD j mm0).a).toNat) sg0).w = 2 := (bne_eq_false_iff_eq.1 hb20)
 rcases Bool.eq_false_or_eq_true (((m.ss.getD (((m.ms.getD j mm0).w).toNat) sg0).w) != 1) with hb21 | hb21
 have hb21p : (m.ss.getD (((m.ms.getD j mm0).w).toNat) sg0).w ≠ 1 := bne_iff_ne.1 hb21
 refine cI 35 [[], [0], [], [2], [1, 3], [4], [5], [6], [7], [8], [8, 9], [8], [8, 11], [8, 10, 12], [8, 13], [8, 14], [8, 15], [8, 16], [17], [18], [18], [18], [18], [18], [18], [18], [18], [18], [18], [18], [18], [18], [18], [18], [18, 33]] [51, 52, 53, 54, 55, 56, 57, 58, 59, 60, 61, 62, 63, 64, 65, 66, 67, 68, 69, 70, 71, 72, 73, 74, 75, 76, 77, 78, 79, 80, 81, 82, 83, 84, 85] [.pointer (some ⟨b1, 0 + 0, none⟩), m.sv, .pointer (some ⟨b19, 0 + 0, none⟩), jI ((m.ms.getD j mm0).a), elP m.sv (((m.ms.getD j mm0).a).toNat * 3), elP m.sv (((m.ms.getD j mm0).a).toNat * 3 + 1), jI ((m.ss.getD (((m.ms.getD j mm0).a).toNat) sg0).w), .bool false, .bool false, .pointer (some ⟨b1, 0 + 0, none⟩), m.sv, .pointer (some ⟨b19, 0 + 2, none⟩), jI ((m.ms.getD j mm0).w), elP m.sv (((m.ms.getD j mm0).w).toNat * 3), elP m.sv (((m.ms.getD j mm0).w).toNat * 3 + 1), jI ((m.ss.getD (((m.ms.getD j mm0).w).toNat) sg0).w), .bool true, .bool true, .bool true, undef, undef, undef, undef, undef, undef, undef, undef, undef, undef, undef, undef, undef, undef, undef, .bool true] (by kernel_rfl) C ?_ ?_
 exact ⟨bF C (bM 0 C C C) C, bF C (aC C C C (aA 3 C C)) C, bF C (bM 0 C C C) C, bF C (aC C C C (aA 0 C C)) C, bF C (cR 3 C C C C (aD ((hr).s))) C, bF C (aZ (k0 := 1) C C C (aD ((hr).s)) (by omega)) C, bF C (aQ (u := jI ((m.ss.getD (((m.ms.getD j mm0).a).toNat) sg0).w)) C C C (aD ((hr).s)) ((bR sgC 3 (fun _ => C) m.ss sg0 (show ((m.ms.getD j mm0).a).toNat < _ by omega) (by decide)).trans C)) C, .inl ⟨C, gG (dR C C C C) hb20⟩, bF C (aY C) C, bF C (bM 0 C C C) C, bF C (aC C C C (aA 3 C C)) C, bF C (bM 2 C C C) C, bF C (aC C C C (aA 0 C C)) C, bF C (cR 3 C C C C (aD ((hr).s))) C, bF C (aZ (k0 := 1) C C C (aD ((hr).s)) (by omega)) C, bF C (aQ (u := jI ((m.ss.getD (((m.ms.getD j mm0).w).toNat) sg0).w)) C C C (aD ((hr).s)) ((bR sgC 3 (fun _ => C) m.ss sg0 (show ((m.ms.getD j mm0).w).toNat < _ by omega) (by decide)).trans C)) C, .inl ⟨C, gG (dR C C C C) hb21⟩, bF C (aY C) C, bF C (aY C) C, .inr ⟨C, C⟩, .inr ⟨C, C⟩, .inr ⟨C, C⟩, .inr ⟨C, C⟩, .inr ⟨C, C⟩, .inr ⟨C, C⟩, .inr ⟨C, C⟩, .inr ⟨C, C⟩, .inr ⟨C, C⟩, .inr ⟨C, C⟩, .inr ⟨C, C⟩, .inr ⟨C, C⟩, .inr ⟨C, C⟩, .inr ⟨C, C⟩, .inr ⟨C, C⟩, bF C (aY C) C, trivial⟩
 simp only [List.drop_succ_cons, List.drop_zero]
 refine bQ (aK C (bA 1 C ?_))
 refine aN (aG ?_)
 refine aE (dZ ?_)
 refine aE (aG ?_)
 exact aX C C (congrArg _ (bX (fun hp => by first | (exact absurd hp.eo (by assumption)) | (exact absurd (by omega) (hp.wid i (by omega))) | (exact absurd (by assumption) (hp.par k (by omega))) | (have h9 := hp.mem j (by omega); unfold MwP at h9; omega) | (have h9 := hp.ins; omega) | (have h9 := hp.outs; omega) | (have h9 := hp.bits; rw [show m.ms.length = j by omega] at h9; omega))).symm)
 have hb21p : (m.ss.getD (((m.ms.getD j mm0).w).toNat) sg0).w = 1 := (bne_eq_false_iff_eq.1 hb21)
 refine cI 35 [[], [0], [], [2], [1, 3], [4], [5], [6], [7], [8], [8, 9], [8], [8, 11], [8, 10, 12], [8, 13], [8, 14], [8, 15], [8, 16], [17], [18], [18, 19], [18], [18, 21], [18, 20, 22], [18, 23], [18, 24], [18], [18, 26], [18], [18, 28], [18, 27, 29], [18, 30], [18, 31], [18, 25, 32], [18, 33]] [51, 52, 53, 54, 55, 56, 57, 58, 59, 60, 61, 62, 63, 64, 65, 66, 67, 68, 69, 70, 71, 72, 73, 74, 75, 76, 77, 78, 79, 80, 81, 82, 83, 84, 85] [.pointer (some ⟨b1, 0 + 0, none⟩), m.sv, .pointer (some ⟨b19, 0 + 0, none⟩), jI ((m.ms.getD j mm0).a), elP m.sv (((m.ms.getD j mm0).a).toNat * 3), elP m.sv (((m.ms.getD j mm0).a).toNat * 3 + 1), jI ((m.ss.getD (((m.ms.getD j mm0).a).toNat) sg0).w), .bool false, .bool false, .pointer (some ⟨b1, 0 + 0, none⟩), m.sv, .pointer (some ⟨b19, 0 + 2, none⟩), jI ((m.ms.getD j mm0).w), elP m.sv (((m.ms.getD j mm0).w).toNat * 3), elP m.sv (((m.ms.getD j mm0).w).toNat * 3 + 1), jI ((m.ss.getD (((m.ms.getD j mm0).w).toNat) sg0).w), .bool false, .bool false, .bool false, .pointer (some ⟨b1, 0 + 0, none⟩), m.sv, .pointer (some ⟨b19, 0 + 1, none⟩), jI ((m.ms.getD j mm0).d), elP m.sv (((m.ms.getD j mm0).d).toNat * 3), elP m.sv (((m.ms.getD j mm0).d).toNat * 3 + 1), jI ((m.ss.getD (((m.ms.getD j mm0).d).toNat) sg0).w), .pointer (some ⟨b1, 0 + 0, none⟩), m.sv, .pointer (some ⟨b19, 0 + 3, none⟩), jI ((m.ms.getD j mm0).o), elP m.sv (((m.ms.getD j mm0).o).toNat * 3), elP m.sv (((m.ms.getD j mm0).o).toNat * 3 + 1), jI ((m.ss.getD (((m.ms.getD j mm0).o).toNat) sg0).w), .bool (((m.ss.getD (((m.ms.getD j mm0).d).toNat) sg0).w) != ((m.ss.getD (((m.ms.getD j mm0).o).toNat) sg0).w)), .bool (((m.ss.getD (((m.ms.getD j mm0).d).toNat) sg0).w) != ((m.ss.getD (((m.ms.getD j mm0).o).toNat) sg0).w))] (by kernel_rfl) C ?_ ?_
 exact ⟨bF C (bM 0 C C C) C, bF C (aC C C C (aA 3 C C)) C, bF C (bM 0 C C C) C, bF C (aC C C C (aA 0 C C)) C, bF C (cR 3 C C C C (aD ((hr).s))) C, bF C (aZ (k0 := 1) C C C (aD ((hr).s)) (by omega)) C, bF C (aQ (u := jI ((m.ss.getD (((m.ms.getD j mm0).a).toNat) sg0).w)) C C C (aD ((hr).s)) ((bR sgC 3 (fun _ => C) m.ss sg0 (show ((m.ms.getD j mm0).a).toNat < _ by omega) (by decide)).trans C)) C, .inl ⟨C, gG (dR C C C C) hb20⟩, bF C (aY C) C, bF C (bM 0 C C C) C, bF C (aC C C C (aA 3 C C)) C, bF C (bM 2 C C C) C, bF C (aC C C C (aA 0 C C)) C, bF C (cR 3 C C C C (aD ((hr).s))) C, bF C (aZ (k0 := 1) C C C (aD ((hr).s)) (by omega)) C, bF C (aQ (u := jI ((m.ss.getD (((m.ms.getD j mm0).w).toNat) sg0).w)) C C C (aD ((hr).s)) ((bR sgC 3 (fun _ => C) m.ss sg0 (show ((m.ms.getD j mm0).w).toNat < _ by omega) (by decide)).trans C)) C, .inl ⟨C, gG (dR C C C C) hb21⟩, bF C (aY C) C, bF C (aY C) C, bF C (bM 0 C C C) C, bF C (aC C C C (aA 3 C C)) C, bF C (bM 1 C C C) C, bF C (aC C C C (aA 0 C C)) C, bF C (cR 3 C C C C (aD ((hr).s))) C, bF C (aZ (k0 := 1) C C C (aD ((hr).s)) (by omega)) C, bF C (aQ (u := jI ((m.ss.getD (((m.ms.getD j mm0).d).toNat) sg0).w)) C C C (aD ((hr).s)) ((bR sgC 3 (fun _ => C) m.ss sg0 (show ((m.ms.getD j mm0).d).toNat < _ by omega) (by decide)).trans C)) C, bF C (bM 0 C C C) C, bF C (aC C C C (aA 3 C C)) C, bF C (bM 3 C C C) C, bF C (aC C C C (aA 0 C C)) C, bF C (cR 3 C C C C (aD ((hr).s))) C, bF C (aZ (k0 := 1) C C C (aD ((hr).s)) (by omega)) C, bF C (aQ (u := jI ((m.ss.getD (((m.ms.getD j mm0).o).toNat) sg0).w)) C C C (aD ((hr).s)) ((bR sgC 3 (fun _ => C) m.ss sg0 (show ((m.ms.getD j mm0).o).toNat < _ by omega) (by decide)).trans C)) C, bF C (dR C C C C) C, bF C (aY C) C, trivial⟩
 simp only [List.drop_succ_cons, List.drop_zero]
 refine bQ ?_
 refine eW C (fun h22 => ?_) (fun h22 => ?_)
 have h22p : (m.ss.getD (((m.ms.getD j mm0).d).toNat) sg0).w ≠ (m.ss.getD (((m.ms.getD j mm0).o).toNat) sg0).w := bne_iff_ne.1 h22
 refine bA 1 C ?_
 refine aN (aG ?_)
 refine aE (dZ ?_)
 refine aE (aG ?_)
 exact aX C C (congrArg _ (bX (fun hp => by first | (exact absurd hp.eo (by assumption)) | (exact absurd (by omega) (hp.wid i (by omega))) | (exact absurd (by assumption) (hp.par k (by omega))) | (have h9 := hp.mem j (by omega); unfold MwP at h9; omega) | (have h9 := hp.ins; omega) | (have h9 := hp.outs; omega) | (have h9 := hp.bits; rw [show m.ms.length = j by omega] at h9; omega))).symm)
 have h22p : (m.ss.getD (((m.ms.getD j mm0).d).toNat) sg0).w = (m.ss.getD (((m.ms.getD j mm0).o).toNat) sg0).w := (bne_eq_false_iff_eq.1 h22)
 refine cE (cG 1 C (aI C (bM 0 C C C) (aI C (aC C C C (aA 3 C C)) (aI C (bM 3 C C C) (aI C (aC C C C (aA 0 C C)) (aI C (cR 3 C C C C (aD ((hr).s))) (aI C (aZ (k0 := 1) C C C (aD ((hr).s)) (by omega)) ?_)))))))
 refine aI C (aQ (u := jI ((m.ss.getD (((m.ms.getD j mm0).o).toNat) sg0).w)) C C C (aD ((hr).s)) ((bR sgC 3 (fun _ => C) m.ss sg0 (show ((m.ms.getD j mm0).o).toNat < _ by omega) (by decide)).trans C)) (aI C (dO C C C) (dA 1 C (cK (aO (aI C (dO C C C) (dA 1 C ?_))))))
 exact cX (j + 1) (c + ((m.ss.getD (((m.ms.getD j mm0).o).toNat) sg0).w)) ⟨by omega, (by show _ = _ + (moA m j + _); omega), fun q hq => by by_cases e : q = j; (subst e; exact ⟨by omega, by omega, by omega⟩); exact hmw q (by omega)⟩ (by omega) (cN C) (eO [1, 0, 0] C)
 refine bQ (kD C ?_)
 refine bI (dC ?_)
 refine aM (aR (cA (aI C (aW (cs := [m.sv, m.av, m.iv, m.mv]) C C C C C (aT 2 C 0 C)) ?_)))
 refine fC C C C (aV C C (fun w hm => gD m 0 w (hr.below hm.bel))) ?_
 intro v23 p24 R25
 subst R25
 refine dW C (aV C C (fun w hm => bJ (kP (pwK m 0) v23 w (aJ 0 C w hm) (kH hdes _) (kU _ _)))) (jD C C C C C C (fun h26 => ?_) (fun h26 => ?_))
 refine aH 1 C (aI C (aW (cs := [m.sv, m.av, m.iv, m.mv]) C C C C C (aT 3 C 0 C)) ?_)
 refine fC C C C (aV C C (fun w hm => gD m 1 w (hr.below hm.bel))) ?_
 intro v27 p28 R29
 subst R29
 refine dW C (aV C C (fun w hm => bJ (kP (pwK m 1) v27 w (aJ 0 C w hm) (kH hdes _) (kU _ _)))) (jD C C C C C C (fun h30 => ?_) (fun h30 => ?_))
 refine aH 3 C (jD C C C C C C (fun h31 => ?_) (fun h31 => ?_))
 refine aP 2 C ?_
 exact aN (aX C C (congrArg _ (dG ⟨hE, fun s hs => hwd s (by omega), fun i hi => hpr i (by omega), fun i hi => hmw i (by omega), by omega, by omega, by rw [show m.ms.length = j by omega]; omega⟩).symm))
 refine aP 2 C ?_
 exact aN (aX C C (congrArg _ (bX (fun hp => by first | (exact absurd hp.eo (by assumption)) | (exact absurd (by omega) (hp.wid i (by omega))) | (exact absurd (by assumption) (hp.par k (by omega))) | (have h9 := hp.mem j (by omega); unfold MwP at h9; omega) | (have h9 := hp.ins; omega) | (have h9 := hp.outs; omega) | (have h9 := hp.bits; rw [show m.ms.length = j by omega] at h9; omega))).symm))
 refine aP 6 C ?_
 exact aN (aX C C (congrArg _ (bX (fun hp => by first | (exact absurd hp.eo (by assumption)) | (exact absurd (by omega) (hp.wid i (by omega))) | (exact absurd (by assumption) (hp.par k (by omega))) | (have h9 := hp.mem j (by omega); unfold MwP at h9; omega) | (have h9 := hp.ins; omega) | (have h9 := hp.outs; omega) | (have h9 := hp.bits; rw [show m.ms.length = j by omega] at h9; omega))).symm))
 refine aP 11 C ?_
 exact aN (aX C C (congrArg _ (bX (fun hp => by first | (exact absurd hp.eo (by assumption)) | (exact absurd (by omega) (hp.wid i (by omega))) | (exact absurd (by assumption) (hp.par k (by omega))) | (have h9 := hp.mem j (by omega); unfold MwP at h9; omega) | (have h9 := hp.ins; omega) | (have h9 := hp.outs; omega) | (have h9 := hp.bits; rw [show m.ms.length = j by omega] at h9; omega))).symm))
 have h5p := eP h5
 refine aP 2 C (aF (bA 2 C (aK C (cA ?_))))
 refine aP 1 C ?_
 refine aN (aG ?_)
 exact aX C C (congrArg _ (bX (fun hp => by first | (exact absurd hp.eo (by assumption)) | (exact absurd (by omega) (hp.wid i (by omega))) | (exact absurd (by assumption) (hp.par k (by omega))) | (have h9 := hp.mem j (by omega); unfold MwP at h9; omega) | (have h9 := hp.ins; omega) | (have h9 := hp.outs; omega) | (have h9 := hp.bits; rw [show m.ms.length = j by omega] at h9; omega))).symm)
theorem lR (xs : List Int) (v : Value) (w : World) (hv : RdsW w v 1 xs.length (xs.map (Value.int .i64))) (hl : xs.length ≤ 1000000) :
   Calls Try.prog 116 #[v] w (Ret w (fun v' post => post = [rI9 3 v' (xs)])) := by
 refine bW (N := 6) (args := [v]) Try.func116 C C (bA 1 C (cA ?_))
 refine eA C (dF (s := 1) C Try.underlying48 C) ?_
 intro g1
 refine aH 1 C (cW (i := 0) (z := jI 0) (bytes := 8) (n' := xs.length) (xs' := (mI xs)) C C C C Try.underlying48 (by kernel_rfl) C C C C (aD hv) (cQ _) (by first | omega | (simp; done) | (simp; omega)) (Nat.zero_add _) (List.nil_append _) (fun _ => C) ?_)
 intro v2
 refine aP 1 C ?_
 exact aN (gE (post := [rI9 3 v2 xs]) C C (eT C) C)
theorem lQ (m : Md) (w : World) (hr : RdsMd w m) (hfl : FlP m) :
   Calls Try.prog 62 #[.agg #[m.sv, m.av, m.iv, m.mv]] w (Ret w (fun u_ p_ => ∃ a9 b9, u_ = .agg #[a9, b9] ∧ p_ = [rI9 3 a9 (staV m), rI9 3 b9 (staW m)])) := by
 have hs9 := gL hr.s
 have hln := hfl.lens
 refine bW (N := 39) (args := [.agg #[m.sv, m.av, m.iv, m.mv]]) Try.func62 C C (cA ?_)
 refine cL C (cY C C) ?_
 intro b1
 refine cL C (bG (z := .agg #[.slice none 0 0, .slice none 0 0]) C C) ?_
 intro b2
 refine bQ (aF ?_)
 refine hS C 11 [0, 1, 2, 3, 4, 5, 6, 7, 8, 9, 10] (List.take 11 _) (List.drop 11 _) [[], [0], [1], [2], [], [4], [5], [6], [7], [3, 8], []] [6, 7, 8, 9, 10, 11, 12, 13, 14, 15, 3] (fun i_ vs_ v_ p_ => match i_ with | 0 => v_ = .pointer (some ⟨b1, 0 + 0, none⟩) ∧ p_ = [] | 1 => v_ = m.sv ∧ p_ = [] | 2 => v_ = jI (m.ss.length : Int) ∧ p_ = [] | 3 => IsRow 3 1 ((List.replicate m.ss.length (0 : Int)).length) (mI (List.replicate m.ss.length (0 : Int))) v_ p_ | 4 => v_ = .pointer (some ⟨b1, 0 + 3, none⟩) ∧ p_ = [] | 5 => v_ = m.mv ∧ p_ = [] | 6 => v_ = jI (m.ms.length : Int) ∧ p_ = [] | 7 => v_ = jI (4 * (m.ms.length : Int)) ∧ p_ = [] | 8 => IsRow 3 1 ((List.replicate (4 * m.ms.length : Nat) (0 : Int)).length) (mI (List.replicate (4 * m.ms.length : Nat) (0 : Int))) v_ p_ | 9 => v_ = .agg #[(gV9 vs_ 0), (gV9 vs_ 1)] ∧ p_ = [] | 10 => IsBox #[.slice none 0 0, .slice none 0 0] 50 v_ p_ | _ => True) (List.take_append_drop 11 _).symm (by kernel_rfl) (by kernel_rfl) C C ?_ ?_
 refine ⟨?_, ?_, ?_, ?_, ?_, ?_, ?_, ?_, ?_, ?_, ?_, trivial⟩
 intro vf pf hR
 exact jJ C (aU [1] C) (bH (bM 0 C C C))
 intro vf pf hR
 have e0 := hR 0 (by decide)
 exact gR C (sk 6 (congrArg some e0.1) (aL _)) (bH (aC C C C (aA 1 C C)))
 intro vf pf hR
 have e1 := hR 1 (by decide)
 exact gR C (sk 7 (congrArg some e1.1) (aL _)) (bH (dL C C C (aD ((hr).s))))
 intro vf pf hR
 have e2 := hR 2 (by decide)
 exact gR C (sk 8 (congrArg some e2.1) (aL _)) (iL (z := jI 0) (s := 1) (bytes := 8) (n := (List.replicate m.ss.length (0 : Int)).length) (cs := (mI (List.replicate m.ss.length (0 : Int)))) C Try.underlying48 C (by decide) C C (by first | (rw [List.length_replicate]; done) | (rw [List.length_replicate]; omega)) (by first | (rw [List.length_replicate]; done) | (rw [List.length_replicate]; omega)) (by rw [List.length_replicate]; omega) (hZ _))
 intro vf pf hR
 exact jJ C (aU [1] C) (bH (bM 3 C C C))
 intro vf pf hR
 have e4 := hR 4 (by decide)
 exact gR C (sk 10 (congrArg some e4.1) (aL _)) (bH (aC C C C (aA 1 C C)))
 intro vf pf hR
 have e5 := hR 5 (by decide)
 exact gR C (sk 11 (congrArg some e5.1) (aL _)) (bH (dL C C C (aD ((hr).m))))
 intro vf pf hR
 have e6 := hR 6 (by decide)
 exact jJ C (sk 12 (congrArg some e6.1) (aL _)) (bH (jT C C C (by constructor <;> omega)))
 intro vf pf hR
 have e7 := hR 7 (by decide)
 exact gR C (sk 13 (congrArg some e7.1) (aL _)) (iL (z := jI 0) (s := 1) (bytes := 8) (n := (List.replicate (4 * m.ms.length : Nat) (0 : Int)).length) (cs := (mI (List.replicate (4 * m.ms.length : Nat) (0 : Int)))) C Try.underlying48 C (by decide) C C (by first | (rw [List.length_replicate]; done) | (rw [List.length_replicate]; omega)) (by first | (rw [List.length_replicate]; done) | (rw [List.length_replicate]; omega)) (by rw [List.length_replicate]; omega) (hZ _))
 intro vf pf hR
 have e3 : IsRow 3 1 ((List.replicate m.ss.length (0 : Int)).length) (mI (List.replicate m.ss.length (0 : Int))) (vf 3) (pf 3) := hR 3 (by decide)
 obtain ⟨g3, vE3, pE3⟩ := e3
 have e8 : IsRow 3 1 ((List.replicate (4 * m.ms.length : Nat) (0 : Int)).length) (mI (List.replicate (4 * m.ms.length : Nat) (0 : Int))) (vf 8) (pf 8) := hR 8 (by decide)
 obtain ⟨g4, vE8, pE8⟩ := e8
 refine Or.inl ⟨C, ?_⟩
 exact dJ (sk 9 (congrArg some vE3) (sk 14 (congrArg some vE8) (aL _))) (by simp only [pE3, vE3, pE8, vE8, fS] <;> rfl) (eB (bH (cU (cs := #[.slice (some ⟨g3, 0, none⟩) ((List.replicate m.ss.length (0 : Int)).length) ((List.replicate m.ss.length (0 : Int)).length), .slice (some ⟨g4, 0, none⟩) ((List.replicate (4 * m.ms.length : Nat) (0 : Int)).length) ((List.replicate (4 * m.ms.length : Nat) (0 : Int)).length)]) C C C)) (fun _ _ h => ⟨h.1.trans (by show _ = (.agg #[(vf 3), (vf 8)] : Value); first | (rw [vE3, vE8]; done) | (rw [vE3, vE8]; rfl)), h.2⟩))
 intro vf pf hR
 exact gR C (aL _) (bG (z := .agg #[.slice none 0 0, .slice none 0 0]) C C)
 intro vf pf hR
 have e3 : IsRow 3 1 ((List.replicate m.ss.length (0 : Int)).length) (mI (List.replicate m.ss.length (0 : Int))) (vf 3) (pf 3) := hR 3 (by decide)
 obtain ⟨g3, vE3, pE3⟩ := e3
 have e8 : IsRow 3 1 ((List.replicate (4 * m.ms.length : Nat) (0 : Int)).length) (mI (List.replicate (4 * m.ms.length : Nat) (0 : Int))) (vf 8) (pf 8) := hR 8 (by decide)
 obtain ⟨g4, vE8, pE8⟩ := e8
 have e9 : (vf 9) = .agg #[(vf 3), (vf 8)] ∧ (pf 9) = [] := hR 9 (by decide)
 rw [vE3, vE8] at e9
 have e10 : IsBox #[.slice none 0 0, .slice none 0 0] 50 (vf 10) (pf 10) := hR 10 (by decide)
 obtain ⟨b5, vE10, pE10⟩ := e10
 have q0 := hR 0 (by decide)
 have q1 := hR 1 (by decide)
 have q2 := hR 2 (by decide)
 have q4 := hR 4 (by decide)
 have q5 := hR 5 (by decide)
 have q6 := hR 6 (by decide)
 have q7 := hR 7 (by decide)
 have q9 := hR 9 (by decide)
 refine dV (dB [2, 1, 0] _ (sk 3 (congrArg some vE10) (sk 15 (congrArg some e9.1) (aL _))) C) (by simp only [pE3, vE3, pE8, vE8, pE10, vE10, q0.2, q1.2, q2.2, q4.2, q5.2, q6.2, q7.2, q9.2, fS] <;> rfl) ?_
 simp only [List.drop_succ_cons, List.drop_zero]
 refine bE (cs' := #[.slice (some ⟨g3, 0, none⟩) ((List.replicate m.ss.length (0 : Int)).length) ((List.replicate m.ss.length (0 : Int)).length), .slice (some ⟨g4, 0, none⟩) ((List.replicate (4 * m.ms.length : Nat) (0 : Int)).length) ((List.replicate (4 * m.ms.length : Nat) (0 : Int)).length)]) (i := 2) (off := 0) (us := [.slice (some ⟨g3, 0, none⟩) ((List.replicate m.ss.length (0 : Int)).length) ((List.replicate m.ss.length (0 : Int)).length), .slice (some ⟨g4, 0, none⟩) ((List.replicate (4 * m.ms.length : Nat) (0 : Int)).length) ((List.replicate (4 * m.ms.length : Nat) (0 : Int)).length)]) C C C C C C C (aB C (aB C bC)) C C C (bQ (eM (aI C (bM 0 C C C) (aI C (aC C C C (aA 4 C C)) (aI C (dL C C C (aD ((hr).s))) (aP 1 C (bD ?_)))))))
 refine jZ (α := Nat) (β := List Int) [0, 1, 2, 3, 17, 18] C (fun i zs => [rI9 3 (.slice (some ⟨g3, 0, none⟩) ((List.replicate m.ss.length (0 : Int)).length) ((List.replicate m.ss.length (0 : Int)).length)) zs, rowE 3 1 (.slice (some ⟨g4, 0, none⟩) ((List.replicate (4 * m.ms.length : Nat) (0 : Int)).length) ((List.replicate (4 * m.ms.length : Nat) (0 : Int)).length)) ((List.replicate (4 * m.ms.length : Nat) (0 : Int)).length) (mI (List.replicate (4 * m.ms.length : Nat) (0 : Int))), boxE b5 #[.slice (some ⟨g3, 0, none⟩) ((List.replicate m.ss.length (0 : Int)).length) ((List.replicate m.ss.length (0 : Int)).length), .slice (some ⟨g4, 0, none⟩) ((List.replicate (4 * m.ms.length : Nat) (0 : Int)).length) ((List.replicate (4 * m.ms.length : Nat) (0 : Int)).length)] 50, boxE b2 #[.slice none 0 0, .slice none 0 0] 50, boxE b1 #[m.sv, m.av, m.iv, m.mv] 35]) (fun i zs => [(19, jI (i : Int))]) (fun i zs => i ≤ m.ss.length ∧ zs = staA m i) (fun i zs => m.ss.length - i) 0 (List.replicate m.ss.length 0) ⟨Nat.zero_le _, C⟩ (cN C) (eT C) ?_
 intro i zs hi6
 obtain ⟨hi, hz⟩ := hi6
 have hzl : zs.length = m.ss.length := by rw [hz]; exact kQ m i
 refine cA ?_
 refine bN C C C C C C (fun h7 => ?_) (fun h7 => ?_)
 refine bQ (jX C (cE (fD (aF (cG 1 C (aI C (cR 3 C C C C (aD ((hr).s))) ?_))))))
 refine aI C (bL (us := [jI ((m.ss.getD i sg0).k), jI ((m.ss.getD i sg0).w), jI ((m.ss.getD i sg0).i)]) C C C C (aD ((hr).s)) (by omega) C (bY sgC 3 (fun _ => C) m.ss sg0 (show i < _ by omega) C)) (cL C (bG (z := .agg #[jI 0, jI 0, jI 0]) C C) ?_)
 intro b8
 refine aH 1 C (bE (cs' := #[jI ((m.ss.getD i sg0).k), jI ((m.ss.getD i sg0).w), jI ((m.ss.getD i sg0).i)]) (i := 0) (off := 0) (us := [jI ((m.ss.getD i sg0).k), jI ((m.ss.getD i sg0).w), jI ((m.ss.getD i sg0).i)]) C C C C C C C (aB C (aB C (aB C bC))) C C C ?_)
 refine bQ (cA (aI C (bM 0 C C C) (aI C (aC C C C (aA 0 C C)) ?_)))
 refine bU C C C C C C (fun h9 => ?_) (fun h9 => ?_)
 refine bQ (aK C ?_)
 refine cI 10 [[], [0], [], [], [3], [], [5], [6], [4, 7], [1, 2]] [27, 28, 29, 30, 31, 32, 33, 34, 35, 36] [.pointer (some ⟨b5, 0 + 0, none⟩), .slice (some ⟨g3, 0, none⟩) ((List.replicate m.ss.length (0 : Int)).length) ((List.replicate m.ss.length (0 : Int)).length), jI (i : Int), .pointer (some ⟨b8, 0 + 2, none⟩), jI ((m.ss.getD i sg0).i), .pointer (some ⟨b8, 0 + 1, none⟩), jI ((m.ss.getD i sg0).w), jI (wmK ((m.ss.getD i sg0).w)), jI (bits .and .i64 ((m.ss.getD i sg0).i) (wmK ((m.ss.getD i sg0).w))), elP (.slice (some ⟨g3, 0, none⟩) ((List.replicate m.ss.length (0 : Int)).length) ((List.replicate m.ss.length (0 : Int)).length)) ((i : Int).toNat * 1)] (by kernel_rfl) C ?_ ?_
 exact ⟨bF C (bM 0 C C C) C, bF C (aC C C C (aA 3 C C)) C, bF C (aY C) C, bF C (bM 2 C C C) C, bF C (aC C C C (aA 0 C C)) C, bF C (bM 1 C C C) C, bF C (aC C C C (aA 0 C C)) C, .inl ⟨C, aV C C (fun w hm => bJ (jR ((m.ss.getD i sg0).w) w (hfl.sw (by omega))))⟩, bF C (dS C (by decide) C C (r := bits .and .i64 ((m.ss.getD i sg0).i) (wmK ((m.ss.getD i sg0).w))) C) C, bF C (cR 1 C C C C (aJ 1 C)) C, trivial⟩
 simp only [List.drop_succ_cons, List.drop_zero]
 refine fY (i := 1) (n' := (zs.set i (bits .and .i64 ((m.ss.getD i sg0).i) (wmK ((m.ss.getD i sg0).w)))).length) (xs' := ((zs.set i (bits .and .i64 ((m.ss.getD i sg0).i) (wmK ((m.ss.getD i sg0).w)))).map (Value.int .i64))) C C C C C C C C (by first | omega | (simp only [List.length_set]; omega)) List.length_set.symm (fM _ _ _) C (bK (cK (aO (aI C (dO C C C) (dA 1 C ?_)))))
 exact cX (i + 1) (zs.set i (bits .and .i64 ((m.ss.getD i sg0).i) (wmK ((m.ss.getD i sg0).w)))) ⟨by omega, by rw [hz]; exact oZ (by omega)⟩ (by omega) (cN rfl) (eO [1, 0, 0, 0, 0] rfl)
 refine bQ (gM C (cK (aO (aI C (dO C C C) (dA 1 C ?_)))))
 exact cX (i + 1) zs ⟨by omega, hz.trans (rJ (by omega))⟩ (by omega) (cN C) (eO [1, 0, 0, 0, 0] C)
 refine bQ (kD C ?_)
 refine bI (dC ?_)
 refine aM (aR (aF (aO (aI C (aW (cs := [.slice (some ⟨g3, 0, none⟩) ((List.replicate m.ss.length (0 : Int)).length) ((List.replicate m.ss.length (0 : Int)).length), .slice (some ⟨g4, 0, none⟩) ((List.replicate (4 * m.ms.length : Nat) (0 : Int)).length) ((List.replicate (4 * m.ms.length : Nat) (0 : Int)).length)]) C C C C C (aT 2 C 0 C)) ?_))))
 refine bE (cs' := #[.slice (some ⟨g3, 0, none⟩) ((List.replicate m.ss.length (0 : Int)).length) ((List.replicate m.ss.length (0 : Int)).length), .slice (some ⟨g4, 0, none⟩) ((List.replicate (4 * m.ms.length : Nat) (0 : Int)).length) ((List.replicate (4 * m.ms.length : Nat) (0 : Int)).length)]) (i := 3) (off := 0) (us := [.slice (some ⟨g3, 0, none⟩) ((List.replicate m.ss.length (0 : Int)).length) ((List.replicate m.ss.length (0 : Int)).length), .slice (some ⟨g4, 0, none⟩) ((List.replicate (4 * m.ms.length : Nat) (0 : Int)).length) ((List.replicate (4 * m.ms.length : Nat) (0 : Int)).length)]) C C C C C C C (aB C (aB C bC)) C C C (bQ ?_)
 refine aN (cD 5 [4, 3, 2, 1, 0] C C (by decide) ?_)
 exact cH (rs := [.cell 2 50]) (vs := [.agg #[.slice (some ⟨g3, 0, none⟩) ((List.replicate m.ss.length (0 : Int)).length) ((List.replicate m.ss.length (0 : Int)).length), .slice (some ⟨g4, 0, none⟩) ((List.replicate (4 * m.ms.length : Nat) (0 : Int)).length) ((List.replicate (4 * m.ms.length : Nat) (0 : Int)).length)]]) (post := [rI9 3 (.slice (some ⟨g3, 0, none⟩) ((List.replicate m.ss.length (0 : Int)).length) ((List.replicate m.ss.length (0 : Int)).length)) zs, rowE 3 1 (.slice (some ⟨g4, 0, none⟩) ((List.replicate (4 * m.ms.length : Nat) (0 : Int)).length) ((List.replicate (4 * m.ms.length : Nat) (0 : Int)).length)) ((List.replicate (4 * m.ms.length : Nat) (0 : Int)).length) (mI (List.replicate (4 * m.ms.length : Nat) (0 : Int)))]) rfl ⟨⟨b2, 0, [.slice (some ⟨g3, 0, none⟩) ((List.replicate m.ss.length (0 : Int)).length) ((List.replicate m.ss.length (0 : Int)).length), .slice (some ⟨g4, 0, none⟩) ((List.replicate (4 * m.ms.length : Nat) (0 : Int)).length) ((List.replicate (4 * m.ms.length : Nat) (0 : Int)).length)], rfl, rfl, by kernel_rfl, by kernel_rfl, aT 3 rfl 0 rfl⟩, trivial⟩ rfl (eO [0, 0] rfl) ⟨_, _, rfl, by rw [hz, show i = m.ss.length by omega]; rfl⟩
theorem jY (m : Md) (vs ws ins : List Int) (uo uv uw ui : Value) (w : World) (hr : RdsMd w m) (hfl : FlP m) (hv : RdsW w uv 1 vs.length (vs.map (Value.int .i64))) (hw : RdsW w uw 1 ws.length (ws.map (Value.int .i64))) (ho : RdsW w uo 1 (eoK m).length ((eoK m).map (Value.int .i64))) (hn : RdsW w ui 1 ins.length (ins.map (Value.int .i64))) (hil : ins.length = (pwK m 0).length) (hV : VlP m vs) :
   Calls Try.prog 67 #[.agg #[m.sv, m.av, m.iv, m.mv], uo, .agg #[uv, uw], ui] w (Ret w (fun v' post => post = [rI9 3 v' (sgK m vs ins)])) := by
 have hs9 := gL hr.s
 have ho9 := gL ho
 have hg9 := gL hr.g
 have hln := hfl.lens
 have hvl := hV.len
 refine bW (N := 75) (args := [.agg #[m.sv, m.av, m.iv, m.mv], uo, .agg #[uv, uw], ui]) Try.func67 C C (cA ?_)
 refine cL C (cY C C) ?_
 intro b1
 refine cL C (cY C C) ?_
 intro b2
 refine aP 1 C (cA (aI C (bM 0 C C C) (aI C (aC C C C (aA 0 C C)) ?_)))
 refine fC C C C (aV C C (fun w hm => lR vs uv w ((aD hv) w hm) (by omega))) ?_
 intro v3 p4 R5
 subst R5
 refine aP 1 C (bA 1 C (eM (aI C (bM 0 C C C) ?_)))
 refine aI C (aC C C C (aA 2 C C)) (aI C (dL C C C (aD ((hr).s))) (aP 1 C (bD ?_)))
 refine jC (α := Nat) (β := Nat) (γ := List Int) [0, 1, 2, 3, 4, 6, 8, 9, 20, 21] C (fun i k zs => [rI9 3 v3 zs, boxE b2 #[uv, uw] 50, boxE b1 #[m.sv, m.av, m.iv, m.mv] 35]) (fun i k zs => [(10, jI (k : Int)), (22, jI (i : Int))]) (fun i k zs => i ≤ m.ss.length ∧ k = (inA m ins vs i).2 ∧ zs = (inA m ins vs i).1) (fun i k zs => m.ss.length - i) 0 0 vs ⟨Nat.zero_le _, C, C⟩ (cN C) (eT C) ?_
 intro i k zs hi6
 obtain ⟨hi, hk, hz⟩ := hi6
 have hzo : VlP m zs := by rw [hz]; exact kY hfl hV i hi
 have hzl := hzo.len
 have hk30 : k ≤ i := by rw [hk, lI]; exact nJ _ _ _
 refine cA ?_
 refine bN C C C C C C (fun h7 => ?_) (fun h7 => ?_)
 refine bQ (jX C (cE (fD (aF (cG 1 C (aI C (cR 3 C C C C (aD ((hr).s))) ?_))))))
 refine aI C (bL (us := [jI ((m.ss.getD i sg0).k), jI ((m.ss.getD i sg0).w), jI ((m.ss.getD i sg0).i)]) C C C C (aD ((hr).s)) (by omega) C (bY sgC 3 (fun _ => C) m.ss sg0 (show i < _ by omega) C)) (cL C (bG (z := .agg #[jI 0, jI 0, jI 0]) C C) ?_)
 intro b8
 refine aH 1 C (bE (cs' := #[jI ((m.ss.getD i sg0).k), jI ((m.ss.getD i sg0).w), jI ((m.ss.getD i sg0).i)]) (i := 0) (off := 0) (us := [jI ((m.ss.getD i sg0).k), jI ((m.ss.getD i sg0).w), jI ((m.ss.getD i sg0).i)]) C C C C C C C (aB C (aB C (aB C bC))) C C C ?_)
 refine bQ (cA (aI C (bM 0 C C C) (aI C (aC C C C (aA 0 C C)) ?_)))
 refine bU C C C C C C (fun h9 => ?_) (fun h9 => ?_)
 refine bQ (aK C (aF ?_))
 have hki : k < ins.length := by rw [hk, lI, hil]; unfold pwK; rw [if_pos hln.1]; exact uY (by omega) (by omega)
 refine cI 11 [[], [], [], [], [2, 3], [4], [], [6], [7], [5, 8], [0, 1]] [30, 31, 32, 33, 34, 35, 36, 37, 38, 39, 40] [v3, jI (i : Int), ui, jI (k : Int), elP ui ((k : Int).toNat * 1), jI (ins.getD k 0), .pointer (some ⟨b8, 0 + 1, none⟩), jI ((m.ss.getD i sg0).w), jI (wmK ((m.ss.getD i sg0).w)), jI (bits .and .i64 (ins.getD k 0) (wmK ((m.ss.getD i sg0).w))), elP v3 ((i : Int).toNat * 1)] (by kernel_rfl) C ?_ ?_
 exact ⟨bF C (aY C) C, bF C (aY C) C, bF C (aY C) C, bF C (aY C) C, bF C (cR 1 C C C C (aD hn)) C, bF C (qD C C C (aD hn)) C, bF C (bM 1 C C C) C, bF C (aC C C C (aA 0 C C)) C, .inl ⟨C, aV C C (fun w hm => bJ (jR ((m.ss.getD i sg0).w) w (hfl.sw (by omega))))⟩, bF C (dS C (by decide) C C (r := bits .and .i64 (ins.getD k 0) (wmK ((m.ss.getD i sg0).w))) C) C, bF C (cR 1 C C C C (aJ 1 C)) C, trivial⟩
 simp only [List.drop_succ_cons, List.drop_zero]
 refine fY (i := 1) (n' := (zs.set i (bits .and .i64 (ins.getD k 0) (wmK ((m.ss.getD i sg0).w)))).length) (xs' := ((zs.set i (bits .and .i64 (ins.getD k 0) (wmK ((m.ss.getD i sg0).w)))).map (Value.int .i64))) C C C C C C C C (by first | omega | (simp only [List.length_set]; omega)) List.length_set.symm (fM _ _ _) C (bQ (cG 1 C (aI C (dO C C C) (dA 1 C (cK (aO (aI C (dO C C C) (aH 1 C ?_))))))))
 refine bK ?_
 obtain ⟨hz8, hk8⟩ := sG hz hk (show (m.ss.getD i sg0).k = 0 by omega)
 exact cO (i + 1) (k + 1) (zs.set i (bits .and .i64 (ins.getD k 0) (wmK ((m.ss.getD i sg0).w)))) ⟨by omega, hk8, hz8⟩ (by omega) (cN C) (eO [1, 0, 0] C)
 refine bQ (gM C (cK (aO (aI C (dO C C C) (dA 1 C ?_)))))
 obtain ⟨hz8, hk8⟩ := vF hz hk (show ¬ (m.ss.getD i sg0).k = 0 by omega)
 exact cO (i + 1) k zs ⟨by omega, hk8, hz8⟩ (by omega) (cN C) (eO [1, 0, 0] C)
 refine bQ (kD C ?_)
 refine bI (dC ?_)
 refine aM (aR (aF (aF (cG 1 C (aI C (dL C C C (aD ho)) (aP 1 C (bD ?_)))))))
 refine jZ (α := Nat) (β := List Int) [0, 1, 2, 3, 4, 6, 8, 9, 10, 20, 21, 22, 23, 44, 45] rfl (fun j ys => [rI9 3 v3 ys, boxE b2 #[uv, uw] 50, boxE b1 #[m.sv, m.av, m.iv, m.mv] 35]) (fun j ys => [(46, jI (j : Int))]) (fun j ys => j ≤ (eoK m).length ∧ ys = ordV m (eoK m) (inA m ins vs m.ss.length).1 j) (fun j ys => (eoK m).length - j) 0 zs ⟨Nat.zero_le _, by rw [hz, show i = m.ss.length by omega]; rfl⟩ (cN rfl) (eT rfl) ?_
 intro j ys hi10
 obtain ⟨hj, hy⟩ := hi10
 have hyo : VlP m ys := by rw [hy]; exact rT hfl (kY hfl hV _ (Nat.le_refl _)) j hj
 have hyl := hyo.len
 refine cA ?_
 refine bN C C C C C C (fun h11 => ?_) (fun h11 => ?_)
 refine bQ (jX C (cE (fD (cA (aI C (cR 1 C C C C (aD ho)) (aI C (aQ (u := jI ((eoK m).getD j 0)) C C C (aD ho) (cJ (show _ < (eoK m).length by omega))) ?_))))))
 have hxr := Ai hfl (cV (d := (0 : Int)) (show j < (eoK m).length by omega))
 obtain ⟨x, hx9⟩ : ∃ x : Nat, (eoK m).getD j 0 = (x : Int) := ⟨((eoK m).getD j 0).toNat, by omega⟩
 rw [hx9]
 have hxl : x < m.gs.length := by omega
 obtain ⟨⟨htr, -⟩, hxo⟩ := hfl.as hxl
 rw [← hyl] at hxo
 have hxw := hfl.sw (s := (m.gs.getD x as0).t.toNat) (by omega)
 refine aP 1 C (cA (aI C (bM 1 C C C) (aI C (aC C C C (aA 2 C C)) (aH 1 C (aI C (cR 2 C C C C (aD ((hr).g))) ?_)))))
 refine aI C (bL (us := [jI ((m.gs.getD x as0).t), (m.gs.getD x as0).ov]) C C C C (aD ((hr).g)) (by omega) C (bY asC 2 (fun _ => C) m.gs as0 (show x < _ by omega) C)) (cL C (bG (z := .agg #[jI 0, .slice none 0 0]) C C) ?_)
 intro b12
 refine bE (cs' := #[jI ((m.gs.getD x as0).t), (m.gs.getD x as0).ov]) (i := 0) (off := 0) (us := [jI ((m.gs.getD x as0).t), (m.gs.getD x as0).ov]) C C C C C C C (aB C (aB (hr.o.at (k := x) (by omega)).one bC)) C C C (bQ ?_)
 refine hC 4 [3, 2, 0, 1] C C (by decide) ?_
 refine iF (l := [boxE b12 #[jI ((m.gs.getD x as0).t), (m.gs.getD x as0).ov] 89, boxE b2 #[uv, uw] 50, boxE b1 #[m.sv, m.av, m.iv, m.mv] 35]) C 19 [0, 1, 2, 3, 4, 5, 6, 7, 8, 9, 10, 11, 12, 13, 14, 15, 16, 17, 18] (List.take 19 _) (List.drop 19 _) [[], [], [1], [], [3], [], [], [6], [], [8], [7, 9], [10], [11], [4, 5, 12], [13], [14], [14], [0, 2], [15, 17]] [some 56, some 57, some 58, some 59, some 60, some 61, some 62, some 63, some 64, some 65, some 66, some 67, some 68, some 69, some 55, some 70, some 71, some 72, none] (fun i_ vs_ v_ p_ => match i_ with | 0 => v_ = v3 ∧ p_ = [] | 1 => v_ = .pointer (some ⟨b12, 0 + 0, none⟩) ∧ p_ = [] | 2 => v_ = jI ((m.gs.getD x as0).t) ∧ p_ = [] | 3 => v_ = .pointer (some ⟨b12, 0 + 1, none⟩) ∧ p_ = [] | 4 => v_ = (m.gs.getD x as0).ov ∧ p_ = [] | 5 => v_ = v3 ∧ p_ = [] | 6 => v_ = .pointer (some ⟨b1, 0 + 0, none⟩) ∧ p_ = [] | 7 => v_ = m.sv ∧ p_ = [] | 8 => v_ = .pointer (some ⟨b12, 0 + 0, none⟩) ∧ p_ = [] | 9 => v_ = jI ((m.gs.getD x as0).t) ∧ p_ = [] | 10 => v_ = elP m.sv (((m.gs.getD x as0).t).toNat * 3) ∧ p_ = [] | 11 => v_ = elP m.sv (((m.gs.getD x as0).t).toNat * 3 + 1) ∧ p_ = [] | 12 => v_ = jI ((m.ss.getD (((m.gs.getD x as0).t).toNat) sg0).w) ∧ p_ = [] | 13 => v_ = .tuple #[jI (evK (m.gs.getD x as0).os ys ((m.ss.getD (((m.gs.getD x as0).t).toNat) sg0).w)), jI ((evE (m.gs.getD x as0).os ys ((m.ss.getD (((m.gs.getD x as0).t).toNat) sg0).w) (m.gs.getD x as0).os.length 0).2 : Int)] ∧ p_ = [] | 14 => v_ = .tuple #[jI (evK (m.gs.getD x as0).os ys ((m.ss.getD (((m.gs.getD x as0).t).toNat) sg0).w)), jI ((evE (m.gs.getD x as0).os ys ((m.ss.getD (((m.gs.getD x as0).t).toNat) sg0).w) (m.gs.getD x as0).os.length 0).2 : Int)] ∧ p_ = [] | 15 => v_ = jI (evK (m.gs.getD x as0).os ys ((m.ss.getD (((m.gs.getD x as0).t).toNat) sg0).w)) ∧ p_ = [] | 16 => v_ = jI ((evE (m.gs.getD x as0).os ys ((m.ss.getD (((m.gs.getD x as0).t).toNat) sg0).w) (m.gs.getD x as0).os.length 0).2 : Int) ∧ p_ = [] | 17 => v_ = elP v3 (((m.gs.getD x as0).t).toNat * 1) ∧ p_ = [] | 18 => p_ = [rowE 3 1 v3 ((ys.set (((m.gs.getD x as0).t).toNat) (evK (m.gs.getD x as0).os ys ((m.ss.getD (((m.gs.getD x as0).t).toNat) sg0).w))).length) ((ys.set (((m.gs.getD x as0).t).toNat) (evK (m.gs.getD x as0).os ys ((m.ss.getD (((m.gs.getD x as0).t).toNat) sg0).w))).map (Value.int .i64))] | _ => True) [[], [], [1], [], [3], [], [], [6], [], [8], [7, 9], [10], [11], [4, 5, 12, 19], [13], [14], [14], [0, 2, 19], [15, 17]] [none, none, none, none, none, none, none, none, none, none, none, none, none, none, none, none, none, none, some 19] [[rI9 3 v3 ys]] [0, 1, 2, 3, 4, 5, 6, 7, 8, 9, 10, 11, 12, 13, 14, 15, 16, 17, 18] 19 (List.take_append_drop 19 _).symm (by kernel_rfl) (by kernel_rfl) (by kernel_rfl) C C ?_ ?_
 refine ⟨?_, ?_, ?_, ?_, ?_, ?_, ?_, ?_, ?_, ?_, ?_, ?_, ?_, ?_, ?_, ?_, ?_, ?_, ?_, trivial⟩
 intro vf pf hmu hR
 refine cT [] [] C (cC (aU [9] C) ?_)
 exact bH (aY C)
 intro vf pf hmu hR
 refine cT [] [] C (cC (aU [15] C) ?_)
 exact bH (bM 0 C C C)
 intro vf pf hmu hR
 have e1 := hR 1 (by decide)
 refine cT [1] [1] C (bP (sk 57 (congrArg some e1.1) (aL _)) (List.sublist_append_right _ _) ?_)
 exact bH (aC C C C (aA 0 C C))
 intro vf pf hmu hR
 refine cT [] [] C (cC (aU [15] C) ?_)
 exact bH (bM 1 C C C)
 intro vf pf hmu hR
 have e3 := hR 3 (by decide)
 refine cT [3] [3] C (bP (sk 59 (congrArg some e3.1) (aL _)) (List.sublist_append_right _ _) ?_)
 exact bH (aC C C C (aA 0 C C))
 intro vf pf hmu hR
 refine cT [] [] C (cC (aU [9] C) ?_)
 exact bH (aY C)
 intro vf pf hmu hR
 refine cT [] [] C (cC (aU [4] C) ?_)
 exact bH (bM 0 C C C)
 intro vf pf hmu hR
 have e6 := hR 6 (by decide)
 refine cT [6] [6] C (bP (sk 62 (congrArg some e6.1) (aL _)) (List.sublist_append_right _ _) ?_)
 exact bH (aC C C C (aA 2 C C))
 intro vf pf hmu hR
 refine cT [] [] C (cC (aU [15] C) ?_)
 exact bH (bM 0 C C C)
 intro vf pf hmu hR
 have e8 := hR 8 (by decide)
 refine cT [8] [8] C (bP (sk 64 (congrArg some e8.1) (aL _)) (List.sublist_append_right _ _) ?_)
 exact bH (aC C C C (aA 0 C C))
 intro vf pf hmu hR
 have e7 := hR 7 (by decide)
 have e9 := hR 9 (by decide)
 refine cT [7, 9] [7, 9] C (bP (sk 63 (congrArg some e7.1) (sk 65 (congrArg some e9.1) (aL _))) (List.sublist_append_right _ _) ?_)
 exact bH (cR 3 C C C C (aD ((hr).s)))
 intro vf pf hmu hR
 have e10 := hR 10 (by decide)
 refine cT [10] [10] C (bP (sk 66 (congrArg some e10.1) (aL _)) (List.sublist_append_right _ _) ?_)
 exact bH (aZ (k0 := 1) C C C (aD ((hr).s)) (by omega))
 intro vf pf hmu hR
 have e11 := hR 11 (by decide)
 refine cT [11] [11] C (bP (sk 67 (congrArg some e11.1) (aL _)) (List.sublist_append_right _ _) ?_)
 exact bH (aQ (u := jI ((m.ss.getD (((m.gs.getD x as0).t).toNat) sg0).w)) C C C (aD ((hr).s)) ((bR sgC 3 (fun _ => C) m.ss sg0 (show ((m.gs.getD x as0).t).toNat < _ by omega) (by decide)).trans C))
 intro vf pf hmu hR
 have e4 := hR 4 (by decide)
 have e5 := hR 5 (by decide)
 have e12 := hR 12 (by decide)
 refine cT [4, 5, 12, 19] [4, 5, 12] C ?_
 have hmu0 : pf 19 = [rI9 3 v3 ys] := hmu 0 (show 0 < 1 by omega)
 exact dJ (sk 60 (congrArg some e4.1) (sk 61 (congrArg some e5.1) (sk 68 (congrArg some e12.1) (aL _)))) (by simp only [hmu0, e4.2, e5.2, e12.2, fS] <;> rfl) (aV C C (fun w hm => mB (m.gs.getD x as0).os ys _ _ _ hxo hxw (m.gs.getD x as0).os.length 0 (Nat.sub_le _ _) hxo.pos w ((hr.o.at (k := x) (by omega)).below hm.bel) (aJ 0 C w hm)))
 intro vf pf hmu hR
 have e13 := hR 13 (by decide)
 refine cT [13] [13] C (cC (sk 69 (congrArg some e13.1) (aL _)) ?_)
 exact bH (aY C)
 intro vf pf hmu hR
 have e14 := hR 14 (by decide)
 refine cT [14] [14] C (cC (sk 55 (congrArg some e14.1) (aL _)) ?_)
 exact bH (aY C)
 intro vf pf hmu hR
 have e14 := hR 14 (by decide)
 refine cT [14] [14] C (cC (sk 55 (congrArg some e14.1) (aL _)) ?_)
 exact bH (aY C)
 intro vf pf hmu hR
 have e0 := hR 0 (by decide)
 have e2 := hR 2 (by decide)
 refine cT [0, 2, 19] [0, 2] C ?_
 have hmu0 : pf 19 = [rI9 3 v3 ys] := hmu 0 (show 0 < 1 by omega)
 exact dJ (sk 56 (congrArg some e0.1) (sk 58 (congrArg some e2.1) (aL _))) (by simp only [hmu0, e0.2, e2.2, fS] <;> rfl) (bH (cR 1 C C C C (aJ 0 C)))
 intro vf pf hmu hR
 have e15 := hR 15 (by decide)
 have e17 := hR 17 (by decide)
 refine Or.inl ⟨C, ?_⟩
 show RunM _ _ _ (pf 19) (([15, 17] : List Nat).flatMap pf ++ _) (envOf3 _ vf [15, 17] ++ _) _ _
 have hmu0 : pf 19 = [rI9 3 v3 ys] := hmu 0 (show 0 < 1 by omega)
 rw [hmu0]
 exact eE (sk 70 (congrArg some e15.1) (sk 72 (congrArg some e17.1) (aL _))) (by simp only [e15.2, e17.2, fS] <;> rfl) (mP (pE (n' := (ys.set (((m.gs.getD x as0).t).toNat) (evK (m.gs.getD x as0).os ys ((m.ss.getD (((m.gs.getD x as0).t).toNat) sg0).w))).length) (xs' := ((ys.set (((m.gs.getD x as0).t).toNat) (evK (m.gs.getD x as0).os ys ((m.ss.getD (((m.gs.getD x as0).t).toNat) sg0).w))).map (Value.int .i64))) 0 C C C C C C C (by first | omega | (simp only [List.length_set]; omega)) List.length_set.symm (fM _ _ _)) (fun v_ p_ h => by show p_ = [rowE 3 1 v3 ((ys.set (((m.gs.getD x as0).t).toNat) (evK (m.gs.getD x as0).os ys ((m.ss.getD (((m.gs.getD x as0).t).toNat) sg0).w))).length) ((ys.set (((m.gs.getD x as0).t).toNat) (evK (m.gs.getD x as0).os ys ((m.ss.getD (((m.gs.getD x as0).t).toNat) sg0).w))).map (Value.int .i64))]; exact h))
 intro vf pf hmu hR
 have e18 : (pf 18) = [rowE 3 1 v3 ((ys.set (((m.gs.getD x as0).t).toNat) (evK (m.gs.getD x as0).os ys ((m.ss.getD (((m.gs.getD x as0).t).toNat) sg0).w))).length) ((ys.set (((m.gs.getD x as0).t).toNat) (evK (m.gs.getD x as0).os ys ((m.ss.getD (((m.gs.getD x as0).t).toNat) sg0).w))).map (Value.int .i64))] := hR 18 (by decide)
 have pE18 := e18
 have q0 := hR 0 (by decide)
 have q1 := hR 1 (by decide)
 have q2 := hR 2 (by decide)
 have q3 := hR 3 (by decide)
 have q4 := hR 4 (by decide)
 have q5 := hR 5 (by decide)
 have q6 := hR 6 (by decide)
 have q7 := hR 7 (by decide)
 have q8 := hR 8 (by decide)
 have q9 := hR 9 (by decide)
 have q10 := hR 10 (by decide)
 have q11 := hR 11 (by decide)
 have q12 := hR 12 (by decide)
 have q13 := hR 13 (by decide)
 have q14 := hR 14 (by decide)
 have q15 := hR 15 (by decide)
 have q16 := hR 16 (by decide)
 have q17 := hR 17 (by decide)
 refine dV (aU [47, 46, 45, 44, 23, 22, 21, 20, 15, 14, 10, 9, 8, 6, 4, 3, 2, 1, 0] C) (by simp only [pE18, q0.2, q1.2, q2.2, q3.2, q4.2, q5.2, q6.2, q7.2, q8.2, q9.2, q10.2, q11.2, q12.2, q13.2, q14.2, q15.2, q16.2, q17.2, fS] <;> rfl) ?_
 simp only [List.drop_succ_cons, List.drop_zero]
 refine bK (cK (aO (aI C (dO C C C) (dA 1 C ?_))))
 exact cX (j + 1) (ys.set (((m.gs.getD x as0).t).toNat) (evK (m.gs.getD x as0).os ys ((m.ss.getD (((m.gs.getD x as0).t).toNat) sg0).w))) ⟨by omega, by show _ = asgK m (ordV m (eoK m) _ j) ((eoK m).getD j 0); rw [← hy, hx9]; unfold asgK; rw [Int.toNat_natCast]⟩ (by omega) (cN rfl) (eO [0, 1, 0] rfl)
 refine bQ (kD C ?_)
 refine bI (dC ?_)
 refine aM (aR (bA 2 C ?_))
 exact aN (gE (post := [rI9 3 v3 ys]) C C (eO [0] C) (by rw [hy, show j = (eoK m).length by omega]; rfl))
theorem pY (x0 : Value) (x1 : Value) (h0 : x0.oneCell' = true) (h1 : x1.oneCell' = true) : Try.prog.built 50 [(0, x0), (1, x1)] = some #[x0, x1] := by
  (cases x0 <;> first | (exact absurd h0 Bool.false_ne_true) | (cases x1 <;> first | (exact absurd h1 Bool.false_ne_true) | kernel_rfl))
theorem lO (m : Md) (vs ws V : List Int) (uv uw u : Value) (w : World) (hr : RdsMd w m) (hfl : FlP m) (hst : WsP m vs ws) (hv : RdsW w uv 1 vs.length (vs.map (Value.int .i64))) (hw : RdsW w uw 1 ws.length (ws.map (Value.int .i64))) (hV : VlP m V) (hvv : RdsW w u 1 V.length (V.map (Value.int .i64))) :
   Calls Try.prog 68 #[.agg #[m.sv, m.av, m.iv, m.mv], .agg #[uv, uw], u] w (Ret w (fun u_ p_ => ∃ a9 b9, u_ = .agg #[a9, b9] ∧ p_ = [rI9 3 a9 (nxV m ws V), rI9 3 b9 (nxW m ws V)])) := by
 have hs9 := gL hr.s
 have hg9 := gL hr.g
 have hm9 := gL hr.m
 have hln := hfl.lens
 have hVl := hV.len
 have hwl := hst.w.len
 refine bW (N := 99) (args := [.agg #[m.sv, m.av, m.iv, m.mv], .agg #[uv, uw], u]) Try.func68 C C (cA ?_)
 refine cL C (cY C C) ?_
 intro b1
 refine cL C (cY C C) ?_
 intro b2
 refine cL C (bG (z := .agg #[.slice none 0 0, .slice none 0 0]) C C) ?_
 intro b3
 refine bQ (aF ?_)
 refine hS C 9 [0, 1, 2, 3, 4, 5, 6, 7, 8] (List.take 9 _) (List.drop 9 _) [[], [0], [1], [2], [], [4], [5], [3, 6], []] [13, 14, 15, 16, 17, 18, 19, 20, 7] (fun i_ vs_ v_ p_ => match i_ with | 0 => v_ = .pointer (some ⟨b1, 0 + 0, none⟩) ∧ p_ = [] | 1 => v_ = m.sv ∧ p_ = [] | 2 => v_ = jI (m.ss.length : Int) ∧ p_ = [] | 3 => IsRow 3 1 ((List.replicate m.ss.length (0 : Int)).length) (mI (List.replicate m.ss.length (0 : Int))) v_ p_ | 4 => v_ = .pointer (some ⟨b2, 0 + 1, none⟩) ∧ p_ = [] | 5 => v_ = uw ∧ p_ = [] | 6 => (fun v' post => post = [rI9 3 v' (ws)]) v_ p_ | 7 => v_ = .agg #[(gV9 vs_ 0), (gV9 vs_ 1)] ∧ p_ = [] | 8 => IsBox #[.slice none 0 0, .slice none 0 0] 50 v_ p_ | _ => True) (List.take_append_drop 9 _).symm (by kernel_rfl) (by kernel_rfl) C C ?_ ?_
 refine ⟨?_, ?_, ?_, ?_, ?_, ?_, ?_, ?_, ?_, trivial⟩
 intro vf pf hR
 exact jJ C (aU [3] C) (bH (bM 0 C C C))
 intro vf pf hR
 have e0 := hR 0 (by decide)
 exact gR C (sk 13 (congrArg some e0.1) (aL _)) (bH (aC C C C (aA 2 C C)))
 intro vf pf hR
 have e1 := hR 1 (by decide)
 exact gR C (sk 14 (congrArg some e1.1) (aL _)) (bH (dL C C C (aD ((hr).s))))
 intro vf pf hR
 have e2 := hR 2 (by decide)
 exact gR C (sk 15 (congrArg some e2.1) (aL _)) (iL (z := jI 0) (s := 1) (bytes := 8) (n := (List.replicate m.ss.length (0 : Int)).length) (cs := (mI (List.replicate m.ss.length (0 : Int)))) C Try.underlying48 C (by decide) C C (by first | (rw [List.length_replicate]; done) | (rw [List.length_replicate]; omega)) (by first | (rw [List.length_replicate]; done) | (rw [List.length_replicate]; omega)) (by rw [List.length_replicate]; omega) (hZ _))
 intro vf pf hR
 exact jJ C (aU [4] C) (bH (bM 1 C C C))
 intro vf pf hR
 have e4 := hR 4 (by decide)
 exact gR C (sk 17 (congrArg some e4.1) (aL _)) (bH (aC C C C (aA 1 C C)))
 intro vf pf hR
 have e5 := hR 5 (by decide)
 exact gR C (sk 18 (congrArg some e5.1) (aL _)) (aV C C (fun w hm => lR ws uw w ((aD hw) w hm) (by omega)))
 intro vf pf hR
 have e3 : IsRow 3 1 ((List.replicate m.ss.length (0 : Int)).length) (mI (List.replicate m.ss.length (0 : Int))) (vf 3) (pf 3) := hR 3 (by decide)
 obtain ⟨g4, vE3, pE3⟩ := e3
 have e6 : (fun v' post => post = [rI9 3 v' (ws)]) (vf 6) (pf 6) := hR 6 (by decide)
 obtain ⟨v5, vE6⟩ : ∃ x, vf 6 = x := ⟨_, rfl⟩
 obtain ⟨p6, pE6⟩ : ∃ x, pf 6 = x := ⟨_, rfl⟩
 have R7 := e6
 rw [vE6, pE6] at R7
 subst R7
 refine Or.inl ⟨C, ?_⟩
 exact dJ (sk 16 (congrArg some vE3) (sk 19 (congrArg some vE6) (aL _))) (by simp only [pE3, vE3, pE6, vE6, fS] <;> rfl) (eB (bH (gO (cs := #[.slice (some ⟨g4, 0, none⟩) ((List.replicate m.ss.length (0 : Int)).length) ((List.replicate m.ss.length (0 : Int)).length), v5]) C C (fun w hm => pY (.slice (some ⟨g4, 0, none⟩) ((List.replicate m.ss.length (0 : Int)).length) ((List.replicate m.ss.length (0 : Int)).length)) v5 C ((aJ 1 C w hm).one)))) (fun _ _ h => ⟨h.1.trans (by show _ = (.agg #[(vf 3), (vf 6)] : Value); first | (rw [vE3, vE6]; done) | (rw [vE3, vE6]; rfl)), h.2⟩))
 intro vf pf hR
 exact gR C (aL _) (bG (z := .agg #[.slice none 0 0, .slice none 0 0]) C C)
 intro vf pf hR
 have e3 : IsRow 3 1 ((List.replicate m.ss.length (0 : Int)).length) (mI (List.replicate m.ss.length (0 : Int))) (vf 3) (pf 3) := hR 3 (by decide)
 obtain ⟨g4, vE3, pE3⟩ := e3
 have e6 : (fun v' post => post = [rI9 3 v' (ws)]) (vf 6) (pf 6) := hR 6 (by decide)
 obtain ⟨v5, vE6⟩ : ∃ x, vf 6 = x := ⟨_, rfl⟩
 obtain ⟨p6, pE6⟩ : ∃ x, pf 6 = x := ⟨_, rfl⟩
 have R7 := e6
 rw [vE6, pE6] at R7
 subst R7
 have e7 : (vf 7) = .agg #[(vf 3), (vf 6)] ∧ (pf 7) = [] := hR 7 (by decide)
 rw [vE3, vE6] at e7
 have e8 : IsBox #[.slice none 0 0, .slice none 0 0] 50 (vf 8) (pf 8) := hR 8 (by decide)
 obtain ⟨b8, vE8, pE8⟩ := e8
 have q0 := hR 0 (by decide)
 have q1 := hR 1 (by decide)
 have q2 := hR 2 (by decide)
 have q4 := hR 4 (by decide)
 have q5 := hR 5 (by decide)
 have q7 := hR 7 (by decide)
 refine dV (dB [6, 4, 3, 2, 1, 0] _ (sk 7 (congrArg some vE8) (sk 20 (congrArg some e7.1) (aL _))) C) (by simp only [pE3, vE3, pE6, vE6, pE8, vE8, q0.2, q1.2, q2.2, q4.2, q5.2, q7.2, fS] <;> rfl) ?_
 simp only [List.drop_succ_cons, List.drop_zero]
 refine cS (i := 1) C (fun ho9 => ?_)
 refine bE (cs' := #[.slice (some ⟨g4, 0, none⟩) ((List.replicate m.ss.length (0 : Int)).length) ((List.replicate m.ss.length (0 : Int)).length), v5]) (i := 2) (off := 0) (us := [.slice (some ⟨g4, 0, none⟩) ((List.replicate m.ss.length (0 : Int)).length) ((List.replicate m.ss.length (0 : Int)).length), v5]) C C C C C C C (aB C (aB ho9 bC)) C C C (bQ (eM (aI C (bM 1 C C C) (aI C (aC C C C (aA 5 C C)) (aI C (dL C C C (aD ((hr).g))) (aP 1 C (bD ?_)))))))
 refine jZ (α := Nat) (β := List Int) [0, 1, 2, 3, 4, 6, 7, 22, 23] C (fun i zs => [rI9 3 (.slice (some ⟨g4, 0, none⟩) ((List.replicate m.ss.length (0 : Int)).length) ((List.replicate m.ss.length (0 : Int)).length)) zs, rI9 3 v5 ws, boxE b8 #[.slice (some ⟨g4, 0, none⟩) ((List.replicate m.ss.length (0 : Int)).length) ((List.replicate m.ss.length (0 : Int)).length), v5] 50, boxE b3 #[.slice none 0 0, .slice none 0 0] 50, boxE b2 #[uv, uw] 50, boxE b1 #[m.sv, m.av, m.iv, m.mv] 35]) (fun i zs => [(24, jI (i : Int))]) (fun i zs => i ≤ m.gs.length ∧ zs = nrA m V i) (fun i zs => m.gs.length - i) 0 (List.replicate m.ss.length 0) ⟨Nat.zero_le _, C⟩ (cN C) (eT C) ?_
 intro i zs hi10
 obtain ⟨hi, hz⟩ := hi10
 have hzl : zs.length = m.ss.length := by rw [hz]; exact (rU hfl V i hi).1.len
 refine cA ?_
 refine bN C C C C C C (fun h11 => ?_) (fun h11 => ?_)
 refine bQ (jX C (cE (fD (cA (aI C (cR 2 C C C C (aD ((hr).g))) ?_)))))
 refine aI C (bL (us := [jI ((m.gs.getD i as0).t), (m.gs.getD i as0).ov]) C C C C (aD ((hr).g)) (by omega) C (bY asC 2 (fun _ => C) m.gs as0 (show i < _ by omega) C)) (cL C (bG (z := .agg #[jI 0, .slice none 0 0]) C C) ?_)
 intro b12
 refine bE (cs' := #[jI ((m.gs.getD i as0).t), (m.gs.getD i as0).ov]) (i := 0) (off := 0) (us := [jI ((m.gs.getD i as0).t), (m.gs.getD i as0).ov]) C C C C C C C (aB C (aB (hr.o.at (k := i) (by omega)).one bC)) C C C (bQ (cA ?_))
 obtain ⟨⟨htr, -⟩, hxo⟩ := hfl.as (show i < m.gs.length by omega)
 rw [← hVl] at hxo
 have hxw := hfl.sw (s := (m.gs.getD i as0).t.toNat) (by omega)
 refine aI C (bM 0 C C C) (aI C (aC C C C (aA 6 C C)) (aI C (bM 0 C C C) (aI C (aC C C C (aA 0 C C)) (aI C (cR 3 C C C C (aD ((hr).s))) (aI C (aZ (k0 := 0) C C C (aD ((hr).s)) (by omega)) ?_)))))
 refine aI C (aQ (u := jI ((m.ss.getD (((m.gs.getD i as0).t).toNat) sg0).k)) C C C (aD ((hr).s)) ((bR sgC 3 (fun _ => C) m.ss sg0 (show ((m.gs.getD i as0).t).toNat < _ by omega) (by decide)).trans C)) (bU C C C C C C (fun h13 => ?_) (fun h13 => ?_))
 refine bQ (aK C ?_)
 refine hC 7 [6, 5, 4, 3, 2, 0, 1] C C (by decide) ?_
 refine iF (l := [boxE b12 #[jI ((m.gs.getD i as0).t), (m.gs.getD i as0).ov] 89, rI9 3 v5 ws, boxE b8 #[.slice (some ⟨g4, 0, none⟩) ((List.replicate m.ss.length (0 : Int)).length) ((List.replicate m.ss.length (0 : Int)).length), v5] 50, boxE b3 #[.slice none 0 0, .slice none 0 0] 50, boxE b2 #[uv, uw] 50, boxE b1 #[m.sv, m.av, m.iv, m.mv] 35]) C 20 [0, 1, 2, 3, 4, 5, 6, 7, 8, 9, 10, 11, 12, 13, 14, 15, 16, 17, 18, 19] (List.take 20 _) (List.drop 20 _) [[], [0], [], [2], [], [4], [], [], [7], [], [9], [8, 10], [11], [12], [5, 6, 13], [14], [15], [15], [1, 3], [16, 18]] [some 37, some 38, some 39, some 40, some 41, some 42, some 43, some 44, some 45, some 46, some 47, some 48, some 49, some 50, some 51, some 36, some 52, some 53, some 54, none] (fun i_ vs_ v_ p_ => match i_ with | 0 => v_ = .pointer (some ⟨b8, 0 + 0, none⟩) ∧ p_ = [] | 1 => v_ = .slice (some ⟨g4, 0, none⟩) ((List.replicate m.ss.length (0 : Int)).length) ((List.replicate m.ss.length (0 : Int)).length) ∧ p_ = [] | 2 => v_ = .pointer (some ⟨b12, 0 + 0, none⟩) ∧ p_ = [] | 3 => v_ = jI ((m.gs.getD i as0).t) ∧ p_ = [] | 4 => v_ = .pointer (some ⟨b12, 0 + 1, none⟩) ∧ p_ = [] | 5 => v_ = (m.gs.getD i as0).ov ∧ p_ = [] | 6 => v_ = u ∧ p_ = [] | 7 => v_ = .pointer (some ⟨b1, 0 + 0, none⟩) ∧ p_ = [] | 8 => v_ = m.sv ∧ p_ = [] | 9 => v_ = .pointer (some ⟨b12, 0 + 0, none⟩) ∧ p_ = [] | 10 => v_ = jI ((m.gs.getD i as0).t) ∧ p_ = [] | 11 => v_ = elP m.sv (((m.gs.getD i as0).t).toNat * 3) ∧ p_ = [] | 12 => v_ = elP m.sv (((m.gs.getD i as0).t).toNat * 3 + 1) ∧ p_ = [] | 13 => v_ = jI ((m.ss.getD (((m.gs.getD i as0).t).toNat) sg0).w) ∧ p_ = [] | 14 => v_ = .tuple #[jI (evK (m.gs.getD i as0).os V ((m.ss.getD (((m.gs.getD i as0).t).toNat) sg0).w)), jI ((evE (m.gs.getD i as0).os V ((m.ss.getD (((m.gs.getD i as0).t).toNat) sg0).w) (m.gs.getD i as0).os.length 0).2 : Int)] ∧ p_ = [] | 15 => v_ = .tuple #[jI (evK (m.gs.getD i as0).os V ((m.ss.getD (((m.gs.getD i as0).t).toNat) sg0).w)), jI ((evE (m.gs.getD i as0).os V ((m.ss.getD (((m.gs.getD i as0).t).toNat) sg0).w) (m.gs.getD i as0).os.length 0).2 : Int)] ∧ p_ = [] | 16 => v_ = jI (evK (m.gs.getD i as0).os V ((m.ss.getD (((m.gs.getD i as0).t).toNat) sg0).w)) ∧ p_ = [] | 17 => v_ = jI ((evE (m.gs.getD i as0).os V ((m.ss.getD (((m.gs.getD i as0).t).toNat) sg0).w) (m.gs.getD i as0).os.length 0).2 : Int) ∧ p_ = [] | 18 => v_ = elP (.slice (some ⟨g4, 0, none⟩) ((List.replicate m.ss.length (0 : Int)).length) ((List.replicate m.ss.length (0 : Int)).length)) (((m.gs.getD i as0).t).toNat * 1) ∧ p_ = [] | 19 => p_ = [rowE 3 1 (.slice (some ⟨g4, 0, none⟩) ((List.replicate m.ss.length (0 : Int)).length) ((List.replicate m.ss.length (0 : Int)).length)) ((zs.set (((m.gs.getD i as0).t).toNat) (evK (m.gs.getD i as0).os V ((m.ss.getD (((m.gs.getD i as0).t).toNat) sg0).w))).length) ((zs.set (((m.gs.getD i as0).t).toNat) (evK (m.gs.getD i as0).os V ((m.ss.getD (((m.gs.getD i as0).t).toNat) sg0).w))).map (Value.int .i64))] | _ => True) [[], [0], [], [2], [], [4], [], [], [7], [], [9], [8, 10], [11], [12], [5, 6, 13], [14], [15], [15], [1, 3, 20], [16, 18]] [none, none, none, none, none, none, none, none, none, none, none, none, none, none, none, none, none, none, none, some 20] [[rI9 3 (.slice (some ⟨g4, 0, none⟩) ((List.replicate m.ss.length (0 : Int)).length) ((List.replicate m.ss.length (0 : Int)).length)) zs]] [0, 1, 2, 3, 4, 5, 6, 7, 8, 9, 10, 11, 12, 13, 14, 15, 16, 17, 18, 19] 20 (List.take_append_drop 20 _).symm (by kernel_rfl) (by kernel_rfl) (by kernel_rfl) C C ?_ ?_
 refine ⟨?_, ?_, ?_, ?_, ?_, ?_, ?_, ?_, ?_, ?_, ?_, ?_, ?_, ?_, ?_, ?_, ?_, ?_, ?_, ?_, trivial⟩
 intro vf pf hmu hR
 refine cT [] [] C (cC (aU [7] C) ?_)
 exact bH (bM 0 C C C)
 intro vf pf hmu hR
 have e0 := hR 0 (by decide)
 refine cT [0] [0] C (bP (sk 37 (congrArg some e0.1) (aL _)) (List.sublist_append_right _ _) ?_)
 exact bH (aC C C C (aA 2 C C))
 intro vf pf hmu hR
 refine cT [] [] C (cC (aU [9] C) ?_)
 exact bH (bM 0 C C C)
 intro vf pf hmu hR
 have e2 := hR 2 (by decide)
 refine cT [2] [2] C (bP (sk 39 (congrArg some e2.1) (aL _)) (List.sublist_append_right _ _) ?_)
 exact bH (aC C C C (aA 0 C C))
 intro vf pf hmu hR
 refine cT [] [] C (cC (aU [9] C) ?_)
 exact bH (bM 1 C C C)
 intro vf pf hmu hR
 have e4 := hR 4 (by decide)
 refine cT [4] [4] C (bP (sk 41 (congrArg some e4.1) (aL _)) (List.sublist_append_right _ _) ?_)
 exact bH (aC C C C (aA 0 C C))
 intro vf pf hmu hR
 refine cT [] [] C (cC (aU [2] C) ?_)
 exact bH (aY C)
 intro vf pf hmu hR
 refine cT [] [] C (cC (aU [3] C) ?_)
 exact bH (bM 0 C C C)
 intro vf pf hmu hR
 have e7 := hR 7 (by decide)
 refine cT [7] [7] C (bP (sk 44 (congrArg some e7.1) (aL _)) (List.sublist_append_right _ _) ?_)
 exact bH (aC C C C (aA 5 C C))
 intro vf pf hmu hR
 refine cT [] [] C (cC (aU [9] C) ?_)
 exact bH (bM 0 C C C)
 intro vf pf hmu hR
 have e9 := hR 9 (by decide)
 refine cT [9] [9] C (bP (sk 46 (congrArg some e9.1) (aL _)) (List.sublist_append_right _ _) ?_)
 exact bH (aC C C C (aA 0 C C))
 intro vf pf hmu hR
 have e8 := hR 8 (by decide)
 have e10 := hR 10 (by decide)
 refine cT [8, 10] [8, 10] C (bP (sk 45 (congrArg some e8.1) (sk 47 (congrArg some e10.1) (aL _))) (List.sublist_append_right _ _) ?_)
 exact bH (cR 3 C C C C (aD ((hr).s)))
 intro vf pf hmu hR
 have e11 := hR 11 (by decide)
 refine cT [11] [11] C (bP (sk 48 (congrArg some e11.1) (aL _)) (List.sublist_append_right _ _) ?_)
 exact bH (aZ (k0 := 1) C C C (aD ((hr).s)) (by omega))
 intro vf pf hmu hR
 have e12 := hR 12 (by decide)
 refine cT [12] [12] C (bP (sk 49 (congrArg some e12.1) (aL _)) (List.sublist_append_right _ _) ?_)
 exact bH (aQ (u := jI ((m.ss.getD (((m.gs.getD i as0).t).toNat) sg0).w)) C C C (aD ((hr).s)) ((bR sgC 3 (fun _ => C) m.ss sg0 (show ((m.gs.getD i as0).t).toNat < _ by omega) (by decide)).trans C))
 intro vf pf hmu hR
 have e5 := hR 5 (by decide)
 have e6 := hR 6 (by decide)
 have e13 := hR 13 (by decide)
 refine cT [5, 6, 13] [5, 6, 13] C (bP (sk 42 (congrArg some e5.1) (sk 43 (congrArg some e6.1) (sk 50 (congrArg some e13.1) (aL _)))) (List.sublist_append_right _ _) ?_)
 exact (aV C C (fun w hm => mB (m.gs.getD i as0).os V _ _ _ hxo hxw (m.gs.getD i as0).os.length 0 (Nat.sub_le _ _) hxo.pos w ((hr.o.at (k := i) (by omega)).below hm.bel) ((aD hvv) w hm)))
 intro vf pf hmu hR
 have e14 := hR 14 (by decide)
 refine cT [14] [14] C (cC (sk 51 (congrArg some e14.1) (aL _)) ?_)
 exact bH (aY C)
 intro vf pf hmu hR
 have e15 := hR 15 (by decide)
 refine cT [15] [15] C (cC (sk 36 (congrArg some e15.1) (aL _)) ?_)
 exact bH (aY C)
 intro vf pf hmu hR
 have e15 := hR 15 (by decide)
 refine cT [15] [15] C (cC (sk 36 (congrArg some e15.1) (aL _)) ?_)
 exact bH (aY C)
 intro vf pf hmu hR
 have e1 := hR 1 (by decide)
 have e3 := hR 3 (by decide)
 refine cT [1, 3, 20] [1, 3] C ?_
 have hmu0 : pf 20 = [rI9 3 (.slice (some ⟨g4, 0, none⟩) ((List.replicate m.ss.length (0 : Int)).length) ((List.replicate m.ss.length (0 : Int)).length)) zs] := hmu 0 (show 0 < 1 by omega)
 exact dJ (sk 38 (congrArg some e1.1) (sk 40 (congrArg some e3.1) (aL _))) (by simp only [hmu0, e1.2, e3.2, fS] <;> rfl) (bH (cR 1 C C C C (aJ 0 C)))
 intro vf pf hmu hR
 have e16 := hR 16 (by decide)
 have e18 := hR 18 (by decide)
 refine Or.inl ⟨C, ?_⟩
 show RunM _ _ _ (pf 20) (([16, 18] : List Nat).flatMap pf ++ _) (envOf3 _ vf [16, 18] ++ _) _ _
 have hmu0 : pf 20 = [rI9 3 (.slice (some ⟨g4, 0, none⟩) ((List.replicate m.ss.length (0 : Int)).length) ((List.replicate m.ss.length (0 : Int)).length)) zs] := hmu 0 (show 0 < 1 by omega)
 rw [hmu0]
 exact eE (sk 52 (congrArg some e16.1) (sk 54 (congrArg some e18.1) (aL _))) (by simp only [e16.2, e18.2, fS] <;> rfl) (mP (pE (n' := (zs.set (((m.gs.getD i as0).t).toNat) (evK (m.gs.getD i as0).os V ((m.ss.getD (((m.gs.getD i as0).t).toNat) sg0).w))).length) (xs' := ((zs.set (((m.gs.getD i as0).t).toNat) (evK (m.gs.getD i as0).os V ((m.ss.getD (((m.gs.getD i as0).t).toNat) sg0).w))).map (Value.int .i64))) 0 C C C C C C C (by first | omega | (simp only [List.length_set]; omega)) List.length_set.symm (fM _ _ _)) (fun v_ p_ h => by show p_ = [rowE 3 1 (.slice (some ⟨g4, 0, none⟩) ((List.replicate m.ss.length (0 : Int)).length) ((List.replicate m.ss.length (0 : Int)).length)) ((zs.set (((m.gs.getD i as0).t).toNat) (evK (m.gs.getD i as0).os V ((m.ss.getD (((m.gs.getD i as0).t).toNat) sg0).w))).length) ((zs.set (((m.gs.getD i as0).t).toNat) (evK (m.gs.getD i as0).os V ((m.ss.getD (((m.gs.getD i as0).t).toNat) sg0).w))).map (Value.int .i64))]; exact h))
 intro vf pf hmu hR
 have e19 : (pf 19) = [rowE 3 1 (.slice (some ⟨g4, 0, none⟩) ((List.replicate m.ss.length (0 : Int)).length) ((List.replicate m.ss.length (0 : Int)).length)) ((zs.set (((m.gs.getD i as0).t).toNat) (evK (m.gs.getD i as0).os V ((m.ss.getD (((m.gs.getD i as0).t).toNat) sg0).w))).length) ((zs.set (((m.gs.getD i as0).t).toNat) (evK (m.gs.getD i as0).os V ((m.ss.getD (((m.gs.getD i as0).t).toNat) sg0).w))).map (Value.int .i64))] := hR 19 (by decide)
 have pE19 := e19
 have q0 := hR 0 (by decide)
 have q1 := hR 1 (by decide)
 have q2 := hR 2 (by decide)
 have q3 := hR 3 (by decide)
 have q4 := hR 4 (by decide)
 have q5 := hR 5 (by decide)
 have q6 := hR 6 (by decide)
 have q7 := hR 7 (by decide)
 have q8 := hR 8 (by decide)
 have q9 := hR 9 (by decide)
 have q10 := hR 10 (by decide)
 have q11 := hR 11 (by decide)
 have q12 := hR 12 (by decide)
 have q13 := hR 13 (by decide)
 have q14 := hR 14 (by decide)
 have q15 := hR 15 (by decide)
 have q16 := hR 16 (by decide)
 have q17 := hR 17 (by decide)
 have q18 := hR 18 (by decide)
 refine dV (aU [35, 25, 24, 23, 22, 9, 7, 6, 4, 3, 2, 1, 0] C) (by simp only [pE19, q0.2, q1.2, q2.2, q3.2, q4.2, q5.2, q6.2, q7.2, q8.2, q9.2, q10.2, q11.2, q12.2, q13.2, q14.2, q15.2, q16.2, q17.2, q18.2, fS] <;> rfl) ?_
 simp only [List.drop_succ_cons, List.drop_zero]
 refine bK (cK (aO (aI C (dO C C C) (dA 1 C ?_))))
 exact cX (i + 1) (zs.set (((m.gs.getD i as0).t).toNat) (evK (m.gs.getD i as0).os V ((m.ss.getD (((m.gs.getD i as0).t).toNat) sg0).w))) ⟨by omega, by rw [hz]; exact oM (by omega)⟩ (by omega) (cN rfl) (eO [0, 1, 0, 0, 0, 0] rfl)
 refine bQ (gM C (cK (aO (aI C (dO C C C) (dA 1 C ?_)))))
 exact cX (i + 1) zs ⟨by omega, hz.trans (vA (by omega))⟩ (by omega) (cN C) (eO [1, 0, 0, 0, 0, 0] C)
 refine bQ (kD C ?_)
 refine bI (dC ?_)
 refine aM (aR (eM (aI C (bM 3 C C C) (aI C (aC C C C (aA 5 C C)) (aI C (dL C C C (aD ((hr).m))) (aP 1 C (bD ?_)))))))
 refine jC (α := Nat) (β := List Int) (γ := List Int) [0, 1, 2, 3, 4, 6, 7, 22, 23, 24, 25, 57, 58] rfl (fun j ys qs => [rI9 3 (.slice (some ⟨g4, 0, none⟩) ((List.replicate m.ss.length (0 : Int)).length) ((List.replicate m.ss.length (0 : Int)).length)) ys, rI9 3 v5 qs, boxE b8 #[.slice (some ⟨g4, 0, none⟩) ((List.replicate m.ss.length (0 : Int)).length) ((List.replicate m.ss.length (0 : Int)).length), v5] 50, boxE b3 #[.slice none 0 0, .slice none 0 0] 50, boxE b2 #[uv, uw] 50, boxE b1 #[m.sv, m.av, m.iv, m.mv] 35]) (fun j ys qs => [(59, jI (j : Int))]) (fun j ys qs => j ≤ m.ms.length ∧ ys = (nmA m ws V j).1 ∧ qs = (nmA m ws V j).2) (fun j ys qs => m.ms.length - j) 0 zs ws ⟨Nat.zero_le _, by rw [hz, show i = m.gs.length by omega]; rfl, rfl⟩ (cN rfl) (eT rfl) ?_
 intro j ys qs hi14
 obtain ⟨hj, hy, hq⟩ := hi14
 obtain ⟨⟨hyo, -⟩, hqo⟩ := rV hfl hV hst.w j hj
 rw [← hy] at hyo
 rw [← hq] at hqo
 have hyl := hyo.len
 have hql := hqo.len
 refine cA ?_
 refine bN C C C C C C (fun h15 => ?_) (fun h15 => ?_)
 refine bQ (jX C (cE (fD (aF (cG 1 C (aI C (cR 4 C C C C (aD ((hr).m))) ?_))))))
 refine aI C (bL (us := [jI ((m.ms.getD j mm0).a), jI ((m.ms.getD j mm0).d), jI ((m.ms.getD j mm0).w), jI ((m.ms.getD j mm0).o)]) C C C C (aD ((hr).m)) (by omega) C (bY mmC 4 (fun _ => C) m.ms mm0 (show j < _ by omega) C)) (cL C (bG (z := .agg #[jI 0, jI 0, jI 0, jI 0]) C C) ?_)
 intro b16
 refine aH 1 C (bE (cs' := #[jI ((m.ms.getD j mm0).a), jI ((m.ms.getD j mm0).d), jI ((m.ms.getD j mm0).w), jI ((m.ms.getD j mm0).o)]) (i := 0) (off := 0) (us := [jI ((m.ms.getD j mm0).a), jI ((m.ms.getD j mm0).d), jI ((m.ms.getD j mm0).w), jI ((m.ms.getD j mm0).o)]) C C C C C C C (aB C (aB C (aB C (aB C bC)))) C C C ?_)
 refine bQ (cA ?_)
 have hmj := hfl.mm (show j < m.ms.length by omega)
 have hma := mV hfl hV (show j < m.ms.length by omega)
 have hma9 : maK m V j = 4 * (j : Int) + V.getD (m.ms.getD j mm0).a.toNat 0 := rfl
 refine aH 1 C (aI C (jT C C C (by constructor <;> omega)) (aH 1 C (aI C (bM 0 C C C) (aI C (aC C C C (aA 0 C C)) (aI C (cR 1 C C C C (aD hvv)) (aI C (nD C C C (aD hvv)) (aI C (dO C C C) ?_)))))))
 rw [show (4 * (j : Int)) + (V.getD (((m.ms.getD j mm0).a).toNat) 0) = maK m V j from rfl]
 refine aP 1 C (aF ?_)
 refine cI 10 [[], [0], [], [2], [], [4], [], [5, 6], [7], [1, 3]] [72, 73, 74, 75, 76, 77, 78, 79, 80, 81] [.pointer (some ⟨b8, 0 + 0, none⟩), .slice (some ⟨g4, 0, none⟩) ((List.replicate m.ss.length (0 : Int)).length) ((List.replicate m.ss.length (0 : Int)).length), .pointer (some ⟨b16, 0 + 3, none⟩), jI ((m.ms.getD j mm0).o), .pointer (some ⟨b2, 0 + 1, none⟩), uw, jI (maK m V j), elP uw ((maK m V j).toNat * 1), jI (ws.getD ((maK m V j).toNat) 0), elP (.slice (some ⟨g4, 0, none⟩) ((List.replicate m.ss.length (0 : Int)).length) ((List.replicate m.ss.length (0 : Int)).length)) (((m.ms.getD j mm0).o).toNat * 1)] (by kernel_rfl) C ?_ ?_
 exact ⟨bF C (bM 0 C C C) C, bF C (aC C C C (aA 3 C C)) C, bF C (bM 3 C C C) C, bF C (aC C C C (aA 0 C C)) C, bF C (bM 1 C C C) C, bF C (aC C C C (aA 5 C C)) C, bF C (aY C) C, bF C (cR 1 C C C C (aD hw)) C, bF C (nD C C C (aD hw)) C, bF C (cR 1 C C C C (aJ 1 C)) C, trivial⟩
 simp only [List.drop_succ_cons, List.drop_zero]
 refine fY (i := 1) (n' := (ys.set (((m.ms.getD j mm0).o).toNat) (ws.getD ((maK m V j).toNat) 0)).length) (xs' := (mI (ys.set (((m.ms.getD j mm0).o).toNat) (ws.getD ((maK m V j).toNat) 0)))) C C C C C C C C (by first | omega | (simp only [List.length_set]; omega)) List.length_set.symm (fM _ _ _) C (bQ (aF (cG 1 C (aI C (bM 2 C C C) (aI C (aC C C C (aA 0 C C)) (aI C (cR 1 C C C C (aD hvv)) (aI C (nD C C C (aD hvv)) ?_)))))))
 refine bU C C C C C C (fun h17 => ?_) (fun h17 => ?_)
 refine bQ (aK C ?_)
 refine cI 9 [[], [0], [], [], [], [4], [3, 5], [6], [1, 2]] [88, 89, 90, 91, 92, 93, 94, 95, 96] [.pointer (some ⟨b8, 0 + 1, none⟩), v5, jI (maK m V j), u, .pointer (some ⟨b16, 0 + 1, none⟩), jI ((m.ms.getD j mm0).d), elP u (((m.ms.getD j mm0).d).toNat * 1), jI (V.getD (((m.ms.getD j mm0).d).toNat) 0), elP v5 ((maK m V j).toNat * 1)] (by kernel_rfl) C ?_ ?_
 exact ⟨bF C (bM 1 C C C) C, bF C (aC C C C (aA 3 C C)) C, bF C (aY C) C, bF C (aY C) C, bF C (bM 1 C C C) C, bF C (aC C C C (aA 0 C C)) C, bF C (cR 1 C C C C (aD hvv)) C, bF C (nD C C C (aD hvv)) C, bF C (cR 1 C C C C (aJ 2 C)) C, trivial⟩
 simp only [List.drop_succ_cons, List.drop_zero]
 refine fY (i := 2) (n' := (qs.set ((maK m V j).toNat) (V.getD (((m.ms.getD j mm0).d).toNat) 0)).length) (xs' := ((qs.set ((maK m V j).toNat) (V.getD (((m.ms.getD j mm0).d).toNat) 0)).map (Value.int .i64))) C C C C C C C C (by first | omega | (simp only [List.length_set]; omega)) List.length_set.symm (fM _ _ _) C (bK (cK (aO (aI C (dO C C C) (dA 1 C ?_)))))
 exact cO (j + 1) (ys.set (((m.ms.getD j mm0).o).toNat) (ws.getD ((maK m V j).toNat) 0)) (qs.set ((maK m V j).toNat) (V.getD (((m.ms.getD j mm0).d).toNat) 0)) ⟨by omega, by rw [hy]; rfl, by rw [hq]; show _ = if _ then _ else _; rw [if_pos (by omega)]⟩ (by omega) (cN rfl) (eO [1, 0, 0, 0, 0, 0] rfl)
 refine bQ (gM C (cK (aO (aI C (dO C C C) (dA 1 C ?_)))))
 exact cO (j + 1) (ys.set (((m.ms.getD j mm0).o).toNat) (ws.getD ((maK m V j).toNat) 0)) qs ⟨by omega, by rw [hy]; rfl, by rw [hq]; show _ = if _ then _ else _; rw [if_neg (by omega)]⟩ (by omega) (cN rfl) (eO [1, 0, 0, 0, 0, 0] rfl)
 refine bQ (kD C ?_)
 refine bI (dC ?_)
 refine aM (aR (aF (aO (aI C (aW (cs := [.slice (some ⟨g4, 0, none⟩) ((List.replicate m.ss.length (0 : Int)).length) ((List.replicate m.ss.length (0 : Int)).length), v5]) C C C C C (aT 2 C 0 C)) ?_))))
 refine bE (cs' := #[.slice (some ⟨g4, 0, none⟩) ((List.replicate m.ss.length (0 : Int)).length) ((List.replicate m.ss.length (0 : Int)).length), v5]) (i := 3) (off := 0) (us := [.slice (some ⟨g4, 0, none⟩) ((List.replicate m.ss.length (0 : Int)).length) ((List.replicate m.ss.length (0 : Int)).length), v5]) C C C C C C C (aB C (aB ho9 bC)) C C C (bQ ?_)
 refine aN (cD 6 [5, 4, 3, 2, 1, 0] C C (by decide) ?_)
 exact cH (rs := [.cell 6 50]) (vs := [.agg #[.slice (some ⟨g4, 0, none⟩) ((List.replicate m.ss.length (0 : Int)).length) ((List.replicate m.ss.length (0 : Int)).length), v5]]) (post := [rI9 3 (.slice (some ⟨g4, 0, none⟩) ((List.replicate m.ss.length (0 : Int)).length) ((List.replicate m.ss.length (0 : Int)).length)) ys, rI9 3 v5 qs]) rfl ⟨⟨b3, 0, [.slice (some ⟨g4, 0, none⟩) ((List.replicate m.ss.length (0 : Int)).length) ((List.replicate m.ss.length (0 : Int)).length), v5], rfl, rfl, by kernel_rfl, by kernel_rfl, aT 3 rfl 0 rfl⟩, trivial⟩ rfl (eO [0, 0] rfl) ⟨_, _, rfl, by rw [hy, hq, show j = m.ms.length by omega]; rfl⟩
theorem lC (m : Md) (rs : List CRow) (ui : Value) (w : World) (hr : RdsMd w m) (hfl : FlP m) (hn : RdsCl w ui rs) (hI : InI m (rs.map CRow.xs)) :
   Calls Try.prog 60 #[.agg #[m.sv, m.av, m.iv, m.mv], ui] w (Ret w (fun u_ p_ => ∃ (v9 : Value) (os9 : List CRow) (ps9 : List HP), u_ = .tuple #[v9, .bool true] ∧ p_ = [bigE ps9] ∧ (∀ w, (bigE ps9).holds w → RdsCl w v9 os9) ∧ v9.oneCell' = true ∧ os9.map CRow.xs = trK m (rs.map CRow.xs))) := by
 have hln := hfl.lens
 have hI1 := hI.1
 rw [List.length_map] at hI1
 refine bW (N := 66) (args := [.agg #[m.sv, m.av, m.iv, m.mv], ui]) Try.func60 C C (cA ?_)
 refine cL C (cY C C) ?_
 intro b1
 refine aP 2 C (eM (aI C (aW (cs := [m.sv, m.av, m.iv, m.mv]) C C C C C (aT 0 C 0 C)) ?_))
 refine dW C (aV C C (fun w hm => bJ (by have h9 := kZ m w (hr.below hm.bel); rw [dG hfl] at h9; exact h9))) (aH 3 C (aI C (dL C C C (aD hn.row)) ?_))
 refine eS C C C C C C (fun h2 => absurd h2 (by omega)) (fun h2 => ?_)
 refine aP 1 C (aS C (cE (cA (aI C (aW (cs := [m.sv, m.av, m.iv, m.mv]) C C C C C (aT 0 C 0 C)) ?_))))
 refine fC C C C (aV C C (fun w hm => gD m 0 w (hr.below hm.bel))) ?_
 intro v3 p4 R5
 subst R5
 refine aI C (dL C C C (aJ 0 C)) (aP 1 C (aF (aF (cG 1 C (aI C (dL C C C (aD hn.row)) (aP 1 C ?_))))))
 refine bD ?_
 refine gK (α := Nat) [0, 1, 2, 4, 5, 6, 23, 27, 28] C (fun j => [rowE 3 1 v3 ((pwK m 0).length) (mI (pwK m 0)), boxE b1 #[m.sv, m.av, m.iv, m.mv] 35]) (fun j => [(29, jI (j : Int))]) (fun j => j ≤ rs.length) (fun j => rs.length - j) 0 (Nat.zero_le _) (cN C) (eT C) ?_
 intro j hi6
 have hj := hi6
 refine cA ?_
 refine bN C C C C C C (fun h7 => ?_) (fun h7 => ?_)
 refine bQ (jX C (cE (fD (cA (aI C (cR 1 C C C C (aD hn.row)) ?_)))))
 refine aI C (aQ (u := (rs.getD j crow0).v) C C C (aD hn.row) (gB crowC (fun r => r.v) (fun _ => C) rs crow0 (show j < _ by omega))) (aP 1 C (cA ?_))
 have hai := hI.at (show j < rs.length by omega)
 refine aH 1 C (aI C (dL C C C (aD (hn.at (k := j) (by omega)))) (aH 1 C ?_))
 refine fZ C C C C C C (fun h8 => absurd h8 (by omega)) (fun h8 => ?_)
 refine bQ (gM C (cK (aO (aI C (dO C C C) (dA 1 C ?_)))))
 exact cB (j + 1) (by omega) (by omega) (cN C) (eT C)
 refine bQ (kD C ?_)
 refine bI (dC ?_)
 refine aM (aR (cA (aI C (aW (cs := [m.sv, m.av, m.iv, m.mv]) C C C C C (aT 1 C 0 C)) ?_)))
 refine fC C C C (aV C C (fun w hm => jN m w (hr.below hm.bel))) ?_
 intro v9 p10 R11
 obtain ⟨ov, rfl, rfl⟩ := R11
 refine aH 3 C (bT (fun h12 => ?_) (fun h12 => ?_))
 refine aP 2 C (cA (aI C (aW (cs := [m.sv, m.av, m.iv, m.mv]) C C C C C (aT 2 C 0 C)) ?_))
 refine fC C C C (aV C C (fun w hm => lQ m w (hr.below hm.bel) hfl)) ?_
 intro v13 p14 R15
 obtain ⟨sa15, sb15, rfl, rfl⟩ := R15
 refine cL C (bG (z := .agg #[.slice none 0 0, .slice none 0 0]) C C) ?_
 intro b16
 refine cS (i := 2) C (fun ho17 => ?_)
 refine cS (i := 1) C (fun ho18 => ?_)
 refine bE (cs' := #[sa15, sb15]) (i := 0) (off := 0) (us := [sa15, sb15]) C C C C C C C (aB ho18 (aB ho17 bC)) C C C (bQ (cA ?_))
 refine eC 48 1 ?_
 refine dY (l' := [rowE 48 1 (.slice none 0 0) (([] : List CRow).length) (([] : List CRow).flatMap crowC), boxE b16 #[sa15, sb15] 50, rowE 3 1 sa15 ((staV m).length) (mI (staV m)), rowE 3 1 sb15 ((staW m).length) (mI (staW m)), rowE 3 1 ov ((eoK m).length) (mI (eoK m)), rowE 3 1 v3 ((pwK m 0).length) (mI (pwK m 0)), boxE b1 #[m.sv, m.av, m.iv, m.mv] 35]) C ?_
 refine aP 1 C (aF (aF (cG 1 C (aI C (dL C C C (aD hn.row)) (aP 1 C (bD ?_))))))
 refine fB [bigE [], rowE 48 1 (.slice none 0 0) (([] : List CRow).length) (([] : List CRow).flatMap crowC), boxE b16 #[sa15, sb15] 50, rowE 3 1 sa15 ((staV m).length) (mI (staV m)), rowE 3 1 sb15 ((staW m).length) (mI (staW m)), rowE 3 1 ov ((eoK m).length) (mI (eoK m)), rowE 3 1 v3 ((pwK m 0).length) (mI (pwK m 0)), boxE b1 #[m.sv, m.av, m.iv, m.mv] 35] dT ?_
 refine iR (α := Nat) (β := List CRow) (γ := Value) (δ := Value × Value) (fun i os tv q ps => [bigE ps, rS9 48 1 tv os crowC, boxE b16 #[q.1, q.2] 50, rowE 3 1 q.1 (((stT m (rs.map CRow.xs) i).1).length) (mI ((stT m (rs.map CRow.xs) i).1)), rowE 3 1 q.2 (((stT m (rs.map CRow.xs) i).2).length) (mI ((stT m (rs.map CRow.xs) i).2)), rowE 3 1 ov ((eoK m).length) (mI (eoK m)), boxE b1 #[m.sv, m.av, m.iv, m.mv] 35]) (fun i os tv q ps => [(0, .agg #[m.sv, m.av, m.iv, m.mv]), (1, ui), (2, pI b1), (4, .slice none 0 0), (5, .bool false), (6, jI ((pwK m 0).length : Int)), (9, ov), (11, pI b16), (12, tv), (23, .bool false), (27, ui), (28, jI (rs.length : Int)), (29, jI (j : Int)), (30, .bool false), (45, ui), (46, jI (rs.length : Int)), (47, jI (i : Int))]) (fun i os tv q ps => i ≤ rs.length ∧ os.map CRow.xs = trA m (rs.map CRow.xs) i ∧ ∀ w, (bigE ps).holds w → ∀ q ∈ os, RdsW w q.v 1 q.xs.length (mI q.xs)) (fun i os tv q ps => rs.length - i) 0 [] _ (sa15, sb15) [] ⟨Nat.zero_le _, C, fun w hw q hq => (by cases hq)⟩ (aU [47, 46, 45, 30, 29, 28, 27, 23, 12, 11, 9, 6, 5, 4, 2, 1, 0] C) (eO [0, 0, 0, 0, 0, 0, 1] C) ?_
 intro i os tv q ps hi20
 obtain ⟨hi, hos, hp⟩ := hi20
 have hol : os.length = i := by have h9 := congrArg List.length hos; unfold trA at h9; rw [List.length_map, List.length_map, List.length_range] at h9; exact h9
 have hst := iT hfl (rs.map CRow.xs) i
 have hvo := lS hfl (rs.map CRow.xs) i
 have hrl16 := hI.1
 rw [List.length_map] at hrl16
 refine cA ?_
 refine bN C C C C C C (fun h21 => ?_) (fun h21 => ?_)
 refine bQ (jX C (cE (fD (cA (aI C (cR 1 C C C C (aD hn.row)) ?_)))))
 refine aI C (aQ (u := (rs.getD i crow0).v) C C C (aD hn.row) (gB crowC (fun r => r.v) (fun _ => C) rs crow0 (show i < _ by omega))) (aP 1 C (cA ?_))
 have hai := hI.at (show i < rs.length by omega)
 refine aI C (aW (cs := [m.sv, m.av, m.iv, m.mv]) C C C C C (aT 6 C 0 C)) (aH 1 C (aI C (aW (cs := [q.1, q.2]) C C C C C (aT 2 C 0 C)) (aH 1 C ?_)))
 refine fC C C C (aV C C (fun w hm => (by have h9 := jY m ((stT m (rs.map CRow.xs) i).1) ((stT m (rs.map CRow.xs) i).2) (rs.getD i crow0).xs ov _ _ _ w (hr.below hm.bel) hfl ((aJ 3 rfl) w hm) ((aJ 4 rfl) w hm) ((aJ 5 rfl) w hm) ((aD (hn.at (k := i) (by omega))) w hm) hai hst.v; rw [xZ] at h9; exact h9))) ?_
 intro v22 p23 R24
 subst R24
 refine aP 1 C (aF (cG 2 C ?_))
 refine eA C (fI C Try.underlying44 (by kernel_rfl) C (fun w hm => (aJ 0 C w hm).one)) ?_
 intro g25
 refine cS (i := 1) C (fun ho26 => ?_)
 refine cW (i := 3) (z := .slice none 0 0) (bytes := 24) C C C C Try.underlying44 (by kernel_rfl) C C C C (aJ 0 C) (aB ho26 bC) (by first | omega | (simp only [List.length_append, List.length_cons, List.length_nil]; omega)) (cM os [(CRow.mk v22 (vlT m (rs.map CRow.xs) i))]) (dM crowC os (CRow.mk v22 (vlT m (rs.map CRow.xs) i)) _ C) (fun _ => C) ?_
 intro v27
 refine aP 1 C (aO (aI C (aW (cs := [m.sv, m.av, m.iv, m.mv]) C C C C C (aT 8 C 0 C)) (aI C (aW (cs := [q.1, q.2]) C C C C C (aT 4 C 0 C)) (aH 1 C ?_))))
 refine fC C C C (aV C C (fun w hm => lO m ((stT m (rs.map CRow.xs) i).1) ((stT m (rs.map CRow.xs) i).2) (vlT m (rs.map CRow.xs) i) _ _ v22 w (hr.below hm.bel) hfl hst ((aJ 5 C) w hm) ((aJ 6 C) w hm) hvo ((aJ 1 C) w hm))) ?_
 intro v28 p29 R30
 obtain ⟨na30, nb30, rfl, rfl⟩ := R30
 refine cS (i := 1) C (fun ho31 => ?_)
 refine cS (i := 0) C (fun ho32 => ?_)
 refine bE (cs' := #[na30, nb30]) (i := 6) (off := 0) (us := [na30, nb30]) C C C C C C C (aB ho32 (aB ho31 bC)) C C C (bK (cK (aO (aI C (dO C C C) (dA 1 C ?_)))))
 refine cD 11 [10, 9, 6, 5, 1, 0, 3, 4] C C (by decide) ?_
 refine dE 2 C ?_
 refine cD 7 [6, 5, 2, 1, 4, 3, 0] C C (by decide) ?_
 exact fX (i + 1) (os ++ [(CRow.mk v22 (vlT m (rs.map CRow.xs) i))]) v27 (na30, nb30) [bigE ps, rowE 3 1 v22 ((vlT m (rs.map CRow.xs) i).length) (mI (vlT m (rs.map CRow.xs) i))] ⟨by omega, by rw [List.map_append, hos, oV]; rfl, fun w hw => RdsCl.snoc (v := q.1) (v' := q.1) (hp w (bO hw dX)) (cZ (bO hw (eI dX)))⟩ (by omega) (aU [47, 46, 45, 30, 29, 28, 27, 23, 12, 11, 9, 6, 5, 4, 2, 1, 0] rfl) (eT rfl)
 refine bQ (kD C ?_)
 refine bI (dC ?_)
 refine aM (aR (bA 3 C ?_))
 refine aN (fV (fun w hm => (aJ 1 C w hm).one) (fun ho9 => ?_))
 refine cD 7 [6, 5, 4, 3, 2, 0, 1] C C (by decide) ?_
 refine dE 2 C ?_
 exact cH (rs := [.tmp 4, .tmp 5]) (vs := [tv, .bool true]) (post := [bigE [rS9 48 1 tv os crowC, bigE ps]]) rfl ⟨rfl, rfl, trivial⟩ rfl (eO [0] rfl) ⟨tv, os, _, rfl, rfl, fun w hw => ⟨cZ (bO hw dX), hp w (bO hw (eI dX))⟩, ho9, by rw [hos, show i = rs.length by omega]; unfold trK trA; rw [List.length_map]⟩
 refine aP 2 C (cA (aI C (aW (cs := [m.sv, m.av, m.iv, m.mv]) C C C C C (aT 2 C 0 C)) ?_))
 refine fC C C C (aV C C (fun w hm => lQ m w (hr.below hm.bel) hfl)) ?_
 intro v33 p34 R35
 obtain ⟨sa35, sb35, rfl, rfl⟩ := R35
 refine cL C (bG (z := .agg #[.slice none 0 0, .slice none 0 0]) C C) ?_
 intro b36
 refine cS (i := 2) C (fun ho37 => ?_)
 refine cS (i := 1) C (fun ho38 => ?_)
 refine bE (cs' := #[sa35, sb35]) (i := 0) (off := 0) (us := [sa35, sb35]) C C C C C C C (aB ho38 (aB ho37 bC)) C C C (bQ (cA ?_))
 refine eC 48 1 ?_
 refine dY (l' := [rowE 48 1 (.slice none 0 0) (([] : List CRow).length) (([] : List CRow).flatMap crowC), boxE b36 #[sa35, sb35] 50, rowE 3 1 sa35 ((staV m).length) (mI (staV m)), rowE 3 1 sb35 ((staW m).length) (mI (staW m)), rowE 3 1 ov ((eoK m).length) (mI (eoK m)), rowE 3 1 v3 ((pwK m 0).length) (mI (pwK m 0)), boxE b1 #[m.sv, m.av, m.iv, m.mv] 35]) C ?_
 refine aP 1 C (aF (aF (cG 1 C (aI C (dL C C C (aD hn.row)) (aP 1 C (bD ?_))))))
 refine fB [bigE [], rowE 48 1 (.slice none 0 0) (([] : List CRow).length) (([] : List CRow).flatMap crowC), boxE b36 #[sa35, sb35] 50, rowE 3 1 sa35 ((staV m).length) (mI (staV m)), rowE 3 1 sb35 ((staW m).length) (mI (staW m)), rowE 3 1 ov ((eoK m).length) (mI (eoK m)), rowE 3 1 v3 ((pwK m 0).length) (mI (pwK m 0)), boxE b1 #[m.sv, m.av, m.iv, m.mv] 35] dT ?_
 refine iR (α := Nat) (β := List CRow) (γ := Value) (δ := Value × Value) (fun i os tv q ps => [bigE ps, rS9 48 1 tv os crowC, boxE b36 #[q.1, q.2] 50, rowE 3 1 q.1 (((stT m (rs.map CRow.xs) i).1).length) (mI ((stT m (rs.map CRow.xs) i).1)), rowE 3 1 q.2 (((stT m (rs.map CRow.xs) i).2).length) (mI ((stT m (rs.map CRow.xs) i).2)), rowE 3 1 ov ((eoK m).length) (mI (eoK m)), boxE b1 #[m.sv, m.av, m.iv, m.mv] 35]) (fun i os tv q ps => [(0, .agg #[m.sv, m.av, m.iv, m.mv]), (1, ui), (2, pI b1), (4, .slice none 0 0), (5, .bool false), (6, jI ((pwK m 0).length : Int)), (9, ov), (11, pI b36), (12, tv), (23, .bool false), (27, ui), (28, jI (rs.length : Int)), (29, jI (j : Int)), (30, .bool false), (45, ui), (46, jI (rs.length : Int)), (47, jI (i : Int))]) (fun i os tv q ps => i ≤ rs.length ∧ os.map CRow.xs = trA m (rs.map CRow.xs) i ∧ ∀ w, (bigE ps).holds w → ∀ q ∈ os, RdsW w q.v 1 q.xs.length (mI q.xs)) (fun i os tv q ps => rs.length - i) 0 [] _ (sa35, sb35) [] ⟨Nat.zero_le _, C, fun w hw q hq => (by cases hq)⟩ (aU [47, 46, 45, 30, 29, 28, 27, 23, 12, 11, 9, 6, 5, 4, 2, 1, 0] C) (eO [0, 0, 0, 0, 0, 0, 1] C) ?_
 intro i os tv q ps hi40
 obtain ⟨hi, hos, hp⟩ := hi40
 have hol : os.length = i := by have h9 := congrArg List.length hos; unfold trA at h9; rw [List.length_map, List.length_map, List.length_range] at h9; exact h9
 have hst := iT hfl (rs.map CRow.xs) i
 have hvo := lS hfl (rs.map CRow.xs) i
 have hrl16 := hI.1
 rw [List.length_map] at hrl16
 refine cA ?_
 refine bN C C C C C C (fun h41 => ?_) (fun h41 => ?_)
 refine bQ (jX C (cE (fD (cA (aI C (cR 1 C C C C (aD hn.row)) ?_)))))
 refine aI C (aQ (u := (rs.getD i crow0).v) C C C (aD hn.row) (gB crowC (fun r => r.v) (fun _ => C) rs crow0 (show i < _ by omega))) (aP 1 C (cA ?_))
 have hai := hI.at (show i < rs.length by omega)
 refine aI C (aW (cs := [m.sv, m.av, m.iv, m.mv]) C C C C C (aT 6 C 0 C)) (aH 1 C (aI C (aW (cs := [q.1, q.2]) C C C C C (aT 2 C 0 C)) (aH 1 C ?_)))
 refine fC C C C (aV C C (fun w hm => (by have h9 := jY m ((stT m (rs.map CRow.xs) i).1) ((stT m (rs.map CRow.xs) i).2) (rs.getD i crow0).xs ov _ _ _ w (hr.below hm.bel) hfl ((aJ 3 rfl) w hm) ((aJ 4 rfl) w hm) ((aJ 5 rfl) w hm) ((aD (hn.at (k := i) (by omega))) w hm) hai hst.v; rw [xZ] at h9; exact h9))) ?_
 intro v42 p43 R44
 subst R44
 refine aP 1 C (aF (cG 2 C ?_))
 refine eA C (fI C Try.underlying44 (by kernel_rfl) C (fun w hm => (aJ 0 C w hm).one)) ?_
 intro g45
 refine cS (i := 1) C (fun ho46 => ?_)
 refine cW (i := 3) (z := .slice none 0 0) (bytes := 24) C C C C Try.underlying44 (by kernel_rfl) C C C C (aJ 0 C) (aB ho46 bC) (by first | omega | (simp only [List.length_append, List.length_cons, List.length_nil]; omega)) (cM os [(CRow.mk v42 (vlT m (rs.map CRow.xs) i))]) (dM crowC os (CRow.mk v42 (vlT m (rs.map CRow.xs) i)) _ C) (fun _ => C) ?_
 intro v47
 refine aP 1 C (aO (aI C (aW (cs := [m.sv, m.av, m.iv, m.mv]) C C C C C (aT 8 C 0 C)) (aI C (aW (cs := [q.1, q.2]) C C C C C (aT 4 C 0 C)) (aH 1 C ?_))))
 refine fC C C C (aV C C (fun w hm => lO m ((stT m (rs.map CRow.xs) i).1) ((stT m (rs.map CRow.xs) i).2) (vlT m (rs.map CRow.xs) i) _ _ v42 w (hr.below hm.bel) hfl hst ((aJ 5 C) w hm) ((aJ 6 C) w hm) hvo ((aJ 1 C) w hm))) ?_
 intro v48 p49 R50
 obtain ⟨na50, nb50, rfl, rfl⟩ := R50
 refine cS (i := 1) C (fun ho51 => ?_)
 refine cS (i := 0) C (fun ho52 => ?_)
 refine bE (cs' := #[na50, nb50]) (i := 6) (off := 0) (us := [na50, nb50]) C C C C C C C (aB ho52 (aB ho51 bC)) C C C (bK (cK (aO (aI C (dO C C C) (dA 1 C ?_)))))
 refine cD 11 [10, 9, 6, 5, 1, 0, 3, 4] C C (by decide) ?_
 refine dE 2 C ?_
 refine cD 7 [6, 5, 2, 1, 4, 3, 0] C C (by decide) ?_
 exact fX (i + 1) (os ++ [(CRow.mk v42 (vlT m (rs.map CRow.xs) i))]) v47 (na50, nb50) [bigE ps, rowE 3 1 v42 ((vlT m (rs.map CRow.xs) i).length) (mI (vlT m (rs.map CRow.xs) i))] ⟨by omega, by rw [List.map_append, hos, oV]; rfl, fun w hw => RdsCl.snoc (v := q.1) (v' := q.1) (hp w (bO hw dX)) (cZ (bO hw (eI dX)))⟩ (by omega) (aU [47, 46, 45, 30, 29, 28, 27, 23, 12, 11, 9, 6, 5, 4, 2, 1, 0] rfl) (eT rfl)
 refine bQ (kD C ?_)
 refine bI (dC ?_)
 refine aM (aR (bA 3 C ?_))
 refine aN (fV (fun w hm => (aJ 1 C w hm).one) (fun ho9 => ?_))
 refine cD 7 [6, 5, 4, 3, 2, 0, 1] C C (by decide) ?_
 refine dE 2 C ?_
 exact cH (rs := [.tmp 4, .tmp 5]) (vs := [tv, .bool true]) (post := [bigE [rS9 48 1 tv os crowC, bigE ps]]) rfl ⟨rfl, rfl, trivial⟩ rfl (eO [0] rfl) ⟨tv, os, _, rfl, rfl, fun w hw => ⟨cZ (bO hw dX), hp w (bO hw (eI dX))⟩, ho9, by rw [hos, show i = rs.length by omega]; unfold trK trA; rw [List.length_map]⟩
theorem qM (m : Md) (rs : List CRow) (ui : Value) (w : World) (hr : RdsMd w m) (hfl : FlP m) (hn : RdsCl w ui rs) (hI : InI m (rs.map CRow.xs)) :
   Calls Try.prog 19 #[.agg #[m.sv, m.av, m.iv, m.mv], ui] w (Ret w (fun u_ p_ => ∃ (os9 : List CRow) (ps9 : List HP), p_ = [bigE ps9] ∧ (∀ w, (bigE ps9).holds w → RdsCl w u_ os9) ∧ u_.oneCell' = true ∧ os9.map CRow.xs = trK m (rs.map CRow.xs))) := by
 refine bW (N := 14) (args := [.agg #[m.sv, m.av, m.iv, m.mv], ui]) Try.func19 C C (cA ?_)
 refine cL C (cY C C) ?_
 intro b1
 refine aP 1 C (cA (aI C (aW (cs := [m.sv, m.av, m.iv, m.mv]) C C C C C (aT 0 C 0 C)) (aH 1 C ?_)))
 refine fC C C C (aV C C (fun w hm => lC m rs _ w (hr.below hm.bel) hfl (hn.below hm.bel) hI)) ?_
 intro v2 p3 R4
 obtain ⟨lv, ls, lp, rfl, rfl, hlp, hl1, hlx⟩ := R4
 have hll := vM hlx
 rw [List.length_map] at hll
 refine aP 5 C (bA 2 C ?_)
 exact aN (cH (rs := [.tmp 4]) (vs := [lv]) (post := [bigE lp]) C ⟨C, trivial⟩ C (eO [0] C) ⟨ls, lp, C, hlp, hl1, hlx⟩)
theorem oB (m : Md) (rs : List CRow) (ui : Value) (w : World) (hr : RdsMd w m) (hfl : FlP m) (hn : RdsCl w ui rs) (hI : InI m (rs.map CRow.xs)) :
   Calls Try.prog 18 #[.agg #[m.sv, m.av, m.iv, m.mv], ui] w (Ret w (fun u_ p_ => ∃ (os9 : List CRow) (ps9 : List HP), p_ = [bigE ps9] ∧ (∀ w, (bigE ps9).holds w → RdsCl w u_ os9) ∧ u_.oneCell' = true ∧ os9.map CRow.xs = (trK m (rs.map CRow.xs)).map (ouK m))) := by
 have hln := hfl.lens
 have hI1 := hI.1
 rw [List.length_map] at hI1
 refine bW (N := 30) (args := [.agg #[m.sv, m.av, m.iv, m.mv], ui]) Try.func18 C C (cA ?_)
 refine cL C (cY C C) ?_
 intro b1
 refine aP 1 C (cA (aI C (aW (cs := [m.sv, m.av, m.iv, m.mv]) C C C C C (aT 0 C 0 C)) (aH 1 C ?_)))
 refine fC C C C (aV C C (fun w hm => lC m rs _ w (hr.below hm.bel) hfl (hn.below hm.bel) hI)) ?_
 intro v2 p3 R4
 obtain ⟨lv, ls, lp, rfl, rfl, hlp, hl1, hlx⟩ := R4
 have hll := vM hlx
 rw [List.length_map] at hll
 refine aP 5 C (cA ?_)
 refine eC 48 1 ?_
 refine dY (l' := [rowE 48 1 (.slice none 0 0) (([] : List CRow).length) (([] : List CRow).flatMap crowC), bigE lp, boxE b1 #[m.sv, m.av, m.iv, m.mv] 35]) C ?_
 refine aP 1 C (aF (aF (cG 1 C ?_)))
 refine aI C (dL C C C (fun w hm => (hlp w (hm.holds _ (cF (i := 1) C))).row)) (aP 1 C (bD ?_))
 refine fB [bigE [], rowE 48 1 (.slice none 0 0) (([] : List CRow).length) (([] : List CRow).flatMap crowC), bigE lp, boxE b1 #[m.sv, m.av, m.iv, m.mv] 35] dT ?_
 refine lZ (α := Nat) (β := List CRow) (γ := Value) (δ := List HP) [0, 1, 2, 4, 5, 16, 17] C (fun i os tv ps => [bigE ps, rS9 48 1 tv os crowC, bigE lp, boxE b1 #[m.sv, m.av, m.iv, m.mv] 35]) (fun i os tv ps => [(7, tv), (18, jI (i : Int))]) (fun i os tv ps => i ≤ ls.length ∧ os.map CRow.xs = (ls.take i).map (fun r => ouK m r.xs) ∧ ∀ w, (bigE ps).holds w → ∀ q ∈ os, RdsW w q.v 1 q.xs.length (mI q.xs)) (fun i os tv ps => ls.length - i) 0 [] _ [] ⟨Nat.zero_le _, C, fun w hw q hq => (by cases hq)⟩ (cN C) (eT C) ?_
 intro i os tv ps hi6
 obtain ⟨hi, hos, hp⟩ := hi6
 have hol : os.length = i := by have h9 := congrArg List.length hos; rw [List.length_map, List.length_map, List.length_take] at h9; omega
 refine cA ?_
 refine bN C C C C C C (fun h7 => ?_) (fun h7 => ?_)
 refine bQ (jX C (cE (fD (cA ?_))))
 refine aI C (cR 1 C C C C (fun w hm => (hlp w (hm.holds _ (cF (i := 2) C))).row)) (aI C (aQ (u := (ls.getD i crow0).v) C C C (fun w hm => (hlp w (hm.holds _ (cF (i := 2) C))).row) (gB crowC (fun r => r.v) (fun _ => C) ls crow0 (show i < _ by omega))) ?_)
 refine aP 1 C (cG 1 C ?_)
 have hvo : VlP m (ls.getD i crow0).xs := by rw [uT hlx (by omega)]; exact lS hfl (rs.map CRow.xs) i
 refine aI C (aW (cs := [m.sv, m.av, m.iv, m.mv]) C C C C C (aT 3 C 0 C)) (aH 1 C ?_)
 refine fC C C C (aV C C (fun w hm => nK m ((ls.getD i crow0).xs) ((ls.getD i crow0).v) w (hr.below hm.bel) ((fun w hm => (hlp w (hm.holds _ (cF (i := 2) C))).at (k := i) (by omega)) w hm) hvo.len hln.1)) ?_
 intro v8 p9 R10
 subst R10
 refine eA C (fI C Try.underlying44 (by kernel_rfl) C (fun w hm => (aJ 0 C w hm).one)) ?_
 intro g11
 refine cS (i := 1) C (fun ho12 => ?_)
 refine cW (i := 3) (z := .slice none 0 0) (bytes := 24) C C C C Try.underlying44 (by kernel_rfl) C C C C (aJ 0 C) (aB ho12 bC) (by first | omega | (simp only [List.length_append, List.length_cons, List.length_nil]; omega)) (cM os [(CRow.mk v8 (ouK m (ls.getD i crow0).xs))]) (dM crowC os (CRow.mk v8 (ouK m (ls.getD i crow0).xs)) _ C) (fun _ => C) ?_
 intro v13
 refine dA 1 C (cK (aO (aI C (dO C C C) (dA 1 C ?_))))
 refine cD 6 [5, 4, 3, 1, 2] C C (by decide) ?_
 refine dE 2 C ?_
 exact eR (i + 1) (os ++ [(CRow.mk v8 (ouK m (ls.getD i crow0).xs))]) v13 [bigE ps, rowE 3 1 v8 ((ouK m ((ls.getD i crow0).xs)).length) (mI (ouK m ((ls.getD i crow0).xs)))] ⟨by omega, by rw [List.map_append, hos, eU crow0 (show i < ls.length by omega), List.map_append]; rfl, fun w hw => RdsCl.snoc (v := lv) (v' := lv) (hp w (bO hw dX)) (cZ (bO hw (eI dX)))⟩ (by omega) (cN rfl) (eT rfl)
 refine bQ (kD C ?_)
 refine bI (dC ?_)
 refine aM (aR (bA 2 C ?_))
 refine aN (fV (fun w hm => (aJ 1 C w hm).one) (fun ho9 => ?_))
 refine cD 4 [3, 2, 0, 1] C C (by decide) ?_
 refine dE 2 C ?_
 exact cH (rs := [.tmp 4]) (vs := [tv]) (post := [bigE [rS9 48 1 tv os crowC, bigE ps]]) rfl ⟨rfl, trivial⟩ rfl (eO [0] rfl) ⟨os, _, rfl, fun w hw => ⟨cZ (bO hw dX), hp w (bO hw (eI dX))⟩, ho9, by rw [hos, show i = ls.length by omega, List.take_length, ← hlx, List.map_map]; rfl⟩
theorem iC (m : Md) (w : World) (hr : RdsMd w m) :
   Calls Try.prog 71 #[.agg #[m.sv, m.av, m.iv, m.mv]] w (Ans w (.bool (pB (FlP m)))) := by
 have hs9 := gL hr.s
 have hg9 := gL hr.g
 have hx9 := gL hr.x
 have hm9 := gL hr.m
 have ho9 : ∀ k, k < m.gs.length → (m.gs.getD k as0).os.length ≤ 9223372036854775807 := fun k hk => by have := gL (hr.o.at hk); omega
 refine bW (N := 134) (args := [.agg #[m.sv, m.av, m.iv, m.mv]]) Try.func71 C C (cA ?_)
 refine cL C (cY C C) ?_
 intro b1
 refine aP 1 C (cA (aI C (aW (cs := [m.sv, m.av, m.iv, m.mv]) C C C C C (aT 0 C 0 C)) ?_))
 refine fC C C C (aV C C (fun w hm => mL m w (hr.below hm.bel))) ?_
 intro v2 p3 R4
 obtain ⟨ov, rfl, rfl⟩ := R4
 refine aH 3 C (bT (fun h5 => ?_) (fun h5 => ?_))
 have h5p := fK h5
 refine aP 2 C (aF (bA 2 C (aS C (cE ?_))))
 refine eM ?_
 have hE : EoP m := by assumption
 have hdes := hE.2.1
 obtain ⟨hl1, hl2, hl3, hl4⟩ := hdes.len1
 have hz3 := oY hdes 3
 refine aP 1 C (bD ?_)
 refine gK (α := Nat) [0, 1, 2, 4, 17] C (fun i => [boxE b1 #[m.sv, m.av, m.iv, m.mv] 35]) (fun i => [(5, jI (i : Int))]) (fun i => i ≤ m.ss.length ∧ ∀ q, q < i → (m.ss.getD q sg0).w ≠ 0) (fun i => m.ss.length - i) 0 ⟨Nat.zero_le _, fun q hq => absurd hq (by omega)⟩ (cN C) (eT C) ?_
 intro i hi6
 obtain ⟨hi, hwd⟩ := hi6
 refine aF (aF (cG 1 C (aI C (bM 0 C C C) (aI C (aC C C C (aA 0 C C)) (aI C (dL C C C (aD ((hr).s))) ?_)))))
 refine bN C C C C C C (fun h7 => ?_) (fun h7 => ?_)
 refine bQ (aK C (cE (fD (cA (aI C (bM 0 C C C) (aI C (aC C C C (aA 0 C C)) (aH 1 C (aI C (cR 3 C C C C (aD ((hr).s))) ?_))))))))
 refine aI C (aZ (k0 := 1) C C C (aD ((hr).s)) (by omega)) (aI C (aQ (u := jI ((m.ss.getD i sg0).w)) C C C (aD ((hr).s)) ((bR sgC 3 (fun _ => C) m.ss sg0 (show i < _ by omega) (by decide)).trans C)) ?_)
 refine bU C C C C C C (fun h8 => ?_) (fun h8 => ?_)
 refine bQ (aK C (bA 1 C ?_))
 refine aN (aE ?_)
 refine dZ ?_
 refine aE (aG ?_)
 exact aX C C (congrArg _ (bX (fun hp => by first | (exact absurd hp.eo (by assumption)) | (exact absurd (by omega) (hp.wid i (by omega))) | (exact hp.par k (by omega) ⟨q9, by omega, by omega⟩) | (have h9 := hp.mem j (by omega); unfold MwP at h9; omega) | (have h9 := hp.ins; omega) | (have h9 := hp.outs; omega) | (have h9 := hp.bits; rw [show m.ms.length = j by omega] at h9; omega))).symm)
 refine bQ (gM C (cK (cG 1 C (aI C (dO C C C) ?_))))
 have hE : EoP m := by assumption
 have hdes := hE.2.1
 obtain ⟨hl1, hl2, hl3, hl4⟩ := hdes.len1
 have hz3 := oY hdes 3
 refine dA 1 C ?_
 exact cB (i + 1) ⟨by omega, fun q hq => by by_cases e : q = i; (subst e; omega); exact hwd q (by omega)⟩ (by omega) (cN C) (eT C)
 refine bQ (aS C ?_)
 refine bI (dC ?_)
 refine aM (aR (aF (bA 1 C (bD ?_))))
 refine gK (α := Nat) [0, 1, 2, 4, 17, 22] C (fun k => [boxE b1 #[m.sv, m.av, m.iv, m.mv] 35]) (fun k => [(6, jI (k : Int))]) (fun k => k ≤ m.gs.length ∧ ∀ q, q < k → ¬ HpP (m.gs.getD q as0).os) (fun k => m.gs.length - k) 0 ⟨Nat.zero_le _, fun q hq => absurd hq (by omega)⟩ (cN C) (eT C) ?_
 intro k hi9
 obtain ⟨hk, hpr⟩ := hi9
 refine aF (aF (cG 1 C (aI C (bM 1 C C C) (aI C (aC C C C (aA 0 C C)) (aI C (dL C C C (aD ((hr).g))) ?_)))))
 refine bN C C C C C C (fun h10 => ?_) (fun h10 => ?_)
 refine bQ (aK C (cE (fD (cA ?_))))
 have hol9 := ho9 k (by omega)
 refine aP 1 C (bD ?_)
 refine gK (α := Nat) [0, 1, 2, 4, 6, 17, 22, 36] C (fun q9 => [boxE b1 #[m.sv, m.av, m.iv, m.mv] 35]) (fun q9 => [(7, jI (q9 : Int))]) (fun q9 => q9 ≤ (m.gs.getD k as0).os.length ∧ ∀ q, q < q9 → ((m.gs.getD k as0).os.getD q oq0).k ≠ 1) (fun q9 => (m.gs.getD k as0).os.length - q9) 0 ⟨Nat.zero_le _, fun q hq => absurd hq (by omega)⟩ (cN C) (eT C) ?_
 intro q9 hi11
 obtain ⟨hq9, hrr⟩ := hi11
 refine aF (aF (cG 1 C (aI C (bM 1 C C C) (aI C (aC C C C (aA 0 C C)) (aH 1 C (aI C (cR 2 C C C C (aD ((hr).g))) (aI C (aZ (k0 := 1) C C C (aD ((hr).g)) (by omega)) ?_)))))))
 refine aI C (aQ (u := (m.gs.getD k as0).ov) C C C (aD ((hr).g)) ((bR asC 2 (fun _ => C) m.gs as0 (show k < _ by omega) (by decide)).trans C)) (aI C (dL C C C (aD (hr.o.at (k := k) (by omega)))) ?_)
 refine bN C C C C C C (fun h12 => ?_) (fun h12 => ?_)
 refine bQ (aK C (cE (fD (cA (aI C (bM 1 C C C) (aI C (aC C C C (aA 0 C C)) (aH 1 C (aI C (cR 2 C C C C (aD ((hr).g))) ?_))))))))
 refine aI C (aZ (k0 := 1) C C C (aD ((hr).g)) (by omega)) (aI C (aQ (u := (m.gs.getD k as0).ov) C C C (aD ((hr).g)) ((bR asC 2 (fun _ => C) m.gs as0 (show k < _ by omega) (by decide)).trans C)) ?_)
 refine aH 1 C (aI C (cR 3 C C C C (aD (hr.o.at (k := k) (by omega)))) (aI C (aZ (k0 := 0) C C C (aD (hr.o.at (k := k) (by omega))) (by omega)) ?_))
 refine aI C (aQ (u := jI ((((m.gs.getD k as0).os).getD q9 oq0).k)) C C C (aD (hr.o.at (k := k) (by omega))) ((bR oqC 3 (fun _ => C) ((m.gs.getD k as0).os) oq0 (show q9 < _ by omega) (by decide)).trans C)) (bU C C C C C C (fun h13 => ?_) (fun h13 => ?_))
 refine bQ (aK C (bA 1 C ?_))
 refine aN (aE ?_)
 refine dZ ?_
 refine aE (aE ?_)
 refine dZ ?_
 refine aE (aG ?_)
 exact aX C C (congrArg _ (bX (fun hp => by first | (exact absurd hp.eo (by assumption)) | (exact absurd (by omega) (hp.wid i (by omega))) | (exact hp.par k (by omega) ⟨q9, by omega, by omega⟩) | (have h9 := hp.mem j (by omega); unfold MwP at h9; omega) | (have h9 := hp.ins; omega) | (have h9 := hp.outs; omega) | (have h9 := hp.bits; rw [show m.ms.length = j by omega] at h9; omega))).symm)
 refine bQ (gM C (cK (cG 1 C (aI C (dO C C C) ?_))))
 have hol9 := ho9 k (by omega)
 refine dA 1 C ?_
 exact cB (q9 + 1) ⟨by omega, fun q hq => by by_cases e : q = q9; (subst e; omega); exact hrr q (by omega)⟩ (by omega) (cN C) (eT C)
 refine bQ (aS C ?_)
 refine bI (dC ?_)
 refine aM (cK (cG 1 C (aI C (dO C C C) (dA 1 C ?_))))
 exact cB (k + 1) ⟨by omega, fun q hq => by by_cases e : q = k; (subst e; exact fun hp9 => by obtain ⟨r9, g1, g2⟩ := hp9; exact hrr r9 (by omega) g2); exact hpr q (by omega)⟩ (by omega) (cN C) (eT C)
 refine bQ (aS C ?_)
 refine bI (dC ?_)
 refine aM (aR (cA (aI C (aW (cs := [m.sv, m.av, m.iv, m.mv]) C C C C C (aT 0 C 0 C)) ?_)))
 refine fC C C C (aV C C (fun w hm => eN m 3 w (hr.below hm.bel))) ?_
 intro v14 p15 R16
 subst R16
 refine dW C (aV C C (fun w hm => bJ (mA (pwK m 3) v14 w (aJ 0 C w hm) (kH hdes _) (kU _ _)))) (aP 1 C (aF (bA 1 C (bD ?_))))
 refine jZ (α := Nat) (β := Int) [0, 1, 2, 4, 17, 22, 36] C (fun j c => [rowE 3 1 v14 ((pwK m 3).length) (mI (pwK m 3)), boxE b1 #[m.sv, m.av, m.iv, m.mv] 35]) (fun j c => [(8, jI c), (9, jI (j : Int))]) (fun j c => j ≤ m.ms.length ∧ c = sumZ (pwK m 3) + moA m j ∧ ∀ q, q < j → MwP m (m.ms.getD q mm0)) (fun j c => m.ms.length - j) 0 _ ⟨Nat.zero_le _, (by show _ = _ + (0 : Int); omega), fun q hq => absurd hq (by omega)⟩ (cN C) (eT C) ?_
 intro j c hi17
 obtain ⟨hj, hcs, hmw⟩ := hi17
 have hmo := rW hdes j hj
 refine aF (aF (cG 1 C (aI C (bM 3 C C C) (aI C (aC C C C (aA 1 C C)) (aI C (dL C C C (aD ((hr).m))) ?_)))))
 refine bN C C C C C C (fun h18 => ?_) (fun h18 => ?_)
 refine bQ (aK C (cE (fD (cA ?_))))
 have hmm := memI hdes (show j < m.ms.length by omega)
 refine aI C (bM 3 C C C) (aI C (aC C C C (aA 1 C C)) (aH 1 C (aI C (cR 4 C C C C (aD ((hr).m))) ?_)))
 refine aI C (bL (us := [jI ((m.ms.getD j mm0).a), jI ((m.ms.getD j mm0).d), jI ((m.ms.getD j mm0).w), jI ((m.ms.getD j mm0).o)]) C C C C (aD ((hr).m)) (by omega) C (bY mmC 4 (fun _ => C) m.ms mm0 (show j < _ by omega) C)) (cL C (bG (z := .agg #[jI 0, jI 0, jI 0, jI 0]) C C) ?_)
 intro b19
 refine bE (cs' := #[jI ((m.ms.getD j mm0).a), jI ((m.ms.getD j mm0).d), jI ((m.ms.getD j mm0).w), jI ((m.ms.getD j mm0).o)]) (i := 0) (off := 0) (us := [jI ((m.ms.getD j mm0).a), jI ((m.ms.getD j mm0).d), jI ((m.ms.getD j mm0).w), jI ((m.ms.getD j mm0).o)]) C C C C C C C (aB C (aB C (aB C (aB C bC)))) C C C (bQ (aF (aF ?_)))
 rcases Bool.eq_false_or_eq_true (((m.ss.getD (((m.ms.getD j mm0).a).toNat) sg0).w) != 2) with hb20 | hb20
 have hb20p : (m.ss.getD (((m.ms.getD j mm0).a).toNat) sg0).w ≠ 2 := bne_iff_ne.1 hb20
 refine cI 35 [[], [0], [], [2], [1, 3], [4], [5], [6], [7], [8], [8], [8], [8], [8], [8], [8], [8], [8, 16], [17], [18], [18], [18], [18], [18], [18], [18], [18], [18], [18], [18], [18], [18], [18], [18], [18, 33]] [76, 77, 78, 79, 80, 81, 82, 83, 84, 85, 86, 87, 88, 89, 90, 91, 92, 93, 94, 95, 96, 97, 98, 99, 100, 101, 102, 103, 104, 105, 106, 107, 108, 109, 110] [.pointer (some ⟨b1, 0 + 0, none⟩), m.sv, .pointer (some ⟨b19, 0 + 0, none⟩), jI ((m.ms.getD j mm0).a), elP m.sv (((m.ms.getD j mm0).a).toNat * 3), elP m.sv (((m.ms.getD j mm0).a).toNat * 3 + 1), jI ((m.ss.getD (((m.ms.getD j mm0).a).toNat) sg0).w), .bool true, .bool true, undef, undef, undef, undef, undef, undef, undef, undef, .bool true, .bool true, undef, undef, undef, undef, undef, undef, undef, undef, undef, undef, undef, undef, undef, undef, undef, .bool true] (by kernel_rfl) C ?_ ?_
 exact ⟨bF C (bM 0 C C C) C, bF C (aC C C C (aA 2 C C)) C, bF C (bM 0 C C C) C, bF C (aC C C C (aA 0 C C)) C, bF C (cR 3 C C C C (aD ((hr).s))) C, bF C (aZ (k0 := 1) C C C (aD ((hr).s)) (by omega)) C, bF C (aQ (u := jI ((m.ss.getD (((m.ms.getD j mm0).a).toNat) sg0).w)) C C C (aD ((hr).s)) ((bR sgC 3 (fun _ => C) m.ss sg0 (show ((m.ms.getD j mm0).a).toNat < _ by omega) (by decide)).trans C)) C, .inl ⟨C, gG (dR C C C C) hb20⟩, bF C (aY C) C, .inr ⟨C, C⟩, .inr ⟨C, C⟩, .inr ⟨C, C⟩, .inr ⟨C, C⟩, .inr ⟨C, C⟩, .inr ⟨C, C⟩, .inr ⟨C, C⟩, .inr ⟨C, C⟩, bF C (aY C) C, bF C (aY C) C, .inr ⟨C, C⟩, .inr ⟨C, C⟩, .inr ⟨C, C⟩, .inr ⟨C, C⟩, .inr ⟨C, C⟩, .inr ⟨C, C⟩, .inr ⟨C, C⟩, .inr ⟨C, C⟩, .inr ⟨C, C⟩, .inr ⟨C, C⟩, .inr ⟨C, C⟩, .inr ⟨C, C⟩, .inr ⟨C, C⟩, .inr ⟨C, C⟩, .inr ⟨C, C⟩, bF C (aY C) C, trivial⟩
 simp only [List.drop_succ_cons, List.drop_zero]
 refine bQ (aK C (bA 1 C ?_))
 refine aN (aG ?_)
 refine aE (dZ ?_)
 refine aE (aG ?_)
 exact aX C C (congrArg _ (bX (fun hp => by first | (exact absurd hp.eo (by assumption)) | (exact absurd (by omega) (hp.wid i (by omega))) | (exact hp.par k (by omega) ⟨q9, by omega, by omega⟩) | (have h9 := hp.mem j (by omega); unfold MwP at h9; omega) | (have h9 := hp.ins; omega) | (have h9 := hp.outs; omega) | (have h9 := hp.bits; rw [show m.ms.length = j by omega] at h9; omega))).symm)
 have hb20p : (m.ss.getD (((m.ms.getD j mm0).a).toNat) sg0).w = 2 := (bne_eq_false_iff_eq.1 hb20)
 rcases Bool.eq_false_or_eq_true (((m.ss.getD (((m.ms.getD j mm0).w).toNat) sg0).w) != 1) with hb21 | hb21
 have hb21p : (m.ss.getD (((m.ms.getD j mm0).w).toNat) sg0).w ≠ 1 := bne_iff_ne.1 hb21
 refine cI 35 [[], [0], [], [2], [1, 3], [4], [5], [6], [7], [8], [8, 9], [8], [8, 11], [8, 10, 12], [8, 13], [8, 14], [8, 15], [8, 16], [17], [18], [18], [18], [18], [18], [18], [18], [18], [18], [18], [18], [18], [18], [18], [18], [18, 33]] [76, 77, 78, 79, 80, 81, 82, 83, 84, 85, 86, 87, 88, 89, 90, 91, 92, 93, 94, 95, 96, 97, 98, 99, 100, 101, 102, 103, 104, 105, 106, 107, 108, 109, 110] [.pointer (some ⟨b1, 0 + 0, none⟩), m.sv, .pointer (some ⟨b19, 0 + 0, none⟩), jI ((m.ms.getD j mm0).a), elP m.sv (((m.ms.getD j mm0).a).toNat * 3), elP m.sv (((m.ms.getD j mm0).a).toNat * 3 + 1), jI ((m.ss.getD (((m.ms.getD j mm0).a).toNat) sg0).w), .bool false, .bool false, .pointer (some ⟨b1, 0 + 0, none⟩), m.sv, .pointer (some ⟨b19, 0 + 2, none⟩), jI ((m.ms.getD j mm0).w), elP m.sv (((m.ms.getD j mm0).w).toNat * 3), elP m.sv (((m.ms.getD j mm0).w).toNat * 3 + 1), jI ((m.ss.getD (((m.ms.getD j mm0).w).toNat) sg0).w), .bool true, .bool true, .bool true, undef, undef, undef, undef, undef, undef, undef, undef, undef, undef, undef, undef, undef, undef, undef, .bool true] (by kernel_rfl) C ?_ ?_
 exact ⟨bF C (bM 0 C C C) C, bF C (aC C C C (aA 2 C C)) C, bF C (bM 0 C C C) C, bF C (aC C C C (aA 0 C C)) C, bF C (cR 3 C C C C (aD ((hr).s))) C, bF C (aZ (k0 := 1) C C C (aD ((hr).s)) (by omega)) C, bF C (aQ (u := jI ((m.ss.getD (((m.ms.getD j mm0).a).toNat) sg0).w)) C C C (aD ((hr).s)) ((bR sgC 3 (fun _ => C) m.ss sg0 (show ((m.ms.getD j mm0).a).toNat < _ by omega) (by decide)).trans C)) C, .inl ⟨C, gG (dR C C C C) hb20⟩, bF C (aY C) C, bF C (bM 0 C C C) C, bF C (aC C C C (aA 2 C C)) C, bF C (bM 2 C C C) C, bF C (aC C C C (aA 0 C C)) C, bF C (cR 3 C C C C (aD ((hr).s))) C, bF C (aZ (k0 := 1) C C C (aD ((hr).s)) (by omega)) C, bF C (aQ (u := jI ((m.ss.getD (((m.ms.getD j mm0).w).toNat) sg0).w)) C C C (aD ((hr).s)) ((bR sgC 3 (fun _ => C) m.ss sg0 (show ((m.ms.getD j mm0).w).toNat < _ by omega) (by decide)).trans C)) C, .inl ⟨C, gG (dR C C C C) hb21⟩, bF C (aY C) C, bF C (aY C) C, .inr ⟨C, C⟩, .inr ⟨C, C⟩, .inr ⟨C, C⟩, .inr ⟨C, C⟩, .inr ⟨C, C⟩, .inr ⟨C, C⟩, .inr ⟨C, C⟩, .inr ⟨C, C⟩, .inr ⟨C, C⟩, .inr ⟨C, C⟩, .inr ⟨C, C⟩, .inr ⟨C, C⟩, .inr ⟨C, C⟩, .inr ⟨C, C⟩, .inr ⟨C, C⟩, bF C (aY C) C, trivial⟩
 simp only [List.drop_succ_cons, List.drop_zero]
 refine bQ (aK C (bA 1 C ?_))
 refine aN (aG ?_)
 refine aE (dZ ?_)
 refine aE (aG ?_)
 exact aX C C (congrArg _ (bX (fun hp => by first | (exact absurd hp.eo (by assumption)) | (exact absurd (by omega) (hp.wid i (by omega))) | (exact hp.par k (by omega) ⟨q9, by omega, by omega⟩) | (have h9 := hp.mem j (by omega); unfold MwP at h9; omega) | (have h9 := hp.ins; omega) | (have h9 := hp.outs; omega) | (have h9 := hp.bits; rw [show m.ms.length = j by omega] at h9; omega))).symm)
 have hb21p : (m.ss.getD (((m.ms.getD j mm0).w).toNat) sg0).w = 1 := (bne_eq_false_iff_eq.1 hb21)
 refine cI 35 [[], [0], [], [2], [1, 3], [4], [5], [6], [7], [8], [8, 9], [8], [8, 11], [8, 10, 12], [8, 13], [8, 14], [8, 15], [8, 16], [17], [18], [18, 19], [18], [18, 21], [18, 20, 22], [18, 23], [18, 24], [18], [18, 26], [18], [18, 28], [18, 27, 29], [18, 30], [18, 31], [18, 25, 32], [18, 33]] [76, 77, 78, 79, 80, 81, 82, 83, 84, 85, 86, 87, 88, 89, 90, 91, 92, 93, 94, 95, 96, 97, 98, 99, 100, 101, 102, 103, 104, 105, 106, 107, 108, 109, 110] [.pointer (some ⟨b1, 0 + 0, none⟩), m.sv, .pointer (some ⟨b19, 0 + 0, none⟩), jI ((m.ms.getD j mm0).a), elP m.sv (((m.ms.getD j mm0).a).toNat * 3), elP m.sv (((m.ms.getD j mm0).a).toNat * 3 + 1), jI ((m.ss.getD (((m.ms.getD j mm0).a).toNat) sg0).w), .bool false, .bool false, .pointer (some ⟨b1, 0 + 0, none⟩), m.sv, .pointer (some ⟨b19, 0 + 2, none⟩), jI ((m.ms.getD j mm0).w), elP m.sv (((m.ms.getD j mm0).w).toNat * 3), elP m.sv (((m.ms.getD j mm0).w).toNat * 3 + 1), jI ((m.ss.getD (((m.ms.getD j mm0).w).toNat) sg0).w), .bool false, .bool false, .bool false, .pointer (some ⟨b1, 0 + 0, none⟩), m.sv, .pointer (some ⟨b19, 0 + 1, none⟩), jI ((m.ms.getD j mm0).d), elP m.sv (((m.ms.getD j mm0).d).toNat * 3), elP m.sv (((m.ms.getD j mm0).d).toNat * 3 + 1), jI ((m.ss.getD (((m.ms.getD j mm0).d).toNat) sg0).w), .pointer (some ⟨b1, 0 + 0, none⟩), m.sv, .pointer (some ⟨b19, 0 + 3, none⟩), jI ((m.ms.getD j mm0).o), elP m.sv (((m.ms.getD j mm0).o).toNat * 3), elP m.sv (((m.ms.getD j mm0).o).toNat * 3 + 1), jI ((m.ss.getD (((m.ms.getD j mm0).o).toNat) sg0).w), .bool (((m.ss.getD (((m.ms.getD j mm0).d).toNat) sg0).w) != ((m.ss.getD (((m.ms.getD j mm0).o).toNat) sg0).w)), .bool (((m.ss.getD (((m.ms.getD j mm0).d).toNat) sg0).w) != ((m.ss.getD (((m.ms.getD j mm0).o).toNat) sg0).w))] (by kernel_rfl) C ?_ ?_
 exact ⟨bF C (bM 0 C C C) C, bF C (aC C C C (aA 2 C C)) C, bF C (bM 0 C C C) C, bF C (aC C C C (aA 0 C C)) C, bF C (cR 3 C C C C (aD ((hr).s))) C, bF C (aZ (k0 := 1) C C C (aD ((hr).s)) (by omega)) C, bF C (aQ (u := jI ((m.ss.getD (((m.ms.getD j mm0).a).toNat) sg0).w)) C C C (aD ((hr).s)) ((bR sgC 3 (fun _ => C) m.ss sg0 (show ((m.ms.getD j mm0).a).toNat < _ by omega) (by decide)).trans C)) C, .inl ⟨C, gG (dR C C C C) hb20⟩, bF C (aY C) C, bF C (bM 0 C C C) C, bF C (aC C C C (aA 2 C C)) C, bF C (bM 2 C C C) C, bF C (aC C C C (aA 0 C C)) C, bF C (cR 3 C C C C (aD ((hr).s))) C, bF C (aZ (k0 := 1) C C C (aD ((hr).s)) (by omega)) C, bF C (aQ (u := jI ((m.ss.getD (((m.ms.getD j mm0).w).toNat) sg0).w)) C C C (aD ((hr).s)) ((bR sgC 3 (fun _ => C) m.ss sg0 (show ((m.ms.getD j mm0).w).toNat < _ by omega) (by decide)).trans C)) C, .inl ⟨C, gG (dR C C C C) hb21⟩, bF C (aY C) C, bF C (aY C) C, bF C (bM 0 C C C) C, bF C (aC C C C (aA 2 C C)) C, bF C (bM 1 C C C) C, bF C (aC C C C (aA 0 C C)) C, bF C (cR 3 C C C C (aD ((hr).s))) C, bF C (aZ (k0 := 1) C C C (aD ((hr).s)) (by omega)) C, bF C (aQ (u := jI ((m.ss.getD (((m.ms.getD j mm0).d).toNat) sg0).w)) C C C (aD ((hr).s)) ((bR sgC 3 (fun _ => C) m.ss sg0 (show ((m.ms.getD j mm0).d).toNat < _ by omega) (by decide)).trans C)) C, bF C (bM 0 C C C) C, bF C (aC C C C (aA 2 C C)) C, bF C (bM 3 C C C) C, bF C (aC C C C (aA 0 C C)) C, bF C (cR 3 C C C C (aD ((hr).s))) C, bF C (aZ (k0 := 1) C C C (aD ((hr).s)) (by omega)) C, bF C (aQ (u := jI ((m.ss.getD (((m.ms.getD j mm0).o).toNat) sg0).w)) C C C (aD ((hr).s)) ((bR sgC 3 (fun _ => C) m.ss sg0 (show ((m.ms.getD j mm0).o).toNat < _ by omega) (by decide)).trans C)) C, bF C (dR C C C C) C, bF C (aY C) C, trivial⟩
 simp only [List.drop_succ_cons, List.drop_zero]
 refine bQ ?_
 refine eW C (fun h22 => ?_) (fun h22 => ?_)
 have h22p : (m.ss.getD (((m.ms.getD j mm0).d).toNat) sg0).w ≠ (m.ss.getD (((m.ms.getD j mm0).o).toNat) sg0).w := bne_iff_ne.1 h22
 refine bA 1 C ?_
 refine aN (aG ?_)
 refine aE (dZ ?_)
 refine aE (aG ?_)
 exact aX C C (congrArg _ (bX (fun hp => by first | (exact absurd hp.eo (by assumption)) | (exact absurd (by omega) (hp.wid i (by omega))) | (exact hp.par k (by omega) ⟨q9, by omega, by omega⟩) | (have h9 := hp.mem j (by omega); unfold MwP at h9; omega) | (have h9 := hp.ins; omega) | (have h9 := hp.outs; omega) | (have h9 := hp.bits; rw [show m.ms.length = j by omega] at h9; omega))).symm)
 have h22p : (m.ss.getD (((m.ms.getD j mm0).d).toNat) sg0).w = (m.ss.getD (((m.ms.getD j mm0).o).toNat) sg0).w := (bne_eq_false_iff_eq.1 h22)
 refine cE (cG 1 C (aI C (bM 0 C C C) (aI C (aC C C C (aA 2 C C)) (aI C (bM 3 C C C) (aI C (aC C C C (aA 0 C C)) (aI C (cR 3 C C C C (aD ((hr).s))) (aI C (aZ (k0 := 1) C C C (aD ((hr).s)) (by omega)) ?_)))))))
 refine aI C (aQ (u := jI ((m.ss.getD (((m.ms.getD j mm0).o).toNat) sg0).w)) C C C (aD ((hr).s)) ((bR sgC 3 (fun _ => C) m.ss sg0 (show ((m.ms.getD j mm0).o).toNat < _ by omega) (by decide)).trans C)) (aI C (dO C C C) (dA 1 C (cK (cG 1 C (aI C (dO C C C) (dA 1 C ?_))))))
 exact cX (j + 1) (c + ((m.ss.getD (((m.ms.getD j mm0).o).toNat) sg0).w)) ⟨by omega, (by show _ = _ + (moA m j + _); omega), fun q hq => by by_cases e : q = j; (subst e; exact ⟨by omega, by omega, by omega⟩); exact hmw q (by omega)⟩ (by omega) (cN C) (eO [1, 0] C)
 refine bQ (aS C ?_)
 refine bI (dC ?_)
 refine aM (aR (cA (aI C (aW (cs := [m.sv, m.av, m.iv, m.mv]) C C C C C (aT 1 C 0 C)) ?_)))
 refine fC C C C (aV C C (fun w hm => eN m 0 w (hr.below hm.bel))) ?_
 intro v23 p24 R25
 subst R25
 refine dW C (aV C C (fun w hm => bJ (mA (pwK m 0) v23 w (aJ 0 C w hm) (kH hdes _) (kU _ _)))) (jD C C C C C C (fun h26 => ?_) (fun h26 => ?_))
 refine aH 1 C (aI C (aW (cs := [m.sv, m.av, m.iv, m.mv]) C C C C C (aT 2 C 0 C)) ?_)
 refine fC C C C (aV C C (fun w hm => eN m 1 w (hr.below hm.bel))) ?_
 intro v27 p28 R29
 subst R29
 refine dW C (aV C C (fun w hm => bJ (mA (pwK m 1) v27 w (aJ 0 C w hm) (kH hdes _) (kU _ _)))) (jD C C C C C C (fun h30 => ?_) (fun h30 => ?_))
 refine aH 3 C (jD C C C C C C (fun h31 => ?_) (fun h31 => ?_))
 refine aP 2 C ?_
 exact aN (aX C C (congrArg _ (dG ⟨hE, fun s hs => hwd s (by omega), fun i hi => hpr i (by omega), fun i hi => hmw i (by omega), by omega, by omega, by rw [show m.ms.length = j by omega]; omega⟩).symm))
 refine aP 2 C ?_
 exact aN (aX C C (congrArg _ (bX (fun hp => by first | (exact absurd hp.eo (by assumption)) | (exact absurd (by omega) (hp.wid i (by omega))) | (exact hp.par k (by omega) ⟨q9, by omega, by omega⟩) | (have h9 := hp.mem j (by omega); unfold MwP at h9; omega) | (have h9 := hp.ins; omega) | (have h9 := hp.outs; omega) | (have h9 := hp.bits; rw [show m.ms.length = j by omega] at h9; omega))).symm))
 refine aP 6 C ?_
 exact aN (aX C C (congrArg _ (bX (fun hp => by first | (exact absurd hp.eo (by assumption)) | (exact absurd (by omega) (hp.wid i (by omega))) | (exact hp.par k (by omega) ⟨q9, by omega, by omega⟩) | (have h9 := hp.mem j (by omega); unfold MwP at h9; omega) | (have h9 := hp.ins; omega) | (have h9 := hp.outs; omega) | (have h9 := hp.bits; rw [show m.ms.length = j by omega] at h9; omega))).symm))
 refine aP 11 C ?_
 exact aN (aX C C (congrArg _ (bX (fun hp => by first | (exact absurd hp.eo (by assumption)) | (exact absurd (by omega) (hp.wid i (by omega))) | (exact hp.par k (by omega) ⟨q9, by omega, by omega⟩) | (have h9 := hp.mem j (by omega); unfold MwP at h9; omega) | (have h9 := hp.ins; omega) | (have h9 := hp.outs; omega) | (have h9 := hp.bits; rw [show m.ms.length = j by omega] at h9; omega))).symm))
 have h5p := eP h5
 refine aP 2 C (aF (bA 2 C (aK C (cA ?_))))
 refine aP 1 C ?_
 refine aN (aG ?_)
 exact aX C C (congrArg _ (bX (fun hp => by first | (exact absurd hp.eo (by assumption)) | (exact absurd (by omega) (hp.wid i (by omega))) | (exact hp.par k (by omega) ⟨q9, by omega, by omega⟩) | (have h9 := hp.mem j (by omega); unfold MwP at h9; omega) | (have h9 := hp.ins; omega) | (have h9 := hp.outs; omega) | (have h9 := hp.bits; rw [show m.ms.length = j by omega] at h9; omega))).symm)
theorem FlP.sw1 {m : Md} (h : FlP m) {s : Nat} (hs : s < m.ss.length) : 1 ≤ (m.ss.getD s sg0).w ∧ (m.ss.getD s sg0).w ≤ 4 := by
  have h1 := h.sw hs
  have h2 := h.wid s hs
  omega
theorem rK {m : Md} : ∀ (i s : Nat), i ≤ s → (staA m i).getD s 0 = 0
  | 0, s, _ => iA _ _
  | i + 1, s, h => by
    unfold staA; split
    · rw [List.getD_eq_getElem?_getD, List.getElem?_set, if_neg (by omega), ← List.getD_eq_getElem?_getD]; exact rK i s (by omega)
    · exact rK i s (by omega)
theorem yB {m : Md} (h : FlP m) {i : Nat} (hi : i < m.ss.length) : (staA m i).set i (bits .and .i64 (m.ss.getD i sg0).i (1 * 2 ^ (m.ss.getD i sg0).w.toNat - 1)) = staA m (i + 1) := by
  by_cases hk : (m.ss.getD i sg0).k = 3
  · exact oZ hk
  · have h0 : (m.ss.getD i sg0).i = 0 := Classical.byContradiction fun h9 => hk ((h.eo.mod.sg i hi).2.2.2 h9)
    have hb : bits .and .i64 (m.ss.getD i sg0).i (1 * 2 ^ (m.ss.getD i sg0).w.toNat - 1) = 0 := by
      rw [h0]
      have hw := h.sw hi
      rcases (by omega : (m.ss.getD i sg0).w = 0 ∨ (m.ss.getD i sg0).w = 1 ∨ (m.ss.getD i sg0).w = 2 ∨ (m.ss.getD i sg0).w = 3 ∨ (m.ss.getD i sg0).w = 4) with e | e | e | e | e <;> rw [e] <;> decide
    rw [hb, ← rJ hk]
    have h9 := rK (m := m) i i (Nat.le_refl _)
    have hl := kQ m i
    refine List.ext_getElem (by rw [List.length_set]) (fun s h1 h2 => ?_)
    rw [List.getElem_set]; split
    · next e => subst e; rw [List.getD_eq_getElem?_getD, List.getElem?_eq_getElem h2] at h9; exact h9.symm
    · rfl
theorem tO {m : Md} (h : FlP m) {ord vs : List Int} (ho : ∀ x ∈ ord, 0 ≤ x ∧ x < m.gs.length) (hv : VlP m vs) : ∀ j, j ≤ ord.length → VlP m (ordV m ord vs j)
  | 0, _ => hv
  | j + 1, hj => by
    have h1 := tO h ho hv j (by omega)
    have h2 := ho _ (cV (d := (0 : Int)) (show j < ord.length by omega))
    obtain ⟨i, e⟩ : ∃ i : Nat, ord.getD j 0 = (i : Int) := ⟨(ord.getD j 0).toNat, by omega⟩
    unfold ordV; rw [e]; exact xB h h1 (by omega)
theorem sX {m : Md} {ys : List Int} (hp : ys.Perm (todoA m m.gs.length)) : ∀ x ∈ ys, 0 ≤ x ∧ x < m.gs.length := fun x hx => by
  obtain ⟨j, h1, -, rfl⟩ := fP.1 (hp.mem_iff.1 hx); omega
theorem yA {m : Md} {ys : List Int} (hp : ys.Perm (todoA m m.gs.length)) : ys.length ≤ m.gs.length := by
  rw [hp.length_eq]; exact mE m _
theorem ord_sg {m : Md} (h : FlP m) {ys vs ins : List Int} (hv : VlP m vs) (hp : ys.Perm (todoA m m.gs.length)) (ho : OrdP m ys) : ordV m ys (inA m ins vs m.ss.length).1 ys.length = sgK m vs ins := by
  have hi := kY h (ins := ins) hv _ (Nat.le_refl _)
  rw [pK m _ ys ys 0 rfl (Nat.zero_le _)]
  exact vQ h hv ((uV ys _ hi.len (h.tgp.perm hp) (hp.nodup_iff.2 (iP m _)) ho).perm hp.symm)
theorem zD (m : Md) (w : World) (hr : RdsMd w m) (he : EoP m) : Calls Try.prog 117 #[m.agg] w (Ret w (fun u_ p_ => ∃ (v : Value) (ys : List Int), u_ = .tuple #[v, .bool true] ∧ p_ = [rI9 3 v ys] ∧ ys.Perm (todoA m m.gs.length) ∧ OrdP m ys)) := by
  exact (jA m w hr).mono (fun e w' ⟨v, post, h1, ⟨v2, ys, h2, h3, h4⟩, h5⟩ => ⟨v, post, h1, ⟨v2, ys, by rw [h2, dG he], h3, h4 he⟩, h5⟩)
theorem qH (m : Md) (w : World) (hr : RdsMd w m) (hss : m.ss.length ≤ 30) (hO : ∀ i, i < m.ms.length → 0 ≤ (m.ms.getD i mm0).o ∧ (m.ms.getD i mm0).o < m.ss.length) :
   Calls Try.prog 155 #[.agg #[m.sv, m.av, m.iv, m.mv]] w (Ret w (fun v' post => post = [rS9 4 1 v' (stM m m.ms.length) blC])) := by
 have hs9 := gL hr.s
 have hm9 := gL hr.m
 refine bW (N := 43) (args := [.agg #[m.sv, m.av, m.iv, m.mv]]) Try.func155 C C (cA ?_)
 refine cL C (cY C C) ?_
 intro b1
 refine aP 1 C (cA (aI C (bM 0 C C C) (aI C (aC C C C (aA 0 C C)) (aI C (dL C C C (aD ((hr).s))) ?_))))
 refine eA C (iL (z := .bool false) (s := 1) (bytes := 1) (n := (List.replicate m.ss.length bl0).length) (cs := ((List.replicate m.ss.length bl0).flatMap blC)) C Try.underlying103 C (by decide) C C (by first | (rw [List.length_replicate]; done) | (rw [List.length_replicate]; omega)) (by first | (rw [List.length_replicate]; done) | (rw [List.length_replicate]; omega)) (by rw [List.length_replicate]; omega) (qW blC 1 (fun _ => C) bl0 _ C m.ss.length)) ?_
 intro g2
 refine aP 1 C (aF (bA 1 C (bD ?_)))
 refine jZ (α := Nat) (β := List Bl) [0, 1, 2, 3] C (fun i tk => [rS9 4 1 (.slice (some ⟨g2, 0, none⟩) ((List.replicate m.ss.length bl0).length) ((List.replicate m.ss.length bl0).length)) tk blC, boxE b1 #[m.sv, m.av, m.iv, m.mv] 35]) (fun i tk => [(4, jI (i : Int))]) (fun i tk => i ≤ m.ss.length ∧ tk = stR m i) (fun i tk => m.ss.length - i) 0 (List.replicate m.ss.length bl0) ⟨Nat.zero_le _, (stR_0 m).symm⟩ (cN C) (eT C) ?_
 intro i tk hi3
 obtain ⟨hi, hz⟩ := hi3
 have htl : tk.length = m.ss.length := by rw [hz]; exact mJ m i
 refine aF (aF (cG 1 C (aI C (bM 0 C C C) (aI C (aC C C C (aA 1 C C)) (aI C (dL C C C (aD ((hr).s))) ?_)))))
 refine bN C C C C C C (fun h4 => ?_) (fun h4 => ?_)
 refine bQ (aK C (cE (fD (cG 2 C (aI C (bM 0 C C C) (aI C (aC C C C (aA 1 C C)) (aH 1 C (aI C (cR 3 C C C C (aD ((hr).s))) ?_))))))))
 refine aI C (aZ (k0 := 0) C C C (aD ((hr).s)) (by omega)) (aI C (aQ (u := jI ((m.ss.getD i sg0).k)) C C C (aD ((hr).s)) ((bR sgC 3 (fun _ => C) m.ss sg0 (show i < _ by omega) (by decide)).trans C)) ?_)
 refine bU C C C C C C (fun h5 => ?_) (fun h5 => ?_)
 refine aI C (cR 1 C C C C (aJ 0 C)) (fY (i := 0) (n' := (tk.set i { tk.getD i bl0 with b := true }).length) C C C C C C C C (by first | omega | (simp only [List.length_set]; omega)) List.length_set.symm (iZ blC (fun r => .bool r.b) (fun _ => C) _ ({ tk.getD i bl0 with b := true }) C) C ?_)
 refine bK (cK (cG 1 C (aI C (dO C C C) (dA 1 C ?_))))
 exact cX (i + 1) (tk.set i { tk.getD i bl0 with b := true }) ⟨by omega, (by rw [hz, ← sY (by omega)]; first | rfl | (congr 1; congr 1; first | rfl | (simp; done) | (cases h9 : decide ((m.ss.getD i sg0).k = 3) <;> simp_all)))⟩ (by omega) (cN C) (eT C)
 refine aI C (cR 1 C C C C (aJ 0 C)) (fY (i := 0) (n' := (tk.set i { tk.getD i bl0 with b := false }).length) C C C C C C C C (by first | omega | (simp only [List.length_set]; omega)) List.length_set.symm (iZ blC (fun r => .bool r.b) (fun _ => C) _ ({ tk.getD i bl0 with b := false }) C) C ?_)
 refine bK (cK (cG 1 C (aI C (dO C C C) (dA 1 C ?_))))
 exact cX (i + 1) (tk.set i { tk.getD i bl0 with b := false }) ⟨by omega, (by rw [hz, ← sY (by omega)]; first | rfl | (congr 1; congr 1; first | rfl | (simp; done) | (cases h9 : decide ((m.ss.getD i sg0).k = 3) <;> simp_all)))⟩ (by omega) (cN C) (eT C)
 refine bQ (aS C ?_)
 refine bI (dC ?_)
 refine aM (aR (aF (bA 1 C (bD ?_))))
 refine jZ (α := Nat) (β := List Bl) [0, 1, 2, 3, 14] C (fun j tk2 => [rS9 4 1 (.slice (some ⟨g2, 0, none⟩) ((List.replicate m.ss.length bl0).length) ((List.replicate m.ss.length bl0).length)) tk2 blC, boxE b1 #[m.sv, m.av, m.iv, m.mv] 35]) (fun j tk2 => [(5, jI (j : Int))]) (fun j tk2 => j ≤ m.ms.length ∧ tk2 = stM m j) (fun j tk2 => m.ms.length - j) 0 tk ⟨Nat.zero_le _, (by rw [hz, show i = m.ss.length by omega]; rfl)⟩ (cN C) (eT C) ?_
 intro j tk2 hi6
 obtain ⟨hj, hz2⟩ := hi6
 have htl2 : tk2.length = m.ss.length := by rw [hz2]; exact oH m j
 refine aF (aF (cG 1 C (aI C (bM 3 C C C) (aI C (aC C C C (aA 1 C C)) (aI C (dL C C C (aD ((hr).m))) ?_)))))
 refine bN C C C C C C (fun h7 => ?_) (fun h7 => ?_)
 refine bQ (aK C (cE (fD (aO ?_))))
 have hoj := hO j (by omega)
 refine aH 1 C (aI C (bM 3 C C C) (aI C (aC C C C (aA 1 C C)) (aH 1 C (aI C (cR 4 C C C C (aD ((hr).m))) (aI C (aZ (k0 := 3) C C C (aD ((hr).m)) (by omega)) ?_)))))
 refine aI C (aQ (u := jI ((m.ms.getD j mm0).o)) C C C (aD ((hr).m)) ((bR mmC 4 (fun _ => C) m.ms mm0 (show j < _ by omega) (by decide)).trans C)) (aI C (cR 1 C C C C (aJ 0 C)) ?_)
 refine fY (i := 0) (n' := (tk2.set (((m.ms.getD j mm0).o).toNat) { tk2.getD (((m.ms.getD j mm0).o).toNat) bl0 with b := true }).length) C C C C C C C C (by first | omega | (simp only [List.length_set]; omega)) List.length_set.symm (iZ blC (fun r => .bool r.b) (fun _ => C) _ ({ tk2.getD (((m.ms.getD j mm0).o).toNat) bl0 with b := true }) C) C (bK (cK (cG 1 C (aI C (dO C C C) (dA 1 C ?_)))))
 exact cX (j + 1) (tk2.set (((m.ms.getD j mm0).o).toNat) { tk2.getD (((m.ms.getD j mm0).o).toNat) bl0 with b := true }) ⟨by omega, (by rw [hz2]; rfl)⟩ (by omega) (cN C) (eT C)
 refine bQ (aS C ?_)
 refine bI (dC ?_)
 refine aM (aR (bA 2 C ?_))
 exact aN (gE (post := [rS9 4 1 (.slice (some ⟨g2, 0, none⟩) ((List.replicate m.ss.length bl0).length) ((List.replicate m.ss.length bl0).length)) tk2 blC]) C C (eO [0] C) (by rw [hz2, show j = m.ms.length by omega]))
theorem iW (m : Md) (vs ws : List Int) (uv uw : Value) (w : World) (hr : RdsMd w m) (hv : RdsW w uv 1 vs.length (vs.map (Value.int .i64))) (hw : RdsW w uw 1 ws.length (ws.map (Value.int .i64))) :
   Calls Try.prog 120 #[.agg #[m.sv, m.av, m.iv, m.mv], .agg #[uv, uw]] w (Ans w (.bool (pB (WsP m vs ws)))) := by
 have hv9 := gL hv
 have hw9 := gL hw
 have hs9 := gL hr.s
 have hm9 := gL hr.m
 refine bW (N := 88) (args := [.agg #[m.sv, m.av, m.iv, m.mv], .agg #[uv, uw]]) Try.func120 C C (cA ?_)
 refine cL C (cY C C) ?_
 intro b1
 refine cL C (cY C C) ?_
 intro b2
 refine aP 1 C (eM (aI C (aW (cs := [m.sv, m.av, m.iv, m.mv]) C C C C C (aT 1 C 0 C)) ?_))
 refine dW C (aV C C (fun w hm => bJ (iC m w (hr.below hm.bel)))) (bT (fun h3 => ?_) (fun h3 => ?_))
 have h3p := fK h3
 refine aH 2 C ?_
 have hfl : FlP m := by assumption
 have hln := hfl.lens
 have hsl := oH m m.ms.length
 refine aI C (bM 0 C C C) (aI C (aC C C C (aA 0 C C)) (aI C (dL C C C (aD hv)) (aI C (bM 0 C C C) (aI C (aC C C C (aA 1 C C)) (aI C (dL C C C (aD ((hr).s))) ?_)))))
 refine fZ C C C C C C (fun h4 => ?_) (fun h4 => ?_)
 refine aP 11 C (aK C ?_)
 refine bA 1 C ?_
 refine aN (aG ?_)
 exact aX C C (congrArg _ (bX (fun hp => by first | (exact absurd hp.fl (by assumption)) | (have h9 := hp.v.len; omega) | (have h9 := hp.w.len; omega) | (have h9 := hp.z i (by omega) (by assumption); omega) | (have h9 := hp.v.rng i (by omega); unfold wmK at h9; omega) | (have h9 := hp.w.rng j (by omega); unfold wmK at h9; omega))).symm)
 refine aH 2 C (aI C (bM 1 C C C) (aI C (aC C C C (aA 0 C C)) (aI C (dL C C C (aD hw)) (aI C (bM 3 C C C) (aI C (aC C C C (aA 1 C C)) (aI C (dL C C C (aD ((hr).m))) (aI C (jT C C C (by constructor <;> omega)) ?_)))))))
 refine fZ C C C C C C (fun h5 => ?_) (fun h5 => ?_)
 refine aP 1 C (aK C (bA 1 C ?_))
 refine aN (aG ?_)
 exact aX C C (congrArg _ (bX (fun hp => by first | (exact absurd hp.fl (by assumption)) | (have h9 := hp.v.len; omega) | (have h9 := hp.w.len; omega) | (have h9 := hp.z i (by omega) (by assumption); omega) | (have h9 := hp.v.rng i (by omega); unfold wmK at h9; omega) | (have h9 := hp.w.rng j (by omega); unfold wmK at h9; omega))).symm)
 refine aP 1 C (aS C (cE (cA (aI C (aW (cs := [m.sv, m.av, m.iv, m.mv]) C C C C C (aT 1 C 0 C)) ?_))))
 refine fC C C C (aV C C (fun w hm => qH m w (hr.below hm.bel) hln.1 (fun i hi => (hfl.mm hi).2.2.2))) ?_
 intro v6 p7 R8
 subst R8
 refine aP 1 C (aF (bA 1 C (bD ?_)))
 refine gK (α := Nat) [0, 1, 2, 3, 4, 5, 30] C (fun i => [rowE 4 1 v6 ((stM m m.ms.length).length) ((stM m m.ms.length).flatMap blC), boxE b2 #[uv, uw] 50, boxE b1 #[m.sv, m.av, m.iv, m.mv] 35]) (fun i => [(6, jI (i : Int))]) (fun i => i ≤ vs.length ∧ ∀ q, q < i → (stB m q = false → vs.getD q 0 = 0) ∧ 0 ≤ vs.getD q 0 ∧ vs.getD q 0 ≤ wmK (m.ss.getD q sg0).w) (fun i => vs.length - i) 0 ⟨Nat.zero_le _, fun q hq => absurd hq (by omega)⟩ (cN C) (eT C) ?_
 intro i hi9
 obtain ⟨hi, hvl⟩ := hi9
 refine aF (aF (cG 1 C (aI C (bM 0 C C C) (aI C (aC C C C (aA 2 C C)) (aI C (dL C C C (aD ((hr).s))) ?_)))))
 refine bN C C C C C C (fun h10 => ?_) (fun h10 => ?_)
 refine bQ (aK C (cE (fD (bA 1 C ?_))))
 refine aF (aF (cG 2 C (aI C (cR 1 C C C C (aJ 0 C)) ?_)))
 refine aI C (aQ (u := .bool (((stM m m.ms.length).getD i bl0).b)) C C C (aJ 0 C) (gB blC (fun r => .bool r.b) (fun _ => C) (stM m m.ms.length) bl0 (show i < _ by omega))) (bT (fun h11 => ?_) (fun h11 => ?_))
 refine bQ (aK C (aO ?_))
 have hw7 := hfl.sw (s := i) (by omega)
 have hw9 := iS hw7
 refine aI C (bM 0 C C C) (aI C (aC C C C (aA 2 C C)) (aH 1 C (aI C (cR 3 C C C C (aD ((hr).s))) (aI C (aZ (k0 := 1) C C C (aD ((hr).s)) (by omega)) ?_))))
 refine aI C (aQ (u := jI ((m.ss.getD i sg0).w)) C C C (aD ((hr).s)) ((bR sgC 3 (fun _ => C) m.ss sg0 (show i < _ by omega) (by decide)).trans C)) (aI C (lU (kk' := .i64) C C C (by omega) (by constructor <;> omega)) (aI C (nC C C C) (aP 1 C (cA (aI C (bM 0 C C C) (aI C (aC C C C (aA 1 C C)) (aH 1 C (aI C (cR 1 C C C C (aD hv)) (aI C (qD C C C (aD hv)) (aH 1 C ?_))))))))))
 refine dW C (aV C C (fun w hm => bJ (gY (vs.getD i 0) 0 ((1 * 2 ^ ((m.ss.getD i sg0).w).toNat) - 1) w))) (bT (fun h12 => ?_) (fun h12 => ?_))
 obtain ⟨h12a, h12b⟩ := (dQ _ _ _).1 h12
 refine aP 1 C (gM C (cK (cG 1 C (aI C (dO C C C) (dA 1 C ?_)))))
 have hw7 := hfl.sw (s := i) (by omega)
 have hw9 := iS hw7
 have hw8 : wmK (m.ss.getD i sg0).w = 1 * 2 ^ (m.ss.getD i sg0).w.toNat - 1 := rfl
 exact cB (i + 1) ⟨by omega, fun q hq => by by_cases e : q = i; (subst e; exact ⟨fun hb => by first | omega | exact absurd ((show ((stM m m.ms.length).getD q bl0).b = true by assumption).symm.trans hb) (by decide), by omega, by omega⟩); exact hvl q (by omega)⟩ (by omega) (cN C) (eT C)
 have h12a := dK h12
 refine aP 1 C (aK C (bA 1 C ?_))
 refine aN (aE ?_)
 refine dZ ?_
 refine aE (aG ?_)
 exact aX C C (congrArg _ (bX (fun hp => by first | (exact absurd hp.fl (by assumption)) | (have h9 := hp.v.len; omega) | (have h9 := hp.w.len; omega) | (have h9 := hp.z i (by omega) (by assumption); omega) | (have h9 := hp.v.rng i (by omega); unfold wmK at h9; omega) | (have h9 := hp.w.rng j (by omega); unfold wmK at h9; omega))).symm)
 refine bQ (aS C (cE (cA (aI C (bM 0 C C C) (aI C (aC C C C (aA 1 C C)) (aH 1 C (aI C (cR 1 C C C C (aD hv)) (aI C (qD C C C (aD hv)) (aH 1 C ?_)))))))))
 refine dW C (aV C C (fun w hm => bJ (gY (vs.getD i 0) 0 0 w))) (bT (fun h13 => ?_) (fun h13 => ?_))
 obtain ⟨h13a, h13b⟩ := (dQ _ _ _).1 h13
 refine aP 1 C (gM C (cK (cG 1 C (aI C (dO C C C) (dA 1 C ?_)))))
 have hw7 := hfl.sw (s := i) (by omega)
 have hw9 := iS hw7
 have hw8 : wmK (m.ss.getD i sg0).w = 1 * 2 ^ (m.ss.getD i sg0).w.toNat - 1 := rfl
 exact cB (i + 1) ⟨by omega, fun q hq => by by_cases e : q = i; (subst e; exact ⟨fun hb => by first | omega | exact absurd ((show ((stM m m.ms.length).getD q bl0).b = true by assumption).symm.trans hb) (by decide), by omega, by omega⟩); exact hvl q (by omega)⟩ (by omega) (cN C) (eT C)
 have h13a := dK h13
 refine aP 1 C (aK C (bA 1 C ?_))
 refine aN (aE ?_)
 refine dZ ?_
 refine aE (aG ?_)
 exact aX C C (congrArg _ (bX (fun hp => by first | (exact absurd hp.fl (by assumption)) | (have h9 := hp.v.len; omega) | (have h9 := hp.w.len; omega) | (have h9 := hp.z i (by omega) (by assumption); omega) | (have h9 := hp.v.rng i (by omega); unfold wmK at h9; omega) | (have h9 := hp.w.rng j (by omega); unfold wmK at h9; omega))).symm)
 refine bQ (aS C ?_)
 refine bI (dC ?_)
 refine aM (aR (aF (bA 1 C (bD ?_))))
 refine gK (α := Nat) [0, 1, 2, 3, 4, 5, 30, 37] C (fun j => [rowE 4 1 v6 ((stM m m.ms.length).length) ((stM m m.ms.length).flatMap blC), boxE b2 #[uv, uw] 50, boxE b1 #[m.sv, m.av, m.iv, m.mv] 35]) (fun j => [(8, jI (j : Int))]) (fun j => j ≤ ws.length ∧ ∀ q, q < j → 0 ≤ ws.getD q 0 ∧ ws.getD q 0 ≤ wmK (m.ss.getD (m.ms.getD ((q : Int) / 4).toNat mm0).d.toNat sg0).w) (fun j => ws.length - j) 0 ⟨Nat.zero_le _, fun q hq => absurd hq (by omega)⟩ (cN C) (eT C) ?_
 intro j hi14
 obtain ⟨hj, hwl⟩ := hi14
 refine aF (aF (cG 1 C (aI C (bM 1 C C C) (aI C (aC C C C (aA 1 C C)) (aI C (dL C C C (aD hw)) ?_)))))
 refine bN C C C C C C (fun h15 => ?_) (fun h15 => ?_)
 refine bQ (aK C (cE (fD (aF ?_))))
 have hmj := hfl.mm (i := ((j : Int) / 4).toNat) (by omega)
 have hw7 := hfl.sw (s := (m.ms.getD ((j : Int) / 4).toNat mm0).d.toNat) (by omega)
 have hw9 := iS hw7
 refine cI 21 [[], [0], [], [1, 2], [3], [], [5], [], [7], [], [9], [8, 10], [11], [12], [6, 13], [14], [15], [16], [17], [4, 18], [19]] [67, 68, 69, 70, 71, 72, 73, 74, 75, 76, 77, 78, 79, 80, 81, 82, 83, 84, 85, 86, 87] [.pointer (some ⟨b2, 0 + 1, none⟩), uw, jI (j : Int), elP uw ((j : Int).toNat * 1), jI (ws.getD j 0), .pointer (some ⟨b1, 0 + 0, none⟩), m.sv, .pointer (some ⟨b1, 0 + 3, none⟩), m.mv, jI (j : Int), jI ((j : Int) / 4), elP m.mv (((j : Int) / 4).toNat * 4), elP m.mv (((j : Int) / 4).toNat * 4 + 1), jI ((m.ms.getD (((j : Int) / 4).toNat) mm0).d), elP m.sv (((m.ms.getD (((j : Int) / 4).toNat) mm0).d).toNat * 3), elP m.sv (((m.ms.getD (((j : Int) / 4).toNat) mm0).d).toNat * 3 + 1), jI ((m.ss.getD (((m.ms.getD (((j : Int) / 4).toNat) mm0).d).toNat) sg0).w), jI (1 * 2 ^ ((m.ss.getD (((m.ms.getD (((j : Int) / 4).toNat) mm0).d).toNat) sg0).w).toNat), jI ((1 * 2 ^ ((m.ss.getD (((m.ms.getD (((j : Int) / 4).toNat) mm0).d).toNat) sg0).w).toNat) - 1), .bool (inR (ws.getD j 0) 0 ((1 * 2 ^ ((m.ss.getD (((m.ms.getD (((j : Int) / 4).toNat) mm0).d).toNat) sg0).w).toNat) - 1)), .bool (!(inR (ws.getD j 0) 0 ((1 * 2 ^ ((m.ss.getD (((m.ms.getD (((j : Int) / 4).toNat) mm0).d).toNat) sg0).w).toNat) - 1)))] (by kernel_rfl) C ?_ ?_
 exact ⟨bF C (bM 1 C C C) C, bF C (aC C C C (aA 1 C C)) C, bF C (aY C) C, bF C (cR 1 C C C C (aD hw)) C, bF C (qD C C C (aD hw)) C, bF C (bM 0 C C C) C, bF C (aC C C C (aA 2 C C)) C, bF C (bM 3 C C C) C, bF C (aC C C C (aA 2 C C)) C, bF C (aY C) C, bF C (yL C C C (by refine ⟨?_, ?_, ?_⟩ <;> omega)) C, bF C (cR 4 C C C C (aD ((hr).m))) C, bF C (aZ (k0 := 1) C C C (aD ((hr).m)) (by omega)) C, bF C (aQ (u := jI ((m.ms.getD (((j : Int) / 4).toNat) mm0).d)) C C C (aD ((hr).m)) ((bR mmC 4 (fun _ => C) m.ms mm0 (show ((j : Int) / 4).toNat < _ by omega) (by decide)).trans C)) C, bF C (cR 3 C C C C (aD ((hr).s))) C, bF C (aZ (k0 := 1) C C C (aD ((hr).s)) (by omega)) C, bF C (aQ (u := jI ((m.ss.getD (((m.ms.getD (((j : Int) / 4).toNat) mm0).d).toNat) sg0).w)) C C C (aD ((hr).s)) ((bR sgC 3 (fun _ => C) m.ss sg0 (show ((m.ms.getD (((j : Int) / 4).toNat) mm0).d).toNat < _ by omega) (by decide)).trans C)) C, bF C (lU (kk' := .i64) C C C (by omega) (by constructor <;> omega)) C, bF C (nC C C C) C, .inl ⟨C, aV (by kernel_rfl) C (fun w hm => bJ (gY (ws.getD j 0) 0 ((1 * 2 ^ ((m.ss.getD (((m.ms.getD (((j : Int) / 4).toNat) mm0).d).toNat) sg0).w).toNat) - 1) w))⟩, bF C (aY C) C, trivial⟩
 simp only [List.drop_succ_cons, List.drop_zero]
 refine bQ ?_
 refine eW C (fun h16 => ?_) (fun h16 => ?_)
 have h16n : (inR (ws.getD j 0) 0 ((1 * 2 ^ ((m.ss.getD (((m.ms.getD (((j : Int) / 4).toNat) mm0).d).toNat) sg0).w).toNat) - 1)) = false := by simpa using h16
 have h16na := dK h16n
 refine bA 1 C ?_
 refine aN (aE ?_)
 refine dZ ?_
 refine aE (aG ?_)
 exact aX C C (congrArg _ (bX (fun hp => by first | (exact absurd hp.fl (by assumption)) | (have h9 := hp.v.len; omega) | (have h9 := hp.w.len; omega) | (have h9 := hp.z i (by omega) (by assumption); omega) | (have h9 := hp.v.rng i (by omega); unfold wmK at h9; omega) | (have h9 := hp.w.rng j (by omega); unfold wmK at h9; omega))).symm)
 have h16n : (inR (ws.getD j 0) 0 ((1 * 2 ^ ((m.ss.getD (((m.ms.getD (((j : Int) / 4).toNat) mm0).d).toNat) sg0).w).toNat) - 1)) = true := by simpa using h16
 obtain ⟨h16na, h16nb⟩ := (dQ _ _ _).1 h16n
 refine fA (cK (cG 1 C (aI C (dO C C C) (dA 1 C ?_))))
 have hw8 : wmK (m.ss.getD (m.ms.getD ((j : Int) / 4).toNat mm0).d.toNat sg0).w = 1 * 2 ^ (m.ss.getD (m.ms.getD ((j : Int) / 4).toNat mm0).d.toNat sg0).w.toNat - 1 := rfl
 exact cB (j + 1) ⟨by omega, fun q hq => by by_cases e : q = j; (subst e; exact ⟨by omega, by omega⟩); exact hwl q (by omega)⟩ (by omega) (cN C) (eT C)
 refine bQ (aS C ?_)
 refine bI (dC ?_)
 refine aM (aR (bA 1 C ?_))
 exact aN (aX C C (congrArg _ (dG ⟨hfl, ⟨by omega, fun s hs => (hvl s (by omega)).2⟩, ⟨by omega, fun q hq => hwl q (by omega)⟩, fun s hs => (hvl s (by omega)).1⟩).symm))
 have h3p := eP h3
 refine aP 20 C (aK C (bA 1 C ?_))
 refine aN (aG ?_)
 exact aX C C (congrArg _ (bX (fun hp => by first | (exact absurd hp.fl (by assumption)) | (have h9 := hp.v.len; omega) | (have h9 := hp.w.len; omega) | (have h9 := hp.z i (by omega) (by assumption); omega) | (have h9 := hp.v.rng i (by omega); unfold wmK at h9; omega) | (have h9 := hp.w.rng j (by omega); unfold wmK at h9; omega))).symm)
theorem mK (m : Md) (w : World) (hr : RdsMd w m) (hfl : FlP m) :
   Calls Try.prog 80 #[.agg #[m.sv, m.av, m.iv, m.mv]] w (Ret w (fun u_ p_ => ∃ a9 b9, u_ = .agg #[a9, b9] ∧ p_ = [rI9 3 a9 (staV m), rI9 3 b9 (staW m)])) := by
 have hs9 := gL hr.s
 have hln := hfl.lens
 refine bW (N := 46) (args := [.agg #[m.sv, m.av, m.iv, m.mv]]) Try.func80 C C (cA ?_)
 refine cL C (cY C C) ?_
 intro b1
 refine cL C (bG (z := .agg #[.slice none 0 0, .slice none 0 0]) C C) ?_
 intro b2
 refine bQ (eM (aI C (aW (cs := [m.sv, m.av, m.iv, m.mv]) C C C C C (aT 1 C 0 C)) ?_))
 refine dW C (aV C C (fun w hm => bJ (by have h9 := iC m w (hr.below hm.bel); rw [dG hfl] at h9; exact h9))) (aP 1 C (aS C (cE (aF ?_))))
 refine hS C 11 [0, 1, 2, 3, 4, 5, 6, 7, 8, 9, 10] (List.take 11 _) (List.drop 11 _) [[], [0], [1], [2], [], [4], [5], [6], [7], [3, 8], []] [9, 10, 11, 12, 13, 14, 15, 16, 17, 18, 3] (fun i_ vs_ v_ p_ => match i_ with | 0 => v_ = .pointer (some ⟨b1, 0 + 0, none⟩) ∧ p_ = [] | 1 => v_ = m.sv ∧ p_ = [] | 2 => v_ = jI (m.ss.length : Int) ∧ p_ = [] | 3 => IsRow 3 1 ((List.replicate m.ss.length (0 : Int)).length) (mI (List.replicate m.ss.length (0 : Int))) v_ p_ | 4 => v_ = .pointer (some ⟨b1, 0 + 3, none⟩) ∧ p_ = [] | 5 => v_ = m.mv ∧ p_ = [] | 6 => v_ = jI (m.ms.length : Int) ∧ p_ = [] | 7 => v_ = jI (4 * (m.ms.length : Int)) ∧ p_ = [] | 8 => IsRow 3 1 ((List.replicate (4 * m.ms.length : Nat) (0 : Int)).length) (mI (List.replicate (4 * m.ms.length : Nat) (0 : Int))) v_ p_ | 9 => v_ = .agg #[(gV9 vs_ 0), (gV9 vs_ 1)] ∧ p_ = [] | 10 => IsBox #[.slice none 0 0, .slice none 0 0] 50 v_ p_ | _ => True) (List.take_append_drop 11 _).symm (by kernel_rfl) (by kernel_rfl) C C ?_ ?_
 refine ⟨?_, ?_, ?_, ?_, ?_, ?_, ?_, ?_, ?_, ?_, ?_, trivial⟩
 intro vf pf hR
 exact jJ C (aU [1] C) (bH (bM 0 C C C))
 intro vf pf hR
 have e0 := hR 0 (by decide)
 exact gR C (sk 9 (congrArg some e0.1) (aL _)) (bH (aC C C C (aA 1 C C)))
 intro vf pf hR
 have e1 := hR 1 (by decide)
 exact gR C (sk 10 (congrArg some e1.1) (aL _)) (bH (dL C C C (aD ((hr).s))))
 intro vf pf hR
 have e2 := hR 2 (by decide)
 exact gR C (sk 11 (congrArg some e2.1) (aL _)) (iL (z := jI 0) (s := 1) (bytes := 8) (n := (List.replicate m.ss.length (0 : Int)).length) (cs := (mI (List.replicate m.ss.length (0 : Int)))) C Try.underlying48 C (by decide) C C (by first | (rw [List.length_replicate]; done) | (rw [List.length_replicate]; omega)) (by first | (rw [List.length_replicate]; done) | (rw [List.length_replicate]; omega)) (by rw [List.length_replicate]; omega) (hZ _))
 intro vf pf hR
 exact jJ C (aU [1] C) (bH (bM 3 C C C))
 intro vf pf hR
 have e4 := hR 4 (by decide)
 exact gR C (sk 13 (congrArg some e4.1) (aL _)) (bH (aC C C C (aA 1 C C)))
 intro vf pf hR
 have e5 := hR 5 (by decide)
 exact gR C (sk 14 (congrArg some e5.1) (aL _)) (bH (dL C C C (aD ((hr).m))))
 intro vf pf hR
 have e6 := hR 6 (by decide)
 exact jJ C (sk 15 (congrArg some e6.1) (aL _)) (bH (jT C C C (by constructor <;> omega)))
 intro vf pf hR
 have e7 := hR 7 (by decide)
 exact gR C (sk 16 (congrArg some e7.1) (aL _)) (iL (z := jI 0) (s := 1) (bytes := 8) (n := (List.replicate (4 * m.ms.length : Nat) (0 : Int)).length) (cs := (mI (List.replicate (4 * m.ms.length : Nat) (0 : Int)))) C Try.underlying48 C (by decide) C C (by first | (rw [List.length_replicate]; done) | (rw [List.length_replicate]; omega)) (by first | (rw [List.length_replicate]; done) | (rw [List.length_replicate]; omega)) (by rw [List.length_replicate]; omega) (hZ _))
 intro vf pf hR
 have e3 : IsRow 3 1 ((List.replicate m.ss.length (0 : Int)).length) (mI (List.replicate m.ss.length (0 : Int))) (vf 3) (pf 3) := hR 3 (by decide)
 obtain ⟨g3, vE3, pE3⟩ := e3
 have e8 : IsRow 3 1 ((List.replicate (4 * m.ms.length : Nat) (0 : Int)).length) (mI (List.replicate (4 * m.ms.length : Nat) (0 : Int))) (vf 8) (pf 8) := hR 8 (by decide)
 obtain ⟨g4, vE8, pE8⟩ := e8
 refine Or.inl ⟨C, ?_⟩
 exact dJ (sk 12 (congrArg some vE3) (sk 17 (congrArg some vE8) (aL _))) (by simp only [pE3, vE3, pE8, vE8, fS] <;> rfl) (eB (bH (gO (cs := #[.slice (some ⟨g3, 0, none⟩) ((List.replicate m.ss.length (0 : Int)).length) ((List.replicate m.ss.length (0 : Int)).length), .slice (some ⟨g4, 0, none⟩) ((List.replicate (4 * m.ms.length : Nat) (0 : Int)).length) ((List.replicate (4 * m.ms.length : Nat) (0 : Int)).length)]) C C (fun w hm => pY (.slice (some ⟨g3, 0, none⟩) ((List.replicate m.ss.length (0 : Int)).length) ((List.replicate m.ss.length (0 : Int)).length)) (.slice (some ⟨g4, 0, none⟩) ((List.replicate (4 * m.ms.length : Nat) (0 : Int)).length) ((List.replicate (4 * m.ms.length : Nat) (0 : Int)).length)) C C))) (fun _ _ h => ⟨h.1.trans (by show _ = (.agg #[(vf 3), (vf 8)] : Value); first | (rw [vE3, vE8]; done) | (rw [vE3, vE8]; rfl)), h.2⟩))
 intro vf pf hR
 exact gR C (aL _) (bG (z := .agg #[.slice none 0 0, .slice none 0 0]) C C)
 intro vf pf hR
 have e3 : IsRow 3 1 ((List.replicate m.ss.length (0 : Int)).length) (mI (List.replicate m.ss.length (0 : Int))) (vf 3) (pf 3) := hR 3 (by decide)
 obtain ⟨g3, vE3, pE3⟩ := e3
 have e8 : IsRow 3 1 ((List.replicate (4 * m.ms.length : Nat) (0 : Int)).length) (mI (List.replicate (4 * m.ms.length : Nat) (0 : Int))) (vf 8) (pf 8) := hR 8 (by decide)
 obtain ⟨g4, vE8, pE8⟩ := e8
 have e9 : (vf 9) = .agg #[(vf 3), (vf 8)] ∧ (pf 9) = [] := hR 9 (by decide)
 rw [vE3, vE8] at e9
 have e10 : IsBox #[.slice none 0 0, .slice none 0 0] 50 (vf 10) (pf 10) := hR 10 (by decide)
 obtain ⟨b5, vE10, pE10⟩ := e10
 have q0 := hR 0 (by decide)
 have q1 := hR 1 (by decide)
 have q2 := hR 2 (by decide)
 have q4 := hR 4 (by decide)
 have q5 := hR 5 (by decide)
 have q6 := hR 6 (by decide)
 have q7 := hR 7 (by decide)
 have q9 := hR 9 (by decide)
 refine dV (dB [2, 1, 0] _ (sk 3 (congrArg some vE10) (sk 7 C (sk 18 (congrArg some e9.1) (aL _)))) C) (by simp only [pE3, vE3, pE8, vE8, pE10, vE10, q0.2, q1.2, q2.2, q4.2, q5.2, q6.2, q7.2, q9.2, fS] <;> rfl) ?_
 simp only [List.drop_succ_cons, List.drop_zero]
 refine bE (cs' := #[.slice (some ⟨g3, 0, none⟩) ((List.replicate m.ss.length (0 : Int)).length) ((List.replicate m.ss.length (0 : Int)).length), .slice (some ⟨g4, 0, none⟩) ((List.replicate (4 * m.ms.length : Nat) (0 : Int)).length) ((List.replicate (4 * m.ms.length : Nat) (0 : Int)).length)]) (i := 2) (off := 0) (us := [.slice (some ⟨g3, 0, none⟩) ((List.replicate m.ss.length (0 : Int)).length) ((List.replicate m.ss.length (0 : Int)).length), .slice (some ⟨g4, 0, none⟩) ((List.replicate (4 * m.ms.length : Nat) (0 : Int)).length) ((List.replicate (4 * m.ms.length : Nat) (0 : Int)).length)]) C C C C C C C (aB C (aB C bC)) C C C (bQ (aF (bA 1 C (bD ?_))))
 refine jZ (α := Nat) (β := List Int) [0, 1, 2, 3, 7] C (fun i zs => [rI9 3 (.slice (some ⟨g3, 0, none⟩) ((List.replicate m.ss.length (0 : Int)).length) ((List.replicate m.ss.length (0 : Int)).length)) zs, rowE 3 1 (.slice (some ⟨g4, 0, none⟩) ((List.replicate (4 * m.ms.length : Nat) (0 : Int)).length) ((List.replicate (4 * m.ms.length : Nat) (0 : Int)).length)) ((List.replicate (4 * m.ms.length : Nat) (0 : Int)).length) (mI (List.replicate (4 * m.ms.length : Nat) (0 : Int))), boxE b5 #[.slice (some ⟨g3, 0, none⟩) ((List.replicate m.ss.length (0 : Int)).length) ((List.replicate m.ss.length (0 : Int)).length), .slice (some ⟨g4, 0, none⟩) ((List.replicate (4 * m.ms.length : Nat) (0 : Int)).length) ((List.replicate (4 * m.ms.length : Nat) (0 : Int)).length)] 50, boxE b2 #[.slice none 0 0, .slice none 0 0] 50, boxE b1 #[m.sv, m.av, m.iv, m.mv] 35]) (fun i zs => [(4, jI (i : Int))]) (fun i zs => i ≤ m.ss.length ∧ zs = staA m i) (fun i zs => m.ss.length - i) 0 (List.replicate m.ss.length 0) ⟨Nat.zero_le _, C⟩ (cN C) (eT C) ?_
 intro i zs hi6
 obtain ⟨hi, hz⟩ := hi6
 have hzl : zs.length = m.ss.length := by rw [hz]; exact kQ m i
 refine aF (aF (cG 1 C (aI C (bM 0 C C C) (aI C (aC C C C (aA 4 C C)) (aI C (dL C C C (aD ((hr).s))) ?_)))))
 refine bN C C C C C C (fun h7 => ?_) (fun h7 => ?_)
 refine bQ (aK C (cE (fD ?_)))
 have hw7 := hfl.sw (s := i) (by omega)
 have hw9 := iS hw7
 refine cI 19 [[], [0], [], [], [3], [], [4, 5], [6], [7], [], [9], [], [10, 11], [12], [13], [14], [15], [8, 16], [1, 2]] [26, 27, 28, 29, 30, 31, 32, 33, 34, 35, 36, 37, 38, 39, 40, 41, 42, 43, 44] [.pointer (some ⟨b5, 0 + 0, none⟩), .slice (some ⟨g3, 0, none⟩) ((List.replicate m.ss.length (0 : Int)).length) ((List.replicate m.ss.length (0 : Int)).length), jI (i : Int), .pointer (some ⟨b1, 0 + 0, none⟩), m.sv, jI (i : Int), elP m.sv ((i : Int).toNat * 3), elP m.sv ((i : Int).toNat * 3 + 2), jI ((m.ss.getD i sg0).i), .pointer (some ⟨b1, 0 + 0, none⟩), m.sv, jI (i : Int), elP m.sv ((i : Int).toNat * 3), elP m.sv ((i : Int).toNat * 3 + 1), jI ((m.ss.getD i sg0).w), jI (1 * 2 ^ ((m.ss.getD i sg0).w).toNat), jI ((1 * 2 ^ ((m.ss.getD i sg0).w).toNat) - 1), jI (bits .and .i64 ((m.ss.getD i sg0).i) ((1 * 2 ^ ((m.ss.getD i sg0).w).toNat) - 1)), elP (.slice (some ⟨g3, 0, none⟩) ((List.replicate m.ss.length (0 : Int)).length) ((List.replicate m.ss.length (0 : Int)).length)) ((i : Int).toNat * 1)] (by kernel_rfl) C ?_ ?_
 exact ⟨bF C (bM 0 C C C) C, bF C (aC C C C (aA 2 C C)) C, bF C (aY C) C, bF C (bM 0 C C C) C, bF C (aC C C C (aA 4 C C)) C, bF C (aY C) C, bF C (cR 3 C C C C (aD ((hr).s))) C, bF C (aZ (k0 := 2) C C C (aD ((hr).s)) (by omega)) C, bF C (aQ (u := jI ((m.ss.getD i sg0).i)) C C C (aD ((hr).s)) ((bR sgC 3 (fun _ => C) m.ss sg0 (show i < _ by omega) (by decide)).trans C)) C, bF C (bM 0 C C C) C, bF C (aC C C C (aA 4 C C)) C, bF C (aY C) C, bF C (cR 3 C C C C (aD ((hr).s))) C, bF C (aZ (k0 := 1) C C C (aD ((hr).s)) (by omega)) C, bF C (aQ (u := jI ((m.ss.getD i sg0).w)) C C C (aD ((hr).s)) ((bR sgC 3 (fun _ => C) m.ss sg0 (show i < _ by omega) (by decide)).trans C)) C, bF C (lU (kk' := .i64) C C C (by omega) (by constructor <;> omega)) C, bF C (nC C C C) C, bF C (dS C (by decide) C C (r := bits .and .i64 ((m.ss.getD i sg0).i) ((1 * 2 ^ ((m.ss.getD i sg0).w).toNat) - 1)) C) C, bF C (cR 1 C C C C (aJ 0 C)) C, trivial⟩
 simp only [List.drop_succ_cons, List.drop_zero]
 refine fY (i := 0) (n' := (zs.set i (bits .and .i64 ((m.ss.getD i sg0).i) ((1 * 2 ^ ((m.ss.getD i sg0).w).toNat) - 1))).length) (xs' := ((zs.set i (bits .and .i64 ((m.ss.getD i sg0).i) ((1 * 2 ^ ((m.ss.getD i sg0).w).toNat) - 1))).map (Value.int .i64))) C C C C C C C C (by first | omega | (simp only [List.length_set]; omega)) List.length_set.symm (fM _ _ _) C (bK (cK (cG 1 C (aI C (dO C C C) (dA 1 C ?_)))))
 exact cX (i + 1) (zs.set i (bits .and .i64 ((m.ss.getD i sg0).i) ((1 * 2 ^ ((m.ss.getD i sg0).w).toNat) - 1))) ⟨by omega, by rw [hz]; exact yB hfl (by omega)⟩ (by omega) (cN rfl) (eT rfl)
 refine bQ (aS C ?_)
 refine bI (dC ?_)
 refine aM (aR (aF (aO (aI C (aW (cs := [.slice (some ⟨g3, 0, none⟩) ((List.replicate m.ss.length (0 : Int)).length) ((List.replicate m.ss.length (0 : Int)).length), .slice (some ⟨g4, 0, none⟩) ((List.replicate (4 * m.ms.length : Nat) (0 : Int)).length) ((List.replicate (4 * m.ms.length : Nat) (0 : Int)).length)]) C C C C C (aT 2 C 0 C)) ?_))))
 refine bE (cs' := #[.slice (some ⟨g3, 0, none⟩) ((List.replicate m.ss.length (0 : Int)).length) ((List.replicate m.ss.length (0 : Int)).length), .slice (some ⟨g4, 0, none⟩) ((List.replicate (4 * m.ms.length : Nat) (0 : Int)).length) ((List.replicate (4 * m.ms.length : Nat) (0 : Int)).length)]) (i := 3) (off := 0) (us := [.slice (some ⟨g3, 0, none⟩) ((List.replicate m.ss.length (0 : Int)).length) ((List.replicate m.ss.length (0 : Int)).length), .slice (some ⟨g4, 0, none⟩) ((List.replicate (4 * m.ms.length : Nat) (0 : Int)).length) ((List.replicate (4 * m.ms.length : Nat) (0 : Int)).length)]) C C C C C C C (aB C (aB C bC)) C C C (bQ ?_)
 refine aN (cD 5 [4, 3, 2, 1, 0] C C (by decide) ?_)
 exact cH (rs := [.cell 2 50]) (vs := [.agg #[.slice (some ⟨g3, 0, none⟩) ((List.replicate m.ss.length (0 : Int)).length) ((List.replicate m.ss.length (0 : Int)).length), .slice (some ⟨g4, 0, none⟩) ((List.replicate (4 * m.ms.length : Nat) (0 : Int)).length) ((List.replicate (4 * m.ms.length : Nat) (0 : Int)).length)]]) (post := [rI9 3 (.slice (some ⟨g3, 0, none⟩) ((List.replicate m.ss.length (0 : Int)).length) ((List.replicate m.ss.length (0 : Int)).length)) zs, rowE 3 1 (.slice (some ⟨g4, 0, none⟩) ((List.replicate (4 * m.ms.length : Nat) (0 : Int)).length) ((List.replicate (4 * m.ms.length : Nat) (0 : Int)).length)) ((List.replicate (4 * m.ms.length : Nat) (0 : Int)).length) (mI (List.replicate (4 * m.ms.length : Nat) (0 : Int)))]) rfl ⟨⟨b2, 0, [.slice (some ⟨g3, 0, none⟩) ((List.replicate m.ss.length (0 : Int)).length) ((List.replicate m.ss.length (0 : Int)).length), .slice (some ⟨g4, 0, none⟩) ((List.replicate (4 * m.ms.length : Nat) (0 : Int)).length) ((List.replicate (4 * m.ms.length : Nat) (0 : Int)).length)], rfl, rfl, by kernel_rfl, by kernel_rfl, aT 3 rfl 0 rfl⟩, trivial⟩ rfl (eO [0, 0] rfl) ⟨_, _, rfl, by rw [hz, show i = m.ss.length by omega]; rfl⟩
theorem kR (m : Md) (vs ws ins : List Int) (uv uw ui : Value) (w : World) (hr : RdsMd w m) (hfl : FlP m) (hst : WsP m vs ws) (hv : RdsW w uv 1 vs.length (vs.map (Value.int .i64))) (hw : RdsW w uw 1 ws.length (ws.map (Value.int .i64))) (hn : RdsW w ui 1 ins.length (ins.map (Value.int .i64))) (hil : ins.length = (pwK m 0).length) :
   Calls Try.prog 121 #[.agg #[m.sv, m.av, m.iv, m.mv], .agg #[uv, uw], ui] w (Ret w (fun v' post => post = [rI9 3 v' (sgK m vs ins)])) := by
 have hs9 := gL hr.s
 have hg9 := gL hr.g
 have hln := hfl.lens
 have hV := hst.v
 have hvl := hV.len
 refine bW (N := 106) (args := [.agg #[m.sv, m.av, m.iv, m.mv], .agg #[uv, uw], ui]) Try.func121 C C (cA ?_)
 refine cL C (cY C C) ?_
 intro b1
 refine cL C (cY C C) ?_
 intro b2
 refine aP 1 C (eM (aI C (aW (cs := [m.sv, m.av, m.iv, m.mv]) C C C C C (aT 1 C 0 C)) (aI C (aW (cs := [uv, uw]) C C C C C (aT 0 C 0 C)) ?_)))
 refine dW C (aV C C (fun w hm => bJ (by have h9 := iW m vs ws _ _ w (hr.below hm.bel) (hv.below hm.bel) (hw.below hm.bel); rw [dG hst] at h9; exact h9))) (aH 3 C (aI C (dL C C C (aD hn)) (aI C (aW (cs := [m.sv, m.av, m.iv, m.mv]) C C C C C (aT 1 C 0 C)) ?_)))
 refine fC C C C (aV C C (fun w hm => eN m 0 w (hr.below hm.bel))) ?_
 intro v3 p4 R5
 subst R5
 refine aI C (dL C C C (aJ 0 C)) (fZ C C C C C C (fun h6 => absurd h6 (by omega)) (fun h6 => ?_))
 refine aP 1 C (aS C (cE (cA ?_)))
 refine eA C (dF (s := 1) C Try.underlying48 C) ?_
 intro g7
 refine aI C (bM 0 C C C) (aI C (aC C C C (aA 2 C C)) ?_)
 refine cW (i := 0) (z := jI 0) (bytes := 8) (n' := vs.length) (xs' := (mI vs)) C C C C Try.underlying48 (by kernel_rfl) C C C C (aD hv) (cQ _) (by first | omega | (simp; done) | (simp; omega)) (Nat.zero_add _) (List.nil_append _) (fun _ => C) ?_
 intro v8
 refine aP 1 C (bA 1 C (aF (aF (cG 1 C ?_))))
 refine bQ (bD ?_)
 refine jC (α := Nat) (β := Nat) (γ := List Int) [0, 1, 2, 3, 4, 6, 7, 27] C (fun i k zs => [rI9 3 v8 zs, rowE 3 1 v3 ((pwK m 0).length) (mI (pwK m 0)), boxE b2 #[uv, uw] 50, boxE b1 #[m.sv, m.av, m.iv, m.mv] 35]) (fun i k zs => [(8, jI (k : Int)), (9, jI (i : Int))]) (fun i k zs => i ≤ m.ss.length ∧ k = (inA m ins vs i).2 ∧ zs = (inA m ins vs i).1) (fun i k zs => m.ss.length - i) 0 0 vs ⟨Nat.zero_le _, C, C⟩ (cN C) (eT C) ?_
 intro i k zs hi9
 obtain ⟨hi, hk, hz⟩ := hi9
 have hzo : VlP m zs := by rw [hz]; exact kY hfl hV i hi
 have hzl := hzo.len
 have hk30 : k ≤ i := by rw [hk, lI]; exact nJ _ _ _
 refine aF (aF (cG 1 C (aI C (bM 0 C C C) (aI C (aC C C C (aA 3 C C)) (aI C (dL C C C (aD ((hr).s))) ?_)))))
 refine bN C C C C C C (fun h10 => ?_) (fun h10 => ?_)
 refine bQ (aK C (cE (fD (cA (aI C (bM 0 C C C) (aI C (aC C C C (aA 3 C C)) (aH 1 C (aI C (cR 3 C C C C (aD ((hr).s))) ?_))))))))
 refine aI C (aZ (k0 := 0) C C C (aD ((hr).s)) (by omega)) (aI C (aQ (u := jI ((m.ss.getD i sg0).k)) C C C (aD ((hr).s)) ((bR sgC 3 (fun _ => C) m.ss sg0 (show i < _ by omega) (by decide)).trans C)) ?_)
 refine bU C C C C C C (fun h11 => ?_) (fun h11 => ?_)
 refine bQ (aK C (aF ?_))
 have hki : k < ins.length := by rw [hk, lI, hil]; unfold pwK; rw [if_pos hln.1]; exact uY (by omega) (by omega)
 have hw7 := hfl.sw (s := i) (by omega)
 have hw9 := iS hw7
 refine cI 16 [[], [], [], [], [2, 3], [4], [], [6], [], [7, 8], [9], [10], [11], [12], [5, 13], [0, 1]] [47, 48, 49, 50, 51, 52, 53, 54, 55, 56, 57, 58, 59, 60, 61, 62] [v8, jI (i : Int), ui, jI (k : Int), elP ui ((k : Int).toNat * 1), jI (ins.getD k 0), .pointer (some ⟨b1, 0 + 0, none⟩), m.sv, jI (i : Int), elP m.sv ((i : Int).toNat * 3), elP m.sv ((i : Int).toNat * 3 + 1), jI ((m.ss.getD i sg0).w), jI (1 * 2 ^ ((m.ss.getD i sg0).w).toNat), jI ((1 * 2 ^ ((m.ss.getD i sg0).w).toNat) - 1), jI (bits .and .i64 (ins.getD k 0) ((1 * 2 ^ ((m.ss.getD i sg0).w).toNat) - 1)), elP v8 ((i : Int).toNat * 1)] (by kernel_rfl) C ?_ ?_
 exact ⟨bF C (aY C) C, bF C (aY C) C, bF C (aY C) C, bF C (aY C) C, bF C (cR 1 C C C C (aD hn)) C, bF C (qD C C C (aD hn)) C, bF C (bM 0 C C C) C, bF C (aC C C C (aA 3 C C)) C, bF C (aY C) C, bF C (cR 3 C C C C (aD ((hr).s))) C, bF C (aZ (k0 := 1) C C C (aD ((hr).s)) (by omega)) C, bF C (aQ (u := jI ((m.ss.getD i sg0).w)) C C C (aD ((hr).s)) ((bR sgC 3 (fun _ => C) m.ss sg0 (show i < _ by omega) (by decide)).trans C)) C, bF C (lU (kk' := .i64) C C C (by omega) (by constructor <;> omega)) C, bF C (nC C C C) C, bF C (dS C (by decide) C C (r := bits .and .i64 (ins.getD k 0) ((1 * 2 ^ ((m.ss.getD i sg0).w).toNat) - 1)) C) C, bF C (cR 1 C C C C (aJ 0 C)) C, trivial⟩
 simp only [List.drop_succ_cons, List.drop_zero]
 refine fY (i := 0) (n' := (zs.set i (bits .and .i64 (ins.getD k 0) ((1 * 2 ^ ((m.ss.getD i sg0).w).toNat) - 1))).length) (xs' := ((zs.set i (bits .and .i64 (ins.getD k 0) ((1 * 2 ^ ((m.ss.getD i sg0).w).toNat) - 1))).map (Value.int .i64))) C C C C C C C C (by first | omega | (simp only [List.length_set]; omega)) List.length_set.symm (fM _ _ _) C (bQ (cG 1 C (aI C (dO C C C) (dA 1 C (cK (cG 1 C (aI C (dO C C C) ?_)))))))
 refine dA 1 C ?_
 obtain ⟨hz8, hk8⟩ := sG hz hk (show (m.ss.getD i sg0).k = 0 by omega)
 exact cO (i + 1) (k + 1) (zs.set i (bits .and .i64 (ins.getD k 0) ((1 * 2 ^ ((m.ss.getD i sg0).w).toNat) - 1))) ⟨by omega, hk8, hz8⟩ (by omega) (cN C) (eT C)
 refine bQ (gM C (cK (cG 1 C (aI C (dO C C C) (dA 1 C ?_)))))
 obtain ⟨hz8, hk8⟩ := vF hz hk (show ¬ (m.ss.getD i sg0).k = 0 by omega)
 exact cO (i + 1) k zs ⟨by omega, hk8, hz8⟩ (by omega) (cN C) (eT C)
 refine bQ (aS C ?_)
 refine bI (dC ?_)
 refine aM (aR (cA (aI C (aW (cs := [m.sv, m.av, m.iv, m.mv]) C C C C C (aT 3 C 0 C)) ?_)))
 refine fC C C C (aV C C (fun w hm => zD m w (hr.below hm.bel) hfl.eo)) ?_
 intro v12 p13 R14
 obtain ⟨ov, es, rfl, rfl, hes⟩ := R14
 refine aP 5 C (aF (bA 1 C (bD ?_)))
 refine jZ (α := Nat) (β := List Int) [0, 1, 2, 3, 4, 6, 7, 8, 10, 27, 37] rfl (fun j ys => [rI9 3 ov es, rI9 3 v8 ys, rowE 3 1 v3 ((pwK m 0).length) (mI (pwK m 0)), boxE b2 #[uv, uw] 50, boxE b1 #[m.sv, m.av, m.iv, m.mv] 35]) (fun j ys => [(12, jI (j : Int))]) (fun j ys => j ≤ es.length ∧ ys = ordV m es (inA m ins vs m.ss.length).1 j) (fun j ys => es.length - j) 0 zs ⟨Nat.zero_le _, by rw [hz, show i = m.ss.length by omega]; rfl⟩ (cN rfl) (eT rfl) ?_
 intro j ys hi15
 obtain ⟨hj, hy⟩ := hi15
 have hyo : VlP m ys := by rw [hy]; exact tO hfl (sX hes.1) (kY hfl hV _ (Nat.le_refl _)) j hj
 have hyl := hyo.len
 have he30 := yA hes.1
 refine aF (aF (cG 2 C (aI C (dL C C C (aJ 0 C)) ?_)))
 refine bN C C C C C C (fun h16 => ?_) (fun h16 => ?_)
 refine bQ (aK C (cE (fD (aF ?_))))
 have hxr := sX hes.1 _ (cV (d := (0 : Int)) (show j < es.length by omega))
 have hxl : (es.getD j 0).toNat < m.gs.length := by omega
 obtain ⟨⟨htr, -⟩, hxo⟩ := hfl.as hxl
 rw [← hyl] at hxo
 have hxw := hfl.sw1 (s := (m.gs.getD ((es.getD j 0).toNat) as0).t.toNat) (by omega)
 have hw7 := hfl.sw (s := (m.gs.getD ((es.getD j 0).toNat) as0).t.toNat) (by omega)
 have hw9 := iS hw7
 refine hS C 9 [0, 1, 2, 3, 4, 5, 6, 7, 8] (List.take 9 _) (List.drop 9 _) [[], [0], [], [], [2, 3], [4], [1, 5], [6], []] [76, 77, 78, 79, 80, 81, 82, 83, 13] (fun i_ vs_ v_ p_ => match i_ with | 0 => v_ = .pointer (some ⟨b1, 0 + 1, none⟩) ∧ p_ = [] | 1 => v_ = m.av ∧ p_ = [] | 2 => v_ = ov ∧ p_ = [] | 3 => v_ = jI (j : Int) ∧ p_ = [] | 4 => v_ = elP ov ((j : Int).toNat * 1) ∧ p_ = [] | 5 => v_ = jI (es.getD j 0) ∧ p_ = [] | 6 => v_ = elP m.av ((es.getD j 0).toNat * 2) ∧ p_ = [] | 7 => v_ = .agg #[jI ((m.gs.getD ((es.getD j 0).toNat) as0).t), (m.gs.getD ((es.getD j 0).toNat) as0).ov] ∧ p_ = [] | 8 => IsBox #[jI 0, .slice none 0 0] 89 v_ p_ | _ => True) (List.take_append_drop 9 _).symm (by kernel_rfl) (by kernel_rfl) C C ?_ ?_
 refine ⟨?_, ?_, ?_, ?_, ?_, ?_, ?_, ?_, ?_, trivial⟩
 intro vf pf hR
 exact jJ C (aU [3] C) (bH (bM 1 C C C))
 intro vf pf hR
 have e0 := hR 0 (by decide)
 exact gR C (sk 76 (congrArg some e0.1) (aL _)) (bH (aC C C C (aA 4 C C)))
 intro vf pf hR
 exact jJ C (aU [10] C) (bH (aY C))
 intro vf pf hR
 exact jJ C (aU [12] C) (bH (aY C))
 intro vf pf hR
 have e2 := hR 2 (by decide)
 have e3 := hR 3 (by decide)
 exact gR C (sk 78 (congrArg some e2.1) (sk 79 (congrArg some e3.1) (aL _))) (bH (cR 1 C C C C (aJ 0 C)))
 intro vf pf hR
 have e4 := hR 4 (by decide)
 exact gR C (sk 80 (congrArg some e4.1) (aL _)) (bH (qD C C C (aJ 0 C)))
 intro vf pf hR
 have e1 := hR 1 (by decide)
 have e5 := hR 5 (by decide)
 exact gR C (sk 77 (congrArg some e1.1) (sk 81 (congrArg some e5.1) (aL _))) (bH (cR 2 C C C C (aD ((hr).g))))
 intro vf pf hR
 have e6 := hR 6 (by decide)
 exact gR C (sk 82 (congrArg some e6.1) (aL _)) (bH (bL (us := [jI ((m.gs.getD ((es.getD j 0).toNat) as0).t), (m.gs.getD ((es.getD j 0).toNat) as0).ov]) C C C C (aD ((hr).g)) (by omega) C (bY asC 2 (fun _ => C) m.gs as0 (show (es.getD j 0).toNat < _ by omega) C)))
 intro vf pf hR
 exact gR C (aL _) (bG (z := .agg #[jI 0, .slice none 0 0]) C C)
 intro vf pf hR
 have e7 := hR 7 (by decide)
 have e8 : IsBox #[jI 0, .slice none 0 0] 89 (vf 8) (pf 8) := hR 8 (by decide)
 obtain ⟨b17, vE8, pE8⟩ := e8
 have q0 := hR 0 (by decide)
 have q1 := hR 1 (by decide)
 have q2 := hR 2 (by decide)
 have q3 := hR 3 (by decide)
 have q4 := hR 4 (by decide)
 have q5 := hR 5 (by decide)
 have q6 := hR 6 (by decide)
 have q7 := hR 7 (by decide)
 refine dV (dB [12, 10, 8, 7, 6, 4, 3, 2, 1, 0] _ (sk 13 (congrArg some vE8) (dB [73, 37, 27] _ (sk 83 (congrArg some e7.1) (aL _)) C)) C) (by simp only [pE8, vE8, q0.2, q1.2, q2.2, q3.2, q4.2, q5.2, q6.2, q7.2, fS] <;> rfl) ?_
 simp only [List.drop_succ_cons, List.drop_zero]
 refine bE (cs' := #[jI ((m.gs.getD ((es.getD j 0).toNat) as0).t), (m.gs.getD ((es.getD j 0).toNat) as0).ov]) (i := 0) (off := 0) (us := [jI ((m.gs.getD ((es.getD j 0).toNat) as0).t), (m.gs.getD ((es.getD j 0).toNat) as0).ov]) C C C C C C C (aB C (aB (hr.o.at (k := (es.getD j 0).toNat) (by omega)).one bC)) C C C (bQ (aF ?_))
 refine cI 17 [[], [0], [], [], [3], [], [5], [4, 6], [7], [8], [9], [10], [1, 2, 11], [12], [13], [13], [14]] [85, 86, 87, 88, 89, 90, 91, 92, 93, 94, 95, 96, 97, 84, 98, 99, 14] [.pointer (some ⟨b17, 0 + 1, none⟩), (m.gs.getD ((es.getD j 0).toNat) as0).ov, v8, .pointer (some ⟨b1, 0 + 0, none⟩), m.sv, .pointer (some ⟨b17, 0 + 0, none⟩), jI ((m.gs.getD ((es.getD j 0).toNat) as0).t), elP m.sv (((m.gs.getD ((es.getD j 0).toNat) as0).t).toNat * 3), elP m.sv (((m.gs.getD ((es.getD j 0).toNat) as0).t).toNat * 3 + 1), jI ((m.ss.getD (((m.gs.getD ((es.getD j 0).toNat) as0).t).toNat) sg0).w), jI (1 * 2 ^ ((m.ss.getD (((m.gs.getD ((es.getD j 0).toNat) as0).t).toNat) sg0).w).toNat), jI ((1 * 2 ^ ((m.ss.getD (((m.gs.getD ((es.getD j 0).toNat) as0).t).toNat) sg0).w).toNat) - 1), .tuple #[jI (evK (m.gs.getD ((es.getD j 0).toNat) as0).os ys (m.ss.getD (m.gs.getD ((es.getD j 0).toNat) as0).t.toNat sg0).w), jI ((evE (m.gs.getD ((es.getD j 0).toNat) as0).os ys (m.ss.getD (m.gs.getD ((es.getD j 0).toNat) as0).t.toNat sg0).w (m.gs.getD ((es.getD j 0).toNat) as0).os.length 0).2 : Int)], .tuple #[jI (evK (m.gs.getD ((es.getD j 0).toNat) as0).os ys (m.ss.getD (m.gs.getD ((es.getD j 0).toNat) as0).t.toNat sg0).w), jI ((evE (m.gs.getD ((es.getD j 0).toNat) as0).os ys (m.ss.getD (m.gs.getD ((es.getD j 0).toNat) as0).t.toNat sg0).w (m.gs.getD ((es.getD j 0).toNat) as0).os.length 0).2 : Int)], jI (evK (m.gs.getD ((es.getD j 0).toNat) as0).os ys (m.ss.getD (m.gs.getD ((es.getD j 0).toNat) as0).t.toNat sg0).w), jI ((evE (m.gs.getD ((es.getD j 0).toNat) as0).os ys (m.ss.getD (m.gs.getD ((es.getD j 0).toNat) as0).t.toNat sg0).w (m.gs.getD ((es.getD j 0).toNat) as0).os.length 0).2 : Int), jI (evK (m.gs.getD ((es.getD j 0).toNat) as0).os ys (m.ss.getD (m.gs.getD ((es.getD j 0).toNat) as0).t.toNat sg0).w)] (by kernel_rfl) C ?_ ?_
 exact ⟨bF C (bM 1 C C C) C, bF C (aC C C C (aA 0 C C)) C, bF C (aY C) C, bF C (bM 0 C C C) C, bF C (aC C C C (aA 5 C C)) C, bF C (bM 0 C C C) C, bF C (aC C C C (aA 0 C C)) C, bF C (cR 3 C C C C (aD ((hr).s))) C, bF C (aZ (k0 := 1) C C C (aD ((hr).s)) (by omega)) C, bF C (aQ (u := jI ((m.ss.getD (((m.gs.getD ((es.getD j 0).toNat) as0).t).toNat) sg0).w)) C C C (aD ((hr).s)) ((bR sgC 3 (fun _ => C) m.ss sg0 (show ((m.gs.getD ((es.getD j 0).toNat) as0).t).toNat < _ by omega) (by decide)).trans C)) C, bF C (lU (kk' := .i64) C C C (by omega) (by constructor <;> omega)) C, bF C (nC C C C) C, .inl ⟨C, aV C C (fun w hm => kW (m.gs.getD ((es.getD j 0).toNat) as0).os ys (m.ss.getD (m.gs.getD ((es.getD j 0).toNat) as0).t.toNat sg0).w _ _ hxo hxw (hfl.par ((es.getD j 0).toNat) (by omega)) (m.gs.getD ((es.getD j 0).toNat) as0).os.length 0 (Nat.sub_le _ _) hxo.pos w ((hr.o.at (k := ((es.getD j 0).toNat)) (by omega)).below hm.bel) (aJ 2 C w hm))⟩, bF C (aY C) C, bF C (aY C) C, bF C (aY C) C, bF C (aY C) C, trivial⟩
 simp only [List.drop_succ_cons, List.drop_zero]
 refine aP 1 C (cG 1 C (aI C (bM 0 C C C) (aI C (aC C C C (aA 0 C C)) (aH 1 C (aI C (cR 1 C C C C (aJ 2 C)) ?_)))))
 refine fY (i := 2) (n' := (ys.set (((m.gs.getD ((es.getD j 0).toNat) as0).t).toNat) (evK (m.gs.getD ((es.getD j 0).toNat) as0).os ys (m.ss.getD (m.gs.getD ((es.getD j 0).toNat) as0).t.toNat sg0).w)).length) (xs' := ((ys.set (((m.gs.getD ((es.getD j 0).toNat) as0).t).toNat) (evK (m.gs.getD ((es.getD j 0).toNat) as0).os ys (m.ss.getD (m.gs.getD ((es.getD j 0).toNat) as0).t.toNat sg0).w)).map (Value.int .i64))) C C C C C C C C (by first | omega | (simp only [List.length_set]; omega)) List.length_set.symm (fM _ _ _) C (bK (cK (cG 1 C (aI C (dO C C C) (dA 1 C ?_)))))
 exact cX (j + 1) (ys.set (((m.gs.getD ((es.getD j 0).toNat) as0).t).toNat) (evK (m.gs.getD ((es.getD j 0).toNat) as0).os ys (m.ss.getD (m.gs.getD ((es.getD j 0).toNat) as0).t.toNat sg0).w)) ⟨by omega, by show _ = asgK m (ordV m es _ j) (es.getD j 0); rw [← hy]; rfl⟩ (by omega) (cN rfl) (eO [1, 0, 0, 0, 0] rfl)
 refine bQ (aS C ?_)
 refine bI (dC ?_)
 refine aM (aR (bA 2 C ?_))
 exact aN (gE (post := [rI9 3 v8 ys]) C C (eO [1] C) (by rw [hy, show j = es.length by omega, ord_sg (ins := ins) hfl hV hes.1 hes.2]))
def blkOf (v : Value) : Nat := match v with | .pointer (some ⟨b, _, _⟩) => b | _ => 0
def tpI (k : Nat) (v : Value) : Value := match v with | .tuple xs => xs.getD k undef | _ => undef
theorem Ba {m : Md} {rs os : List CRow} {t : Nat} (h : os.map CRow.xs = (trA m (rs.map CRow.xs) t).map (ouK m)) : os.length = t := by
  have h9 := congrArg List.length h
  unfold trA at h9
  rw [List.length_map, List.length_map, List.length_map, List.length_range] at h9; exact h9
theorem xH {m : Md} {rs os : List CRow} {t : Nat} (h : os.map CRow.xs = (trA m (rs.map CRow.xs) t).map (ouK m)) (v : Value) : (os ++ [CRow.mk v (ouK m (vlT m (rs.map CRow.xs) t))]).map CRow.xs = (trA m (rs.map CRow.xs) (t + 1)).map (ouK m) := by
  rw [oV, List.map_append, List.map_append, h]; rfl
theorem vl_atS (m : Md) (rs : List CRow) (t : Nat) : sgK m (stT m (rs.map CRow.xs) t).1 (rs.getD t crow0).xs = vlT m (rs.map CRow.xs) t := xZ m rs t
theorem nH (m : Md) (vs ws ins : List Int) (uv uw ui : Value) (w : World) (hr : RdsMd w m) (hfl : FlP m) (hst : WsP m vs ws) (hv : RdsW w uv 1 vs.length (vs.map (Value.int .i64))) (hw : RdsW w uw 1 ws.length (ws.map (Value.int .i64))) (hn : RdsW w ui 1 ins.length (ins.map (Value.int .i64))) (hil : ins.length = (pwK m 0).length) :
   Calls Try.prog 81 #[.agg #[m.sv, m.av, m.iv, m.mv], .agg #[uv, uw], ui] w (Ret w (fun u_ p_ => ∃ a9 b9 c9, u_ = .tuple #[.agg #[a9, b9], c9] ∧ p_ = [rI9 3 a9 (nxV m ws (sgK m vs ins)), rI9 3 b9 (nxW m ws (sgK m vs ins)), rI9 3 c9 (ouK m (sgK m vs ins))] ∧ a9.oneCell' = true ∧ b9.oneCell' = true ∧ c9.oneCell' = true)) := by
 have hs9 := gL hr.s
 have hg9 := gL hr.g
 have hm9 := gL hr.m
 have hln := hfl.lens
 have hso := rO (ins := ins) hfl hst.v
 have hVl := hso.len
 have hwl := hst.w.len
 refine bW (N := 162) (args := [.agg #[m.sv, m.av, m.iv, m.mv], .agg #[uv, uw], ui]) Try.func81 C C (cA ?_)
 refine cL C (cY C C) ?_
 intro b1
 refine cL C (cY C C) ?_
 intro b2
 refine cL C (bG (z := .agg #[.slice none 0 0, .slice none 0 0]) C C) ?_
 intro b3
 refine aP 1 C (cA ?_)
 refine eA C (dF (s := 1) C Try.underlying48 C) ?_
 intro g4
 refine aP 1 C (eM (aI C (aW (cs := [m.sv, m.av, m.iv, m.mv]) C C C C C (aT 3 C 0 C)) (aI C (aW (cs := [uv, uw]) C C C C C (aT 2 C 0 C)) ?_)))
 refine dW C (aV C C (fun w hm => bJ (by have h9 := iW m vs ws _ _ w (hr.below hm.bel) (hv.below hm.bel) (hw.below hm.bel); rw [dG hst] at h9; exact h9))) (aH 3 C (aI C (dL C C C (aD hn)) (aI C (aW (cs := [m.sv, m.av, m.iv, m.mv]) C C C C C (aT 3 C 0 C)) ?_)))
 refine fC C C C (aV C C (fun w hm => eN m 0 w (hr.below hm.bel))) ?_
 intro v5 p6 R7
 subst R7
 refine aI C (dL C C C (aJ 0 C)) (fZ C C C C C C (fun h8 => absurd h8 (by omega)) (fun h8 => ?_))
 refine aP 1 C (aS C (cE (cA (aI C (aW (cs := [m.sv, m.av, m.iv, m.mv]) C C C C C (aT 4 C 0 C)) (aI C (aW (cs := [uv, uw]) C C C C C (aT 3 C 0 C)) (aH 1 C ?_))))))
 refine fC C C C (aV C C (fun w hm => kR m vs ws ins _ _ _ w (hr.below hm.bel) hfl hst (hv.below hm.bel) (hw.below hm.bel) (hn.below hm.bel) hil)) ?_
 intro v9 p10 R11
 subst R11
 refine aP 1 C (aF ?_)
 refine iF (l := [rowE 3 1 v9 ((sgK m vs ins).length) (mI (sgK m vs ins)), rowE 3 1 v5 ((pwK m 0).length) (mI (pwK m 0)), rowE 3 1 (.slice (some ⟨g4, 0, none⟩) 0 0) 0 ([]), boxE b3 #[.slice none 0 0, .slice none 0 0] 50, boxE b2 #[uv, uw] 50, boxE b1 #[m.sv, m.av, m.iv, m.mv] 35]) C 10 [0, 1, 2, 3, 4, 5, 6, 7, 8, 9] (List.take 10 _) (List.drop 10 _) [[], [0], [1], [2], [], [], [5], [4, 6], [3, 7], []] [some 37, some 38, some 39, some 40, some 41, some 42, some 43, some 44, some 45, some 10] (fun i_ vs_ v_ p_ => match i_ with | 0 => v_ = .pointer (some ⟨b1, 0 + 0, none⟩) ∧ p_ = [] | 1 => v_ = m.sv ∧ p_ = [] | 2 => v_ = jI (m.ss.length : Int) ∧ p_ = [] | 3 => IsRow 3 1 ((List.replicate m.ss.length (0 : Int)).length) (mI (List.replicate m.ss.length (0 : Int))) v_ p_ | 4 => IsRow 3 1 0 ([]) v_ p_ | 5 => v_ = .pointer (some ⟨b2, 0 + 1, none⟩) ∧ p_ = [] | 6 => v_ = uw ∧ p_ = [] | 7 => (∃ pm_, p_ = [pm_] ∧ (fun u_ p_ => p_ = rowE 3 1 u_ ((([] : List Int) ++ ws).length) (mI (([] : List Int) ++ ws))) v_ pm_) | 8 => v_ = .agg #[(gV9 vs_ 0), (gV9 vs_ 1)] ∧ p_ = [] | 9 => IsBox #[.slice none 0 0, .slice none 0 0] 50 v_ p_ | _ => True) [[], [0], [1], [2], [], [], [5], [6], [3, 7], []] [none, none, none, none, none, none, none, some 4, none, none] [] [0, 1, 2, 3, 5, 6, 7, 8, 9] 11 (List.take_append_drop 10 _).symm (by kernel_rfl) (by kernel_rfl) (by kernel_rfl) C C ?_ ?_
 refine ⟨?_, ?_, ?_, ?_, ?_, ?_, ?_, ?_, ?_, ?_, trivial⟩
 intro vf pf hmu hR
 refine cT [] [] C (cC (aU [3] C) ?_)
 exact bH (bM 0 C C C)
 intro vf pf hmu hR
 have e0 := hR 0 (by decide)
 refine cT [0] [0] C (bP (sk 37 (congrArg some e0.1) (aL _)) (List.sublist_append_right _ _) ?_)
 exact bH (aC C C C (aA 5 C C))
 intro vf pf hmu hR
 have e1 := hR 1 (by decide)
 refine cT [1] [1] C (bP (sk 38 (congrArg some e1.1) (aL _)) (List.sublist_append_right _ _) ?_)
 exact bH (dL C C C (aD ((hr).s)))
 intro vf pf hmu hR
 have e2 := hR 2 (by decide)
 refine cT [2] [2] C (bP (sk 39 (congrArg some e2.1) (aL _)) (List.sublist_append_right _ _) ?_)
 exact iL (z := jI 0) (s := 1) (bytes := 8) (n := (List.replicate m.ss.length (0 : Int)).length) (cs := (mI (List.replicate m.ss.length (0 : Int)))) C Try.underlying48 C (by decide) C C (by first | (rw [List.length_replicate]; done) | (rw [List.length_replicate]; omega)) (by first | (rw [List.length_replicate]; done) | (rw [List.length_replicate]; omega)) (by rw [List.length_replicate]; omega) (hZ _)
 intro vf pf hmu hR
 refine cT [] [] C (bP (aL _) (List.sublist_append_right _ _) ?_)
 exact dF (s := 1) C Try.underlying48 C
 intro vf pf hmu hR
 refine cT [] [] C (cC (aU [4] C) ?_)
 exact bH (bM 1 C C C)
 intro vf pf hmu hR
 have e5 := hR 5 (by decide)
 refine cT [5] [5] C (bP (sk 42 (congrArg some e5.1) (aL _)) (List.sublist_append_right _ _) ?_)
 exact bH (aC C C C (aA 4 C C))
 intro vf pf hmu hR
 have e4 : IsRow 3 1 0 ([]) (vf 4) (pf 4) := hR 4 (by decide)
 obtain ⟨g13, vE4, pE4⟩ := e4
 have e6 := hR 6 (by decide)
 refine Or.inl ⟨C, ?_⟩
 show RunM _ _ _ (pf 4) (([6] : List Nat).flatMap pf ++ _) (envOf3 _ vf [4, 6] ++ _) _ _
 rw [pE4]; rw [vE4]
 exact eE (sk 41 (congrArg some vE4) (sk 43 (congrArg some e6.1) (aL _))) (by simp only [e6.2, fS] <;> rfl) (iI (d := 0) (z := jI 0) (bytes := 8) (n' := (([] : List Int) ++ ws).length) (xs' := (mI (([] : List Int) ++ ws))) C Try.underlying48 C C C C (aD hw) (cQ _) (by first | omega | (simp; done) | (simp; omega)) (cM ([] : List Int) ws) (dP ([] : List Int) ws))
 intro vf pf hmu hR
 have e3 : IsRow 3 1 ((List.replicate m.ss.length (0 : Int)).length) (mI (List.replicate m.ss.length (0 : Int))) (vf 3) (pf 3) := hR 3 (by decide)
 obtain ⟨g12, vE3, pE3⟩ := e3
 have e7 : (∃ pm_, (pf 7) = [pm_] ∧ (fun u_ p_ => p_ = rowE 3 1 u_ ((([] : List Int) ++ ws).length) (mI (([] : List Int) ++ ws))) (vf 7) pm_) := hR 7 (by decide)
 obtain ⟨p15, pE7, R16⟩ := e7
 obtain ⟨v14, vE7⟩ : ∃ x, vf 7 = x := ⟨_, rfl⟩
 rw [vE7] at R16
 subst R16
 refine cT [3, 7] [3, 7] C (dJ (sk 40 (congrArg some vE3) (sk 44 (congrArg some vE7) (aL _))) (by simp only [pE3, vE3, pE7, vE7, fS] <;> rfl) ?_)
 exact eB (bH (gO (cs := #[.slice (some ⟨g12, 0, none⟩) ((List.replicate m.ss.length (0 : Int)).length) ((List.replicate m.ss.length (0 : Int)).length), v14]) C C (fun w hm => pY (.slice (some ⟨g12, 0, none⟩) ((List.replicate m.ss.length (0 : Int)).length) ((List.replicate m.ss.length (0 : Int)).length)) v14 C ((aJ 1 C w hm).one)))) (fun _ _ h => ⟨h.1.trans (by show _ = (.agg #[(vf 3), (vf 7)] : Value); first | (rw [vE3, vE7]; done) | (rw [vE3, vE7]; rfl)), h.2⟩)
 intro vf pf hmu hR
 refine cT [] [] C (bP (aL _) (List.sublist_append_right _ _) ?_)
 exact bG (z := .agg #[.slice none 0 0, .slice none 0 0]) C C
 intro vf pf hmu hR
 have e3 : IsRow 3 1 ((List.replicate m.ss.length (0 : Int)).length) (mI (List.replicate m.ss.length (0 : Int))) (vf 3) (pf 3) := hR 3 (by decide)
 obtain ⟨g12, vE3, pE3⟩ := e3
 have e4 : IsRow 3 1 0 ([]) (vf 4) (pf 4) := hR 4 (by decide)
 obtain ⟨g13, vE4, pE4⟩ := e4
 have e7 : (∃ pm_, (pf 7) = [pm_] ∧ (fun u_ p_ => p_ = rowE 3 1 u_ ((([] : List Int) ++ ws).length) (mI (([] : List Int) ++ ws))) (vf 7) pm_) := hR 7 (by decide)
 obtain ⟨p15, pE7, R16⟩ := e7
 obtain ⟨v14, vE7⟩ : ∃ x, vf 7 = x := ⟨_, rfl⟩
 rw [vE7] at R16
 subst R16
 have e8 : (vf 8) = .agg #[(vf 3), (vf 7)] ∧ (pf 8) = [] := hR 8 (by decide)
 rw [vE3, vE7] at e8
 have e9 : IsBox #[.slice none 0 0, .slice none 0 0] 50 (vf 9) (pf 9) := hR 9 (by decide)
 obtain ⟨b17, vE9, pE9⟩ := e9
 have q0 := hR 0 (by decide)
 have q1 := hR 1 (by decide)
 have q2 := hR 2 (by decide)
 have q5 := hR 5 (by decide)
 have q6 := hR 6 (by decide)
 have q8 := hR 8 (by decide)
 refine dV (dB [9, 8, 7, 6, 4, 3, 2, 1, 0] _ (sk 10 (congrArg some vE9) (sk 30 C (sk 45 (congrArg some e8.1) (aL _)))) C) (by simp only [pE3, vE3, pE7, vE7, pE9, vE9, q0.2, q1.2, q2.2, q5.2, q6.2, q8.2, fS] <;> rfl) ?_
 simp only [List.drop_succ_cons, List.drop_zero]
 refine cS (i := 1) C (fun ho18 => ?_)
 refine bE (cs' := #[.slice (some ⟨g12, 0, none⟩) ((List.replicate m.ss.length (0 : Int)).length) ((List.replicate m.ss.length (0 : Int)).length), v14]) (i := 2) (off := 0) (us := [.slice (some ⟨g12, 0, none⟩) ((List.replicate m.ss.length (0 : Int)).length) ((List.replicate m.ss.length (0 : Int)).length), v14]) C C C C C C C (aB C (aB ho18 bC)) C C C (bQ (aF (bA 1 C (bD ?_))))
 refine jZ (α := Nat) (β := List Int) [0, 1, 2, 3, 4, 6, 7, 8, 9, 10, 30] C (fun i zs => [rI9 3 (.slice (some ⟨g12, 0, none⟩) ((List.replicate m.ss.length (0 : Int)).length) ((List.replicate m.ss.length (0 : Int)).length)) zs, rowE 3 1 v14 ((([] : List Int) ++ ws).length) (mI (([] : List Int) ++ ws)), boxE b17 #[.slice (some ⟨g12, 0, none⟩) ((List.replicate m.ss.length (0 : Int)).length) ((List.replicate m.ss.length (0 : Int)).length), v14] 50, rowE 3 1 v9 ((sgK m vs ins).length) (mI (sgK m vs ins)), rowE 3 1 v5 ((pwK m 0).length) (mI (pwK m 0)), rowE 3 1 (.slice (some ⟨g4, 0, none⟩) 0 0) 0 ([]), boxE b3 #[.slice none 0 0, .slice none 0 0] 50, boxE b2 #[uv, uw] 50, boxE b1 #[m.sv, m.av, m.iv, m.mv] 35]) (fun i zs => [(11, jI (i : Int))]) (fun i zs => i ≤ m.gs.length ∧ zs = nrA m (sgK m vs ins) i) (fun i zs => m.gs.length - i) 0 (List.replicate m.ss.length 0) ⟨Nat.zero_le _, C⟩ (cN C) (eT C) ?_
 intro i zs hi19
 obtain ⟨hi, hz⟩ := hi19
 have hzl : zs.length = m.ss.length := by rw [hz]; exact (rU hfl (sgK m vs ins) i hi).1.len
 refine aF (aF (cG 1 C (aI C (bM 1 C C C) (aI C (aC C C C (aA 8 C C)) (aI C (dL C C C (aD ((hr).g))) ?_)))))
 refine bN C C C C C C (fun h20 => ?_) (fun h20 => ?_)
 refine bQ (aK C (cE (fD (cA ?_))))
 obtain ⟨⟨htr, -⟩, hxo⟩ := hfl.as (show i < m.gs.length by omega)
 rw [← hVl] at hxo
 have hw7 := hfl.sw1 (s := (m.gs.getD i as0).t.toNat) (by omega)
 have hw9 := iS (hfl.sw (s := (m.gs.getD i as0).t.toNat) (by omega))
 refine aI C (bM 1 C C C) (aI C (aC C C C (aA 8 C C)) (aH 1 C (aI C (cR 2 C C C C (aD ((hr).g))) ?_)))
 refine aI C (bL (us := [jI ((m.gs.getD i as0).t), (m.gs.getD i as0).ov]) C C C C (aD ((hr).g)) (by omega) C (bY asC 2 (fun _ => C) m.gs as0 (show i < _ by omega) C)) (cL C (bG (z := .agg #[jI 0, .slice none 0 0]) C C) ?_)
 intro b21
 refine bE (cs' := #[jI ((m.gs.getD i as0).t), (m.gs.getD i as0).ov]) (i := 0) (off := 0) (us := [jI ((m.gs.getD i as0).t), (m.gs.getD i as0).ov]) C C C C C C C (aB C (aB (hr.o.at (k := i) (by omega)).one bC)) C C C (bQ (cA (aI C (bM 0 C C C) (aI C (aC C C C (aA 9 C C)) (aI C (bM 0 C C C) (aI C (aC C C C (aA 0 C C)) (aI C (cR 3 C C C C (aD ((hr).s))) (aI C (aZ (k0 := 0) C C C (aD ((hr).s)) (by omega)) ?_))))))))
 refine aI C (aQ (u := jI ((m.ss.getD (((m.gs.getD i as0).t).toNat) sg0).k)) C C C (aD ((hr).s)) ((bR sgC 3 (fun _ => C) m.ss sg0 (show ((m.gs.getD i as0).t).toNat < _ by omega) (by decide)).trans C)) (bU C C C C C C (fun h22 => ?_) (fun h22 => ?_))
 refine bQ (aK C (aF ?_))
 refine cI 17 [[], [0], [], [], [3], [], [5], [4, 6], [7], [8], [9], [10], [1, 2, 11], [12], [13], [13], [14]] [67, 68, 69, 70, 71, 72, 73, 74, 75, 76, 77, 78, 79, 66, 80, 81, 13] [.pointer (some ⟨b21, 0 + 1, none⟩), (m.gs.getD i as0).ov, v9, .pointer (some ⟨b1, 0 + 0, none⟩), m.sv, .pointer (some ⟨b21, 0 + 0, none⟩), jI ((m.gs.getD i as0).t), elP m.sv (((m.gs.getD i as0).t).toNat * 3), elP m.sv (((m.gs.getD i as0).t).toNat * 3 + 1), jI ((m.ss.getD (((m.gs.getD i as0).t).toNat) sg0).w), jI (1 * 2 ^ ((m.ss.getD (((m.gs.getD i as0).t).toNat) sg0).w).toNat), jI ((1 * 2 ^ ((m.ss.getD (((m.gs.getD i as0).t).toNat) sg0).w).toNat) - 1), .tuple #[jI (evK (m.gs.getD i as0).os (sgK m vs ins) (m.ss.getD (m.gs.getD i as0).t.toNat sg0).w), jI ((evE (m.gs.getD i as0).os (sgK m vs ins) (m.ss.getD (m.gs.getD i as0).t.toNat sg0).w (m.gs.getD i as0).os.length 0).2 : Int)], .tuple #[jI (evK (m.gs.getD i as0).os (sgK m vs ins) (m.ss.getD (m.gs.getD i as0).t.toNat sg0).w), jI ((evE (m.gs.getD i as0).os (sgK m vs ins) (m.ss.getD (m.gs.getD i as0).t.toNat sg0).w (m.gs.getD i as0).os.length 0).2 : Int)], jI (evK (m.gs.getD i as0).os (sgK m vs ins) (m.ss.getD (m.gs.getD i as0).t.toNat sg0).w), jI ((evE (m.gs.getD i as0).os (sgK m vs ins) (m.ss.getD (m.gs.getD i as0).t.toNat sg0).w (m.gs.getD i as0).os.length 0).2 : Int), jI (evK (m.gs.getD i as0).os (sgK m vs ins) (m.ss.getD (m.gs.getD i as0).t.toNat sg0).w)] (by kernel_rfl) C ?_ ?_
 exact ⟨bF C (bM 1 C C C) C, bF C (aC C C C (aA 0 C C)) C, bF C (aY C) C, bF C (bM 0 C C C) C, bF C (aC C C C (aA 9 C C)) C, bF C (bM 0 C C C) C, bF C (aC C C C (aA 0 C C)) C, bF C (cR 3 C C C C (aD ((hr).s))) C, bF C (aZ (k0 := 1) C C C (aD ((hr).s)) (by omega)) C, bF C (aQ (u := jI ((m.ss.getD (((m.gs.getD i as0).t).toNat) sg0).w)) C C C (aD ((hr).s)) ((bR sgC 3 (fun _ => C) m.ss sg0 (show ((m.gs.getD i as0).t).toNat < _ by omega) (by decide)).trans C)) C, bF C (lU (kk' := .i64) C C C (by omega) (by constructor <;> omega)) C, bF C (nC C C C) C, .inl ⟨C, aV C C (fun w hm => kW (m.gs.getD i as0).os (sgK m vs ins) (m.ss.getD (m.gs.getD i as0).t.toNat sg0).w _ _ hxo hw7 (hfl.par i (by omega)) (m.gs.getD i as0).os.length 0 (Nat.sub_le _ _) hxo.pos w ((hr.o.at (k := i) (by omega)).below hm.bel) (aJ 4 C w hm))⟩, bF C (aY C) C, bF C (aY C) C, bF C (aY C) C, bF C (aY C) C, trivial⟩
 simp only [List.drop_succ_cons, List.drop_zero]
 refine aP 1 C (aO (aI C (bM 0 C C C) (aI C (aC C C C (aA 3 C C)) (aI C (bM 0 C C C) (aI C (aC C C C (aA 0 C C)) (aH 1 C (aI C (cR 1 C C C C (aJ 1 C)) ?_)))))))
 refine fY (i := 1) (n' := (zs.set (((m.gs.getD i as0).t).toNat) (evK (m.gs.getD i as0).os (sgK m vs ins) (m.ss.getD (m.gs.getD i as0).t.toNat sg0).w)).length) (xs' := (mI (zs.set (((m.gs.getD i as0).t).toNat) (evK (m.gs.getD i as0).os (sgK m vs ins) (m.ss.getD (m.gs.getD i as0).t.toNat sg0).w)))) C C C C C C C C (by first | omega | (simp only [List.length_set]; omega)) List.length_set.symm (fM _ _ _) C (bK (cK (cG 1 C (aI C (dO C C C) (dA 1 C ?_)))))
 exact cX (i + 1) (zs.set (((m.gs.getD i as0).t).toNat) (evK (m.gs.getD i as0).os (sgK m vs ins) (m.ss.getD (m.gs.getD i as0).t.toNat sg0).w)) ⟨by omega, by rw [hz]; exact oM (by omega)⟩ (by omega) (cN rfl) (eO [1, 0, 0, 0, 0, 0, 0, 0, 0] rfl)
 refine bQ (gM C (cK (cG 1 C (aI C (dO C C C) (dA 1 C ?_)))))
 exact cX (i + 1) zs ⟨by omega, hz.trans (vA (by omega))⟩ (by omega) (cN C) (eO [1, 0, 0, 0, 0, 0, 0, 0, 0] C)
 refine bQ (aS C ?_)
 refine bI (dC ?_)
 refine aM (aR (aF (bA 1 C (bD ?_))))
 refine jC (α := Nat) (β := List Int) (γ := List Int) [0, 1, 2, 3, 4, 6, 7, 8, 9, 10, 30, 50] rfl (fun j ys qs => [rI9 3 (.slice (some ⟨g12, 0, none⟩) ((List.replicate m.ss.length (0 : Int)).length) ((List.replicate m.ss.length (0 : Int)).length)) ys, rI9 3 v14 qs, boxE b17 #[.slice (some ⟨g12, 0, none⟩) ((List.replicate m.ss.length (0 : Int)).length) ((List.replicate m.ss.length (0 : Int)).length), v14] 50, rowE 3 1 v9 ((sgK m vs ins).length) (mI (sgK m vs ins)), rowE 3 1 v5 ((pwK m 0).length) (mI (pwK m 0)), rowE 3 1 (.slice (some ⟨g4, 0, none⟩) 0 0) 0 ([]), boxE b3 #[.slice none 0 0, .slice none 0 0] 50, boxE b2 #[uv, uw] 50, boxE b1 #[m.sv, m.av, m.iv, m.mv] 35]) (fun j ys qs => [(15, jI (j : Int))]) (fun j ys qs => j ≤ m.ms.length ∧ ys = (nmA m ws (sgK m vs ins) j).1 ∧ qs = (nmA m ws (sgK m vs ins) j).2) (fun j ys qs => m.ms.length - j) 0 zs ws ⟨Nat.zero_le _, by rw [hz, show i = m.gs.length by omega]; rfl, rfl⟩ (cN rfl) (eT rfl) ?_
 intro j ys qs hi23
 obtain ⟨hj, hy, hq⟩ := hi23
 obtain ⟨⟨hyo, -⟩, hqo⟩ := rV hfl hso hst.w j hj
 rw [← hy] at hyo
 rw [← hq] at hqo
 have hyl := hyo.len
 have hql := hqo.len
 refine aF (aF (cG 1 C (aI C (bM 3 C C C) (aI C (aC C C C (aA 8 C C)) (aI C (dL C C C (aD ((hr).m))) ?_)))))
 refine bN C C C C C C (fun h24 => ?_) (fun h24 => ?_)
 refine bQ (aK C (cE (fD (cA ?_))))
 have hmj := hfl.mm (show j < m.ms.length by omega)
 have hma := mV hfl hso (show j < m.ms.length by omega)
 have hma9 : maK m (sgK m vs ins) j = 4 * (j : Int) + (sgK m vs ins).getD (m.ms.getD j mm0).a.toNat 0 := rfl
 refine aI C (bM 3 C C C) (aI C (aC C C C (aA 8 C C)) (aH 1 C (aI C (cR 4 C C C C (aD ((hr).m))) ?_)))
 refine aI C (bL (us := [jI ((m.ms.getD j mm0).a), jI ((m.ms.getD j mm0).d), jI ((m.ms.getD j mm0).w), jI ((m.ms.getD j mm0).o)]) C C C C (aD ((hr).m)) (by omega) C (bY mmC 4 (fun _ => C) m.ms mm0 (show j < _ by omega) C)) (cL C (bG (z := .agg #[jI 0, jI 0, jI 0, jI 0]) C C) ?_)
 intro b25
 refine bE (cs' := #[jI ((m.ms.getD j mm0).a), jI ((m.ms.getD j mm0).d), jI ((m.ms.getD j mm0).w), jI ((m.ms.getD j mm0).o)]) (i := 0) (off := 0) (us := [jI ((m.ms.getD j mm0).a), jI ((m.ms.getD j mm0).d), jI ((m.ms.getD j mm0).w), jI ((m.ms.getD j mm0).o)]) C C C C C C C (aB C (aB C (aB C (aB C bC)))) C C C (bQ (aF ?_))
 refine cI 17 [[], [0], [], [2], [], [4], [], [6], [], [], [9], [8, 10], [11], [7, 12], [5, 13], [14], [1, 3]] [100, 101, 102, 103, 104, 105, 106, 107, 108, 109, 110, 111, 112, 113, 114, 115, 116] [.pointer (some ⟨b17, 0 + 0, none⟩), .slice (some ⟨g12, 0, none⟩) ((List.replicate m.ss.length (0 : Int)).length) ((List.replicate m.ss.length (0 : Int)).length), .pointer (some ⟨b25, 0 + 3, none⟩), jI ((m.ms.getD j mm0).o), .pointer (some ⟨b2, 0 + 1, none⟩), uw, jI (j : Int), jI (4 * (j : Int)), v9, .pointer (some ⟨b25, 0 + 0, none⟩), jI ((m.ms.getD j mm0).a), elP v9 (((m.ms.getD j mm0).a).toNat * 1), jI ((sgK m vs ins).getD (((m.ms.getD j mm0).a).toNat) 0), jI ((4 * (j : Int)) + ((sgK m vs ins).getD (((m.ms.getD j mm0).a).toNat) 0)), elP uw (((4 * (j : Int)) + ((sgK m vs ins).getD (((m.ms.getD j mm0).a).toNat) 0)).toNat * 1), jI (ws.getD (((4 * (j : Int)) + ((sgK m vs ins).getD (((m.ms.getD j mm0).a).toNat) 0)).toNat) 0), elP (.slice (some ⟨g12, 0, none⟩) ((List.replicate m.ss.length (0 : Int)).length) ((List.replicate m.ss.length (0 : Int)).length)) (((m.ms.getD j mm0).o).toNat * 1)] (by kernel_rfl) C ?_ ?_
 exact ⟨bF C (bM 0 C C C) C, bF C (aC C C C (aA 3 C C)) C, bF C (bM 3 C C C) C, bF C (aC C C C (aA 0 C C)) C, bF C (bM 1 C C C) C, bF C (aC C C C (aA 8 C C)) C, bF C (aY C) C, bF C (jT C C C (by constructor <;> omega)) C, bF C (aY C) C, bF C (bM 0 C C C) C, bF C (aC C C C (aA 0 C C)) C, bF C (cR 1 C C C C (aJ 4 C)) C, bF C (aQ (u := jI ((sgK m vs ins).getD (((m.ms.getD j mm0).a).toNat) 0)) C C C (aJ 4 C) (cJ (show _ < (sgK m vs ins).length by omega))) C, bF C (dO C C C) C, bF C (cR 1 C C C C (aD hw)) C, bF C (nD C C C (aD hw)) C, bF C (cR 1 C C C C (aJ 1 C)) C, trivial⟩
 simp only [List.drop_succ_cons, List.drop_zero]
 refine fY (i := 1) (n' := (ys.set (((m.ms.getD j mm0).o).toNat) (ws.getD (((4 * (j : Int)) + ((sgK m vs ins).getD (((m.ms.getD j mm0).a).toNat) 0)).toNat) 0)).length) (xs' := ((ys.set (((m.ms.getD j mm0).o).toNat) (ws.getD (((4 * (j : Int)) + ((sgK m vs ins).getD (((m.ms.getD j mm0).a).toNat) 0)).toNat) 0)).map (Value.int .i64))) C C C C C C C C (by first | omega | (simp only [List.length_set]; omega)) List.length_set.symm (fM _ _ _) C (bQ (aF (cG 1 C (aI C (bM 2 C C C) (aI C (aC C C C (aA 0 C C)) (aI C (cR 1 C C C C (aJ 4 C)) (aI C (aQ (u := jI ((sgK m vs ins).getD (((m.ms.getD j mm0).w).toNat) 0)) C C C (aJ 4 C) (cJ (show _ < (sgK m vs ins).length by omega))) ?_)))))))
 refine bU C C C C C C (fun h26 => ?_) (fun h26 => ?_)
 refine bQ (aK C ?_)
 refine cI 16 [[], [0], [], [2], [], [], [5], [4, 6], [7], [3, 8], [], [], [11], [10, 12], [13], [1, 9]] [123, 124, 125, 126, 127, 128, 129, 130, 131, 132, 133, 134, 135, 136, 137, 138] [.pointer (some ⟨b17, 0 + 1, none⟩), v14, jI (j : Int), jI (4 * (j : Int)), v9, .pointer (some ⟨b25, 0 + 0, none⟩), jI ((m.ms.getD j mm0).a), elP v9 (((m.ms.getD j mm0).a).toNat * 1), jI ((sgK m vs ins).getD (((m.ms.getD j mm0).a).toNat) 0), jI ((4 * (j : Int)) + ((sgK m vs ins).getD (((m.ms.getD j mm0).a).toNat) 0)), v9, .pointer (some ⟨b25, 0 + 1, none⟩), jI ((m.ms.getD j mm0).d), elP v9 (((m.ms.getD j mm0).d).toNat * 1), jI ((sgK m vs ins).getD (((m.ms.getD j mm0).d).toNat) 0), elP v14 (((4 * (j : Int)) + ((sgK m vs ins).getD (((m.ms.getD j mm0).a).toNat) 0)).toNat * 1)] (by kernel_rfl) C ?_ ?_
 exact ⟨bF C (bM 1 C C C) C, bF C (aC C C C (aA 3 C C)) C, bF C (aY C) C, bF C (jT C C C (by constructor <;> omega)) C, bF C (aY C) C, bF C (bM 0 C C C) C, bF C (aC C C C (aA 0 C C)) C, bF C (cR 1 C C C C (aJ 4 C)) C, bF C (aQ (u := jI ((sgK m vs ins).getD (((m.ms.getD j mm0).a).toNat) 0)) C C C (aJ 4 C) (cJ (show _ < (sgK m vs ins).length by omega))) C, bF C (dO C C C) C, bF C (aY C) C, bF C (bM 1 C C C) C, bF C (aC C C C (aA 0 C C)) C, bF C (cR 1 C C C C (aJ 4 C)) C, bF C (aQ (u := jI ((sgK m vs ins).getD (((m.ms.getD j mm0).d).toNat) 0)) C C C (aJ 4 C) (cJ (show _ < (sgK m vs ins).length by omega))) C, bF C (cR 1 C C C C (aJ 2 C)) C, trivial⟩
 simp only [List.drop_succ_cons, List.drop_zero]
 refine fY (i := 2) (n' := (qs.set (((4 * (j : Int)) + ((sgK m vs ins).getD (((m.ms.getD j mm0).a).toNat) 0)).toNat) ((sgK m vs ins).getD (((m.ms.getD j mm0).d).toNat) 0)).length) (xs' := ((qs.set (((4 * (j : Int)) + ((sgK m vs ins).getD (((m.ms.getD j mm0).a).toNat) 0)).toNat) ((sgK m vs ins).getD (((m.ms.getD j mm0).d).toNat) 0)).map (Value.int .i64))) C C C C C C C C (by first | omega | (simp only [List.length_set]; omega)) List.length_set.symm (fM _ _ _) C (bK (cK (cG 1 C (aI C (dO C C C) (dA 1 C ?_)))))
 exact cO (j + 1) (ys.set (((m.ms.getD j mm0).o).toNat) (ws.getD (((4 * (j : Int)) + ((sgK m vs ins).getD (((m.ms.getD j mm0).a).toNat) 0)).toNat) 0)) (qs.set (((4 * (j : Int)) + ((sgK m vs ins).getD (((m.ms.getD j mm0).a).toNat) 0)).toNat) ((sgK m vs ins).getD (((m.ms.getD j mm0).d).toNat) 0)) ⟨by omega, by rw [hy]; rfl, by rw [hq]; show _ = if _ then _ else _; rw [if_pos (by omega)]; rfl⟩ (by omega) (cN rfl) (eO [1, 0, 0, 0, 0, 0, 0, 0, 0] rfl)
 refine bQ (gM C (cK (cG 1 C (aI C (dO C C C) (dA 1 C ?_)))))
 exact cO (j + 1) (ys.set (((m.ms.getD j mm0).o).toNat) (ws.getD (((4 * (j : Int)) + ((sgK m vs ins).getD (((m.ms.getD j mm0).a).toNat) 0)).toNat) 0)) qs ⟨by omega, by rw [hy]; rfl, by rw [hq]; show _ = if _ then _ else _; rw [if_neg (by omega)]⟩ (by omega) (cN rfl) (eO [1, 0, 0, 0, 0, 0, 0, 0, 0] rfl)
 refine bQ (aS C ?_)
 refine bI (dC ?_)
 refine aM (aR (aF (bA 1 C (bD ?_))))
 refine jC (α := Nat) (β := Value) (γ := List Int) [0, 1, 2, 3, 4, 6, 7, 9, 10, 30, 50, 92] C (fun k gu us => [rI9 3 (.slice (some ⟨g12, 0, none⟩) ((List.replicate m.ss.length (0 : Int)).length) ((List.replicate m.ss.length (0 : Int)).length)) ys, rI9 3 v14 qs, boxE b17 #[.slice (some ⟨g12, 0, none⟩) ((List.replicate m.ss.length (0 : Int)).length) ((List.replicate m.ss.length (0 : Int)).length), v14] 50, rowE 3 1 v9 ((sgK m vs ins).length) (mI (sgK m vs ins)), rowE 3 1 v5 ((pwK m 0).length) (mI (pwK m 0)), rI9 3 gu us, boxE b3 #[.slice none 0 0, .slice none 0 0] 50, boxE b2 #[uv, uw] 50, boxE b1 #[m.sv, m.av, m.iv, m.mv] 35]) (fun k gu us => [(8, gu), (17, jI (k : Int))]) (fun k gu us => k ≤ m.ss.length ∧ us = ouA m.ss (sgK m vs ins) k) (fun k gu us => m.ss.length - k) 0 _ [] ⟨Nat.zero_le _, C⟩ (cN C) (eT C) ?_
 intro k gu us hi27
 obtain ⟨hk, hu⟩ := hi27
 have hul : us.length ≤ k := by rw [hu]; exact uZ _ _ _
 refine aF (aF (cG 1 C (aI C (bM 0 C C C) (aI C (aC C C C (aA 8 C C)) (aI C (dL C C C (aD ((hr).s))) ?_)))))
 refine bN C C C C C C (fun h28 => ?_) (fun h28 => ?_)
 refine bQ (aK C (cE (fD (cA (aI C (bM 0 C C C) (aI C (aC C C C (aA 8 C C)) (aH 1 C (aI C (cR 3 C C C C (aD ((hr).s))) ?_))))))))
 refine aI C (aZ (k0 := 0) C C C (aD ((hr).s)) (by omega)) (aI C (aQ (u := jI ((m.ss.getD k sg0).k)) C C C (aD ((hr).s)) ((bR sgC 3 (fun _ => C) m.ss sg0 (show k < _ by omega) (by decide)).trans C)) ?_)
 refine bU C C C C C C (fun h29 => ?_) (fun h29 => ?_)
 refine bQ (aK C (cG 3 C (aI C (cR 1 C C C C (aJ 3 C)) (aI C (aQ (u := jI ((sgK m vs ins).getD k 0)) C C C (aJ 3 C) (cJ (show _ < (sgK m vs ins).length by omega))) ?_))))
 refine eA C (bB (z := jI 0) (s := 1) (cs := (mI [(sgK m vs ins).getD k 0])) C Try.underlying48 C (by decide) C (by kernel_rfl) C) ?_
 intro g30
 refine cW (i := 6) (z := jI 0) (bytes := 8) C C C C Try.underlying48 (by kernel_rfl) C C C C (aJ 0 C) (cQ _) (by first | omega | (simp; done) | (simp; omega)) (cM us ([(sgK m vs ins).getD k 0])) (dP us ([(sgK m vs ins).getD k 0])) (fun _ => C) ?_
 intro v31
 refine dA 1 C (cK (cG 1 C (aI C (dO C C C) (dA 1 C ?_))))
 exact cO (k + 1) v31 (us ++ ([(sgK m vs ins).getD k 0])) ⟨by omega, by rw [hu]; exact vZ (by omega)⟩ (by omega) (cN rfl) (eO [1, 0, 0, 0, 0, 0, 0, 0, 0] rfl)
 refine bQ (gM C (cK (cG 1 C (aI C (dO C C C) (dA 1 C ?_)))))
 exact cO (k + 1) gu us ⟨by omega, hu.trans (zB (by omega))⟩ (by omega) (cN C) (eT C)
 refine bQ (aS C ?_)
 refine bI (dC ?_)
 refine aM (aR (aF (aO (aI C (aW (cs := [.slice (some ⟨g12, 0, none⟩) ((List.replicate m.ss.length (0 : Int)).length) ((List.replicate m.ss.length (0 : Int)).length), v14]) C C C C C (aT 2 C 0 C)) (aH 1 C ?_)))))
 refine bE (cs' := #[.slice (some ⟨g12, 0, none⟩) ((List.replicate m.ss.length (0 : Int)).length) ((List.replicate m.ss.length (0 : Int)).length), v14]) (i := 6) (off := 0) (us := [.slice (some ⟨g12, 0, none⟩) ((List.replicate m.ss.length (0 : Int)).length) ((List.replicate m.ss.length (0 : Int)).length), v14]) C C C C C C C (aB C (aB ho18 bC)) C C C (aP 1 C ?_)
 refine aN (cD 9 [8, 7, 6, 4, 3, 2, 5, 1, 0] C C (by decide) ?_)
 refine fV (p := (.slice (some ⟨g12, 0, none⟩) ((List.replicate m.ss.length (0 : Int)).length) ((List.replicate m.ss.length (0 : Int)).length) : Value).oneCell' = true ∧ (v14 : Value).oneCell' = true ∧ (gu : Value).oneCell' = true) (fun w hm => ⟨(aJ 0 C w hm).one, (aJ 1 C w hm).one, (aJ 2 C w hm).one⟩) (fun ho9 => ?_)
 exact cH (rs := [.cell 6 50, .tmp 7]) (vs := [.agg #[.slice (some ⟨g12, 0, none⟩) ((List.replicate m.ss.length (0 : Int)).length) ((List.replicate m.ss.length (0 : Int)).length), v14], gu]) (post := [rI9 3 (.slice (some ⟨g12, 0, none⟩) ((List.replicate m.ss.length (0 : Int)).length) ((List.replicate m.ss.length (0 : Int)).length)) ys, rI9 3 v14 qs, rI9 3 gu us]) rfl ⟨⟨b3, 0, [.slice (some ⟨g12, 0, none⟩) ((List.replicate m.ss.length (0 : Int)).length) ((List.replicate m.ss.length (0 : Int)).length), v14], rfl, rfl, by kernel_rfl, by kernel_rfl, aT 6 rfl 0 rfl⟩, rfl, trivial⟩ rfl (eO [0, 0, 0] rfl) ⟨_, _, _, rfl, by rw [hy, hq, hu, show j = m.ms.length by omega, show k = m.ss.length by omega]; rfl, ho9⟩
theorem sA (m : Md) (rs : List CRow) (ui : Value) (w : World) (hr : RdsMd w m) (hfl : FlP m) (hn : RdsCl w ui rs) (hI : InI m (rs.map CRow.xs)) :
   Calls Try.prog 79 #[.agg #[m.sv, m.av, m.iv, m.mv], ui] w (Ans w (.bool true)) := by
 have hln := hfl.lens
 have hI1 := hI.1
 rw [List.length_map] at hI1
 refine bW (N := 31) (args := [.agg #[m.sv, m.av, m.iv, m.mv], ui]) Try.func79 C C (cA ?_)
 refine cL C (cY C C) ?_
 intro b1
 refine aP 1 C (eM (aI C (aW (cs := [m.sv, m.av, m.iv, m.mv]) C C C C C (aT 0 C 0 C)) ?_))
 refine dW C (aV C C (fun w hm => bJ (by have h9 := iC m w (hr.below hm.bel); rw [dG hfl] at h9; exact h9))) (aH 3 C (aI C (dL C C C (aD hn.row)) ?_))
 refine eS C C C C C C (fun h2 => absurd h2 (by omega)) (fun h2 => ?_)
 refine aP 1 C (aS C (cE (cA (aI C (aW (cs := [m.sv, m.av, m.iv, m.mv]) C C C C C (aT 0 C 0 C)) ?_))))
 refine fC C C C (aV C C (fun w hm => eN m 0 w (hr.below hm.bel))) ?_
 intro v3 p4 R5
 subst R5
 refine aI C (dL C C C (aJ 0 C)) (aP 1 C (aF (bA 1 C (bD ?_))))
 refine gK (α := Nat) [0, 1, 2, 4, 5, 14] C (fun i => [rowE 3 1 v3 ((pwK m 0).length) (mI (pwK m 0)), boxE b1 #[m.sv, m.av, m.iv, m.mv] 35]) (fun i => [(6, jI (i : Int))]) (fun i => i ≤ rs.length) (fun i => rs.length - i) 0 (Nat.zero_le _) (cN C) (eT C) ?_
 intro i hi6
 have hi := hi6
 refine aF (aF (cG 2 C (aI C (dL C C C (aD hn.row)) ?_)))
 refine bN C C C C C C (fun h7 => ?_) (fun h7 => ?_)
 refine bQ (aK C (cE (fD (cA ?_))))
 have hai := hI.at (show i < rs.length by omega)
 refine aH 2 C (aI C (cR 1 C C C C (aD hn.row)) ?_)
 refine aI C (aQ (u := (rs.getD i crow0).v) C C C (aD hn.row) (gB crowC (fun r => r.v) (fun _ => C) rs crow0 (show i < _ by omega))) (aI C (dL C C C (aD (hn.at (k := i) (by omega)))) (aH 1 C ?_))
 refine fZ C C C C C C (fun h8 => absurd h8 (by omega)) (fun h8 => ?_)
 refine bQ (gM C (cK (cG 1 C (aI C (dO C C C) (dA 1 C ?_)))))
 exact cB (i + 1) (by omega) (by omega) (cN C) (eT C)
 refine bQ (aS C ?_)
 refine bI (dC ?_)
 refine aM (aR (bA 1 C ?_))
 exact aN (aX C C C)
end Go.Proofs.Ytodiifjigjnalaa
