/- Texts of the law FnInstanceAlone, part 2: what it uses. -/
import Derived.Test.YtodiifjigjnalaaIal1
set_option linter.unusedVariables false
set_option linter.unusedSimpArgs false
set_option maxHeartbeats 4000000
set_option maxRecDepth 100000
namespace Go.Proofs.Ytodiifjigjnalaa
open Go.RowKit Go.ChangeShapes
open Go.RowKit
section
variable {P : Program} {N : Nat} {w0 : World} {l : List HP} {env : List (Nat × Value)} {Q : Post} {os : List Oper} {m : Nat} {dps : List (List Nat)} {dsts : List (Option Nat)} {R : Nat → List Value → Value → List HP → Prop}
structure Mid4 (N : Nat) (w0 : World) (l : List HP) (env : List (Nat × Value)) (os : List Oper) (m : Nat) (dps : List (List Nat)) (dsts : List (Option Nat)) (R : Nat → List Value → Value → List HP → Prop) (tau : List (Option Nat)) (P0 : List (List HP)) (listed : Array Bool) (ord held : List Nat) (vf : Nat → Value) (pf : Nat → List HP) (a : Act) (w : World) : Prop where
  size : listed.size = os.length
  iff : ∀ i, i < os.length → (listed.getD i true = true ↔ i ∈ ord)
  low : ∀ i ∈ ord, i < m
  closed : ∀ i ∈ ord, ∀ j ∈ depsOf os i, j ∈ ord
  nodup : ord.Nodup
  dcl : ∀ i ∈ ord, ∀ j ∈ dps.getD i [], j ∈ ord
  rel : ∀ i ∈ ord, R i ((dps.getD i []).map vf) (vf i) (pf i)
  hn : held.Nodup
  hin : ∀ i ∈ held, i ∈ ord ∨ (os.length ≤ i ∧ i < os.length + P0.length)
  hall : ∀ i, (i ∈ ord ∨ (os.length ≤ i ∧ i < os.length + P0.length)) → (∀ j ∈ ord, tau.getD j none ≠ some i) → i ∈ held
  hP : ∀ k, k < P0.length → pf (os.length + k) = P0.getD k []
  mem : Mem w0 (held.flatMap pf ++ l) w
  asize : a.tmps.size = N
  defers : a.defers = []
  env : ∀ d v, lk env d = some v → a.tmps[d]? = some v
  slots : ∀ i ∈ ord, ∀ d, dsts[i]? = some (some d) → a.tmps[d]? = some (vf i)
theorem Mid4.st {tau P0 listed ord held vf pf a w} (h : Mid4 N w0 l env os m dps dsts R tau P0 listed ord held vf pf a w) (hm : m ≤ dsts.length) {is : List Nat} (hs : ∀ j ∈ is, j ∈ ord) {L : List HP} (hM : Mem w0 L w) : St N w0 L (envOf3 dsts vf is ++ env) a w := by
  refine ⟨hM, h.asize, h.defers, fun d v hd => ?_⟩
  rcases lH _ _ _ _ hd with h1 | h1
  · unfold envOf3 at h1
    rw [List.mem_filterMap] at h1
    obtain ⟨i, hi, he⟩ := h1
    rw [Option.map_eq_some_iff] at he
    obtain ⟨d', hd', he⟩ := he
    simp only [Prod.mk.injEq] at he
    obtain ⟨rfl, rfl⟩ := he
    have : dsts[i]? = some (some d') := by
      rw [List.getD_eq_getElem?_getD] at hd'
      cases hx : dsts[i]? with
      | none => rw [hx] at hd'; cases hd'
      | some y => rw [hx] at hd'; exact congrArg some hd'
    exact h.slots i (hs i hi) _ this
  · exact h.env d v h1
theorem xO {id : Nat} (hmix : P.follows .mixedOrders = true) (m : Nat) (dps : List (List Nat)) (dsts : List (Option Nat)) (R : Nat → List Value → Value → List HP → Prop) (qd : List (List Nat)) (tau : List (Option Nat)) (P0 : List (List HP)) (fl : List Nat) (hok : drawOk3 os m dps dsts = true) (htau : tauOk4 os m P0.length dps qd tau fl = true) (hfresh : dsts.all (fun d => match d with | some d => (lk env d).isNone | none => true) = true) (hN : dsts.all (fun d => match d with | some d => Nat.blt d N | none => true) = true)
    (due : ∀ i o, os[i]? = some o → i < m → ∀ vf pf, (∀ k, k < P0.length → pf (os.length + k) = P0.getD k []) → (∀ j ∈ dps.getD i [], R j ((dps.getD j []).map vf) (vf j) (pf j)) → Obl2 P os.toArray N w0 (tau.getD i none) pf ((qd.getD i []).flatMap pf ++ l) (envOf3 dsts vf (dps.getD i []) ++ env) o (R i ((dps.getD i []).map vf)))
    (fin : ∀ vf pf, (∀ k, k < P0.length → pf (os.length + k) = P0.getD k []) → (∀ i, i < m → R i ((dps.getD i []).map vf) (vf i) (pf i)) → HL P N os.toArray w0 (fl.flatMap pf ++ l) (envOf3 dsts vf (List.range m) ++ env) (os.drop m) Q) : HC P N w0 (P0.flatten ++ l) env (.region id os.toArray true) Q := by
  intro a w st
  refine wp_region_any hmix ?_
  simp only [drawOk3, Bool.and_eq_true, Nat.ble_eq, List.all_eq_true, List.mem_range, Bool.or_eq_true, Nat.blt_eq, beq_iff_eq, decide_eq_true_eq, Array.all_eq_true', bne_iff_ne] at hok
  obtain ⟨⟨⟨⟨⟨⟨hml, hback⟩, hcov⟩, hready⟩, hdst⟩, hdn⟩, hdp⟩ := hok
  simp only [tauOk4, Bool.and_eq_true, List.all_eq_true, List.mem_range, Bool.or_eq_true, Nat.blt_eq, Nat.ble_eq, beq_iff_eq, bne_iff_ne, decide_eq_true_eq, List.contains_iff_mem] at htau
  obtain ⟨⟨⟨hqd, hth⟩, hfl⟩, hfn⟩ := htau
  have hml' : m ≤ dsts.length := by have := congrArg List.length hdst; simp at this; omega
  have hlen : dsts.length = m := by have := congrArg List.length hdst; simp at this; omega
  have hrdy : ∀ k, m ≤ k → k < os.length → Region.ready .any os.toArray (preT os.length k) = [k] := fun k h1 h2 => by
    have := hready (k - m) (by omega)
    rw [show m + (k - m) = k by omega] at this
    exact this
  have hmsk : ∀ i j, ((msk ((List.range os.length).map (depsOf os)) []).getD i 0).testBit j = true → Dep os i j := mT os _ _ (fun t ds ht d hd => by
    rw [List.getElem?_map] at ht
    by_cases h : t < os.length
    · rw [List.getElem?_range h] at ht; simp at ht; subst ht; simpa using hd
    · rw [List.getElem?_eq_none (by simp; omega)] at ht; cases ht) (fun i j h => by simp at h)
  have dstAt : ∀ i, i < m → ∀ o, os[i]? = some o → o.dst = dsts.getD i none := fun i hi o ho => by
    have h1 : ((os.take m).map (·.dst))[i]? = some o.dst := by rw [List.getElem?_map, List.getElem?_take, if_pos hi, ho]; rfl
    rw [hdst] at h1
    rw [List.getD_eq_getElem?_getD, h1]; rfl
  -- what may come up
  have key : ∀ (f : Nat) (listed : Array Bool) (ord held : List Nat) (vf : Nat → Value) (pf : Nat → List HP) (a : Act) (w : World), f + ord.length = os.length → Mid4 N w0 l env os m dps dsts R tau P0 listed ord held vf pf a w → wpAny P .any os.toArray Q f listed a w := by
    intro f
    induction f with
    | zero =>
      intro listed ord held vf pf a w hf h
      -- all are listed: m = the length
      have hall : ∀ i, i < os.length → i ∈ ord := by
        intro i hi
        have hsub : ord.Perm (List.range os.length) ∨ True := .inr trivial
        obtain ⟨r, hr⟩ := fE ord (List.range os.length) h.nodup (fun j hj => by have := h.low j hj; simp; omega)
        have hl := hr.length_eq
        simp at hl
        have : r = [] := List.length_eq_zero_iff.1 (by omega)
        subst this
        have := hr.mem_iff.1 (List.mem_range.2 hi)
        simpa using this
      have hm2 : m = os.length := by
        by_cases hc : m < os.length
        · have := h.low m (hall m hc); omega
        · omega
      have hp : listed = preT os.length m := by
        apply Array.ext
        · rw [h.size, fL _ _ hml]
        · intro i h1 h2
          have hi : i < os.length := by rw [h.size] at h1; exact h1
          have e1 := (h.iff i hi).2 (hall i hi)
          have e2 := gQ os.length m i hml hi
          rw [Array.getD_eq_getD_getElem?, Array.getElem?_eq_getElem h1] at e1
          rw [Array.getD_eq_getD_getElem?, Array.getElem?_eq_getElem h2] at e2
          simp only [Option.getD_some] at e1 e2
          rw [e1, e2]; simp; omega
      rw [hp]
      refine iB hrdy 0 m (Nat.le_refl _) (by omega) a w ?_
      exact fin vf pf h.hP (fun i hi => h.rel i (hall i (by omega))) a w (h.st hml' (fun j hj => hall j (by rw [List.mem_range] at hj; omega)) (h.mem.pick hfn (fun j hj => h.hall j ((hfl j hj).1.imp (fun hlt => hall j (by omega)) (fun x => x)) (fun k hk => (hfl j hj).2 k (h.low k hk)))))
    | succ f ih =>
      intro listed ord held vf pf a w hf h
      by_cases hall : ∀ i, i < m → i ∈ ord
      · -- the tail's turn
        have hp : listed = preT os.length m := by
          apply Array.ext
          · rw [h.size, fL _ _ hml]
          · intro i h1 h2
            have hi : i < os.length := by rw [h.size] at h1; exact h1
            have e1 := h.iff i hi
            have e2 := gQ os.length m i hml hi
            rw [Array.getD_eq_getD_getElem?, Array.getElem?_eq_getElem h1] at e1
            rw [Array.getD_eq_getD_getElem?, Array.getElem?_eq_getElem h2] at e2
            simp only [Option.getD_some] at e1 e2
            rw [e2, Bool.eq_iff_iff, e1, decide_eq_true_eq]
            exact ⟨fun hx => h.low i hx, fun hx => hall i hx⟩
        have hord : ord.length = m := by
          obtain ⟨r, hr⟩ := fE ord (List.range m) h.nodup (fun j hj => by have := h.low j hj; simpa using this)
          obtain ⟨r', hr'⟩ := fE (List.range m) ord List.nodup_range (fun j hj => hall j (by simpa using hj))
          have h1 := hr.length_eq
          have h2 := hr'.length_eq
          simp at h1 h2
          omega
        rw [hp]
        refine iB hrdy (f + 1) m (Nat.le_refl _) (by omega) a w ?_
        exact fin vf pf h.hP (fun i hi => h.rel i (hall i hi)) a w (h.st hml' (fun j hj => hall j (by simpa using hj)) (h.mem.pick hfn (fun j hj => h.hall j ((hfl j hj).1.imp (fun hlt => hall j hlt) (fun x => x)) (fun k hk => (hfl j hj).2 k (h.low k hk)))))
      · -- some quiet one is not done yet
        have hsome : ∃ i, i < m ∧ i ∉ ord := by
          by_cases hx : ∃ i, i < m ∧ i ∉ ord
          · exact hx
          · exact absurd (fun i hi => Decidable.byContradiction fun hn => hx ⟨i, hi, hn⟩) hall
        have mem_rdy : ∀ i, i ∈ Region.ready .any os.toArray listed ↔ i < os.length ∧ i ∉ ord ∧ ∀ j ∈ depsOf os i, j ∈ ord := by
          intro i
          unfold Region.ready
          rw [List.mem_filter, List.mem_range]
          simp only [List.size_toArray]
          constructor
          · rintro ⟨hi, hb⟩
            rw [Bool.and_eq_true] at hb
            have hno : i ∉ ord := fun hx => by rw [(h.iff i hi).2 hx] at hb; simp at hb
            refine ⟨hi, hno, fun j hj => ?_⟩
            have ho : os.toArray[i]? = some os[i] := by simp [hi]
            rw [ho] at hb
            simp only [Option.map_some, Option.getD_some, Array.all_eq_true'] at hb
            unfold depsOf at hj
            rw [List.getElem?_eq_getElem hi] at hj
            simp only [List.mem_map, List.mem_filter] at hj
            obtain ⟨e, ⟨he, hbd⟩, rfl⟩ := hj
            have hb2 := hb.2 e (by simpa using he)
            rw [hbd] at hb2
            simp at hb2
            have hlt := hback i hi e.on (by unfold depsOf; rw [List.getElem?_eq_getElem hi]; exact List.mem_map.2 ⟨e, List.mem_filter.2 ⟨he, hbd⟩, rfl⟩)
            refine (h.iff e.on (by omega)).1 ?_
            have hs : e.on < listed.size := by rw [h.size]; omega
            rw [Array.getD_eq_getD_getElem?, Array.getElem?_eq_getElem hs] 
            simp only [Option.getD_some]
            rw [Array.getElem?_eq_getElem hs] at hb2
            simpa using hb2
          · rintro ⟨hi, hno, hd⟩
            refine ⟨hi, ?_⟩
            have ho : os.toArray[i]? = some os[i] := by simp [hi]
            rw [ho]
            simp only [Option.map_some, Option.getD_some, Bool.and_eq_true, Array.all_eq_true']
            refine ⟨?_, fun e he => ?_⟩
            · cases hb : listed.getD i true with
              | true => exact absurd ((h.iff i hi).1 hb) hno
              | false => rfl
            · rw [Bool.or_eq_true]
              by_cases hbd : Region.binds .any e = true
              rotate_left
              · left; simpa using hbd
              right
              have hon : e.on ∈ depsOf os i := by unfold depsOf; rw [List.getElem?_eq_getElem hi]; exact List.mem_map.2 ⟨e, List.mem_filter.2 ⟨by simpa using he, hbd⟩, rfl⟩
              have hlt := hback i hi e.on hon
              have := (h.iff e.on (by omega)).2 (hd e.on hon)
              have hs : e.on < listed.size := by rw [h.size]; omega
              rw [Array.getD_eq_getD_getElem?, Array.getElem?_eq_getElem hs] at this
              simp only [Option.getD_some] at this
              rw [Array.getD_eq_getD_getElem?, Array.getElem?_eq_getElem hs]
              simpa using this
        have hdep : ∀ k j, Dep os k j → (∀ d ∈ depsOf os k, d ∈ ord) → j ∈ ord := by
          intro k j hd
          induction hd with
          | one hj => intro hx; exact hx _ hj
          | more hk _ ih2 => intro hx; exact ih2 (fun d hd => h.closed _ (hx _ hk) d hd)
        have hlow : ∀ i ∈ Region.ready .any os.toArray listed, i < m := by
          intro i hi
          obtain ⟨h1, h2, h3⟩ := (mem_rdy i).1 hi
          by_cases hc : i < m
          · exact hc
          · exfalso
            obtain ⟨q, hq, hqn⟩ := hsome
            rcases hcov i h1 with h4 | h4
            · exact hc h4
            · exact hqn (hdep i q (hmsk i q (h4 q hq)) h3)
        refine ⟨fun h0 => ?_, fun i hi => ?_⟩
        · -- the least one that is not done may come up
          exfalso
          obtain ⟨q, hq, hqn⟩ := hsome
          obtain ⟨p, hp, hmin⟩ := exists_least (p := fun i => i < m ∧ i ∉ ord) ⟨q, hq, hqn⟩
          have : p ∈ Region.ready .any os.toArray listed := by
            rw [mem_rdy]
            refine ⟨by omega, hp.2, fun j hj => ?_⟩
            have hlt := hback p (by omega) j hj
            apply Decidable.byContradiction
            intro hn
            have := hmin j ⟨by omega, hn⟩
            omega
          rw [h0] at this
          cases this
        · have him := hlow i hi
          obtain ⟨h1, h2, h3⟩ := (mem_rdy i).1 hi
          have ho : os[i]? = some os[i] := List.getElem?_eq_getElem h1
          have hdps := hdp i him
          have hsub : ∀ j ∈ dps.getD i [], j ∈ ord := fun j hj => hdep i j (hmsk i j (hdps.1 j hj)) h3
          have hqi := hqd i him
          have hqheld : ∀ j ∈ qd.getD i [], j ∈ held := fun j hj => h.hall j ((hqi.1 j hj).1.imp (hsub j) (fun x => x)) (fun k hk => by
            rcases (hqi.1 j hj).2 k (h.low k hk) with h5 | ⟨-, h6⟩
            · exact h5
            · exact absurd (hdep k i (hmsk k i h6) (h.closed k hk)) h2)
          have hobl := due i os[i] ho him vf pf h.hP (fun j hj => h.rel j (hsub j hj))
          have hdd := dstAt i him _ ho
          have hdlt : ∀ d, dsts.getD i none = some d → d < N := fun d hd => by
            have := List.all_eq_true.1 hN (some d) (by rw [← hd, List.getD_eq_getElem?_getD, List.getElem?_eq_getElem (by omega)]; exact List.getElem_mem _)
            simpa [Nat.blt_eq] using this
          have hdnone : ∀ d, dsts.getD i none = some d → lk env d = none := fun d hd => by
            have := List.all_eq_true.1 hfresh (some d) (by rw [← hd, List.getD_eq_getElem?_getD, List.getElem?_eq_getElem (by omega)]; exact List.getElem_mem _)
            simpa using this
          have hne : ∀ j ∈ ord, j ≠ i := fun j hj e => h2 (e ▸ hj)
          have hneh : ∀ j ∈ held, j ≠ i := fun j hj e => by
            rcases h.hin j hj with h5 | h5
            · exact hne j h5 e
            · omega
          have next : ∀ (held' : List Nat) v post w', held'.Nodup → (∀ k ∈ held', k ∈ i :: ord ∨ (os.length ≤ k ∧ k < os.length + P0.length)) → (∀ k, (k ∈ i :: ord ∨ (os.length ≤ k ∧ k < os.length + P0.length)) → (∀ j ∈ i :: ord, tau.getD j none ≠ some k) → k ∈ held') → R i ((dps.getD i []).map vf) v post →
              Mem w0 (held'.flatMap (fun k => if k = i then post else pf k) ++ l) w' → wpAny P .any os.toArray Q f (listed.setIfInBounds i true) (a.put (dsts.getD i none) v) w' := by
            intro held' v post w' hh1 hh2 hh3 hv hm
            refine ih (listed.setIfInBounds i true) (i :: ord) held' (fun k => if k = i then v else vf k) (fun k => if k = i then post else pf k) _ w' (by simp; omega) ⟨?_, ?_, ?_, ?_, ?_, ?_, ?_, hh1, hh2, hh3, ?_, hm, ?_, ?_, ?_, ?_⟩
            · simp [h.size]
            · intro k hk
              by_cases hki : k = i
              · subst hki
                have hs : k < listed.size := by rw [h.size]; exact hk
                simp [Array.getD_eq_getD_getElem?, hs]
              · rw [getD_set_ne true (fun e => hki e.symm), h.iff k hk]
                simp [hki]
            · intro k hk; rcases List.mem_cons.1 hk with rfl | hk; exact him; exact h.low k hk
            · intro k hk j hj
              rcases List.mem_cons.1 hk with rfl | hk
              · exact List.mem_cons_of_mem _ (h3 j hj)
              · exact List.mem_cons_of_mem _ (h.closed k hk j hj)
            · exact List.nodup_cons.2 ⟨h2, h.nodup⟩
            · intro k hk j hj
              rcases List.mem_cons.1 hk with rfl | hk
              · exact List.mem_cons_of_mem _ (hsub j hj)
              · exact List.mem_cons_of_mem _ (h.dcl k hk j hj)
            · intro k hk
              rcases List.mem_cons.1 hk with rfl | hk
              · have e : (dps.getD k []).map (fun j => if j = k then v else vf j) = (dps.getD k []).map vf := List.map_congr_left fun j hj => if_neg (hne j (hsub j hj))
                rw [e, if_pos rfl, if_pos rfl]; exact hv
              · have e : (dps.getD k []).map (fun j => if j = i then v else vf j) = (dps.getD k []).map vf := List.map_congr_left fun j hj => if_neg (hne j (h.dcl k hk j hj))
                rw [e, if_neg (hne k hk), if_neg (hne k hk)]; exact h.rel k hk
            · intro k hk; rw [if_neg (by omega)]; exact h.hP k hk
            · cases hdi : dsts.getD i none <;> simp [Act.put, h.asize]
            · cases hdi : dsts.getD i none <;> exact h.defers
            · intro d u hd
              cases hdi : dsts.getD i none with
              | none => exact h.env d u hd
              | some d0 =>
                have hdne : d0 ≠ d := fun e => by rw [← e, hdnone _ hdi] at hd; cases hd
                simp only [Act.put]
                rw [Array.getElem?_setIfInBounds_ne hdne]
                exact h.env d u hd
            · intro k hk d hd
              cases hdi : dsts.getD i none with
              | none =>
                rcases List.mem_cons.1 hk with rfl | hk
                · rw [List.getD_eq_getElem?_getD, hd] at hdi; cases hdi
                · show a.tmps[d]? = _
                  rw [if_neg (hne k hk)]; exact h.slots k hk d hd
              | some d0 =>
                have hlt : d0 < a.tmps.size := by rw [h.asize]; exact hdlt _ hdi
                rcases List.mem_cons.1 hk with rfl | hk
                · have : d = d0 := by rw [List.getD_eq_getElem?_getD, hd] at hdi; exact Option.some.inj hdi
                  subst this
                  simp only [Act.put, if_true]
                  simp only [Array.getElem?_setIfInBounds_self_of_lt hlt]
                · have hdne : d0 ≠ d := by
                    intro e
                    have hk2 : k < dsts.length := (List.getElem?_eq_some_iff.1 hd).1
                    have hdk : dsts.getD k none = some d := by rw [List.getD_eq_getElem?_getD, hd]; rfl
                    rcases hdn i him k (by omega) with (hx | hx) | hx
                    · exact hne k hk hx.symm
                    · rw [hdi] at hx; cases hx
                    · exact hx (by rw [hdi, hdk, e])
                  simp only [Act.put]
                  rw [Array.getElem?_setIfInBounds_ne hdne, if_neg (hne k hk)]
                  exact h.slots k hk d hd
          unfold wpOp
          have hoa : os.toArray[i]? = some os[i] := by simp [h1]
          rw [hoa]
          simp only
          have hpost : ∀ (hs : List Nat) (post : List HP), (∀ k ∈ hs, k ≠ i) → (i :: hs).flatMap (fun k => if k = i then post else pf k) = post ++ hs.flatMap pf := fun hs post hx => by
            rw [List.flatMap_cons, if_pos rfl]
            congr 1
            rw [List.flatMap_def, List.flatMap_def]
            congr 1
            exact List.map_congr_left fun k hk => if_neg (hx k hk)
          cases ht : tau.getD i none with
          | none =>
            rw [ht] at hobl
            have hst := h.st hml' hsub (h.mem.pick hqi.2 hqheld)
            have next1 : ∀ v post w', R i ((dps.getD i []).map vf) v post → Mem w post w' → wpAny P .any os.toArray Q f (listed.setIfInBounds i true) (a.put (dsts.getD i none) v) w' := fun v post w' hv hm => by
              refine next (i :: held) v post w' (List.nodup_cons.2 ⟨fun hx => hneh i hx rfl, h.hn⟩) (fun k hk => ?_) (fun k hk hk2 => ?_) hv ?_
              · rcases List.mem_cons.1 hk with rfl | hk
                · exact .inl List.mem_cons_self
                · exact (h.hin k hk).imp (List.mem_cons_of_mem _) (fun x => x)
              · by_cases hki : k = i
                · rw [hki]; exact List.mem_cons_self
                · refine List.mem_cons_of_mem _ (h.hall k (hk.imp (fun hx => by rcases List.mem_cons.1 hx with hx | hx; exact absurd hx hki; exact hx) (fun x => x)) (fun j hj => hk2 j (List.mem_cons_of_mem _ hj)))
              · rw [hpost held post hneh, List.append_assoc]; exact h.mem.app hm
            rcases hobl with ⟨hw, hq⟩ | ⟨hw, hq⟩
            · rw [if_pos (hst.wanted hw)]
              refine .inl (hq a w hst Q _ fun v post w' hv hm => ?_)
              rw [hdd]
              exact next1 v post w' hv hm
            · rw [if_neg (by rw [hst.wanted hw]; decide), hdd]
              exact next1 undef [] w hq (Mem.refl w)
          | some hh =>
            rw [ht] at hobl
            have hth2 := hth i him
            rw [ht] at hth2
            simp only [Bool.and_eq_true, Bool.or_eq_true, Nat.ble_eq, Nat.blt_eq, beq_iff_eq, List.all_eq_true, List.mem_range, bne_iff_ne, List.contains_iff_mem] at hth2
            have hheld : hh ∈ held := h.hall hh (hth2.1.symm.imp (fun hx => hsub hh hx) (fun x => x)) (fun k hk => (hth2.2 k (h.low k hk)).resolve_left (hne k hk))
            have hperm := List.perm_cons_erase hheld
            have hmem : Mem w0 (pf hh ++ ((held.erase hh).flatMap pf ++ l)) w := by
              have := h.mem.perm ((hperm.flatMap_right pf).append_right l)
              rwa [List.flatMap_cons, List.append_assoc] at this
            have hnin : hh ∉ qd.getD i [] := fun hx => by
              rcases (hqi.1 hh hx).2 i him with h5 | ⟨h5, -⟩
              · exact h5 ht
              · exact h5 rfl
            have hconv : ∀ w, Mem w0 ((held.erase hh).flatMap pf ++ l) w → Mem w0 ((qd.getD i []).flatMap pf ++ l) w := fun w hm => hm.pick hqi.2 (fun j hj => (List.mem_erase_of_ne (fun (e : j = hh) => hnin (by rw [← e]; exact hj))).2 (hqheld j hj))
            have hst := h.st hml' hsub hmem
            have hneh2 : ∀ k ∈ held.erase hh, k ≠ i := fun k hk => hneh k (List.mem_of_mem_erase hk)
            have next2 : ∀ v post w', R i ((dps.getD i []).map vf) v post → Mem w0 (post ++ ((held.erase hh).flatMap pf ++ l)) w' → wpAny P .any os.toArray Q f (listed.setIfInBounds i true) (a.put (dsts.getD i none) v) w' := fun v post w' hv hm => by
              refine next (i :: held.erase hh) v post w' (List.nodup_cons.2 ⟨fun hx => hneh2 i hx rfl, h.hn.erase hh⟩) (fun k hk => ?_) (fun k hk hk2 => ?_) hv ?_
              · rcases List.mem_cons.1 hk with rfl | hk
                · exact .inl List.mem_cons_self
                · exact (h.hin k (List.mem_of_mem_erase hk)).imp (List.mem_cons_of_mem _) (fun x => x)
              · by_cases hki : k = i
                · rw [hki]; exact List.mem_cons_self
                · have hkh : k ≠ hh := fun e => hk2 i List.mem_cons_self (by rw [ht, e])
                  exact List.mem_cons_of_mem _ ((List.mem_erase_of_ne hkh).2 (h.hall k (hk.imp (fun hx => by rcases List.mem_cons.1 hx with hx | hx; exact absurd hx hki; exact hx) (fun x => x)) (fun j hj => hk2 j (List.mem_cons_of_mem _ hj))))
              · rw [hpost _ post hneh2, List.append_assoc]; exact hm
            rcases hobl with ⟨hw, hq⟩ | ⟨hw, hq⟩
            · rw [if_pos (hst.wanted hw)]
              refine .inl (hq _ hconv a w hst Q _ fun v post w' hv hm => ?_)
              rw [hdd]
              exact next2 v post w' hv hm
            · rw [if_neg (by rw [hst.wanted hw]; decide), hdd]
              exact next2 undef (pf hh) w hq hmem
  refine key os.length (Array.replicate os.length false) [] ((List.range P0.length).map (os.length + ·)) (fun _ => undef) (fun k => if os.length ≤ k then P0.getD (k - os.length) [] else []) a _ (by simp) ⟨by simp, ?_, by simp, by simp, by simp, by simp, by simp, ?_, ?_, ?_, ?_, ?_, st.size, st.defers, st.env, by simp⟩
  · intro i hi; simp [hi]
  · exact nW _ _
  · intro i hi
    simp only [List.mem_map, List.mem_range] at hi
    obtain ⟨k, hk, rfl⟩ := hi
    exact .inr ⟨by omega, by omega⟩
  · rintro i (hi | ⟨h1, h2⟩) _
    · cases hi
    · simp only [List.mem_map, List.mem_range]; exact ⟨i - os.length, by omega, by omega⟩
  · intro k hk; rw [if_pos (by omega), Nat.add_sub_cancel_left]
  · have e : ((List.range P0.length).map (os.length + ·)).flatMap (fun k => if os.length ≤ k then P0.getD (k - os.length) [] else []) = P0.flatten := by
      rw [List.flatMap_map]
      have : (fun a : Nat => (if os.length ≤ os.length + a then P0.getD (os.length + a - os.length) [] else [])) = fun a => P0.getD a [] := by
        funext a; rw [if_pos (by omega), Nat.add_sub_cancel_left]
      rw [List.flatMap_def]
      rw [show (List.map (fun a : Nat => (if os.length ≤ os.length + a then P0.getD (os.length + a - os.length) [] else [])) (List.range P0.length)) = P0 from by rw [this]; exact pF P0]
    rw [e]; exact st.mem.drawn _
def Dues4 (P : Program) (ops : Array Oper) (N : Nat) (w0 : World) (l : List HP) (env : List (Nat × Value)) (P0 : List (List HP)) (mu : Nat) (dsts : List (Option Nat)) (all qall : List (List Nat)) (tau : List (Option Nat)) (R : Nat → List Value → Value → List HP → Prop) : Nat → List (List Nat) → List Oper → Prop
  | _, _, [] => True
  | k, dss, o :: os => (∀ (vf : Nat → Value) (pf : Nat → List HP), (∀ k, k < P0.length → pf (mu + k) = P0.getD k []) → (∀ j ∈ all.getD k [], R j ((all.getD j []).map vf) (vf j) (pf j)) → Obl2 P ops N w0 (tau.getD k none) pf ((qall.getD k []).flatMap pf ++ l) (envOf3 dsts vf (all.getD k []) ++ env) o (R k ((all.getD k []).map vf))) ∧ Dues4 P ops N w0 l env P0 mu dsts all qall tau R (k + 1) dss os
theorem uJ {P : Program} {ops : Array Oper} {N : Nat} {w0 : World} {l : List HP} {env : List (Nat × Value)} {P0 : List (List HP)} {mu : Nat} {dsts : List (Option Nat)} {all qall : List (List Nat)} {tau : List (Option Nat)} {R : Nat → List Value → Value → List HP → Prop} : ∀ (os : List Oper) (dss : List (List Nat)) (k : Nat), Dues4 P ops N w0 l env P0 mu dsts all qall tau R k dss os → ∀ i o, os[i]? = some o → ∀ vf pf, (∀ k, k < P0.length → pf (mu + k) = P0.getD k []) → (∀ j ∈ all.getD (k + i) [], R j ((all.getD j []).map vf) (vf j) (pf j)) → Obl2 P ops N w0 (tau.getD (k + i) none) pf ((qall.getD (k + i) []).flatMap pf ++ l) (envOf3 dsts vf (all.getD (k + i) []) ++ env) o (R (k + i) ((all.getD (k + i) []).map vf))
  | [], _, _, _, i, o, ho, _, _, _, _ => by simp at ho
  | o' :: os, dss, k, h, 0, o, ho, vf, pf, hP, hR => by simp at ho; subst ho; exact h.1 vf pf hP hR
  | o' :: os, dss, k, h, i + 1, o, ho, vf, pf, hP, hR => by
    have e : k + 1 + i = k + (i + 1) := by omega
    have := uJ os dss (k + 1) h.2 i o (by simpa using ho) vf pf hP (by rw [e]; exact hR)
    rwa [e] at this
theorem iF {id : Nat} (hmix : P.follows .mixedOrders = true) (m : Nat) (qs : List Nat) (quiet tail : List Oper) (dps : List (List Nat)) (dsts : List (Option Nat)) (R : Nat → List Value → Value → List HP → Prop) (qd : List (List Nat)) (tau : List (Option Nat)) (P0 : List (List HP)) (fl : List Nat) (mu : Nat)
    (hos : os = quiet ++ tail) (hq : (Nat.beq quiet.length m && (List.range m == qs) && Nat.beq os.length mu) = true) (hok : drawOk3 os m dps dsts = true) (htau : tauOk4 os m P0.length dps qd tau fl = true) (hfresh : dsts.all (fun d => match d with | some d => (lk env d).isNone | none => true) = true) (hN : dsts.all (fun d => match d with | some d => Nat.blt d N | none => true) = true)
    (due : Dues4 P os.toArray N w0 l env P0 mu dsts dps qd tau R 0 [] quiet)
    (fin : ∀ vf pf, (∀ k, k < P0.length → pf (mu + k) = P0.getD k []) → (∀ i, i < m → R i ((dps.getD i []).map vf) (vf i) (pf i)) → HL P N os.toArray w0 (fl.flatMap pf ++ l) (envOf3 dsts vf qs ++ env) tail Q) : HC P N w0 (P0.flatten ++ l) env (.region id os.toArray true) Q := by
  simp only [Bool.and_eq_true, Nat.beq_eq, beq_iff_eq] at hq
  obtain ⟨⟨hq1, hq2⟩, hq3⟩ := hq
  refine xO hmix m dps dsts R qd tau P0 fl hok htau hfresh hN (fun i o ho hi vf pf hP hR => ?_) (fun vf pf hP hR => ?_)
  · have ho' : quiet[i]? = some o := by rw [hos, List.getElem?_append_left (by omega)] at ho; exact ho
    have := uJ quiet [] 0 due i o ho' vf pf (by rw [← hq3]; exact hP) (by rw [Nat.zero_add]; exact hR)
    rwa [Nat.zero_add] at this
  rw [hq2, hos, List.drop_left' hq1, ← hos]; exact fin vf pf (by rw [← hq3]; exact hP) hR
theorem pE {P0 X : List HP} {o : Oper} {t e size n j : Nat} {x y : Operand} {xs : List Value} {v u : Value} (i : Nat) (hd : o.dst = none) (ho : o.op = .store t x y) (hs : (P.info? t).map (·.size) = some 1)
    (hx : ev env x = some (elP v j)) (hy : ev env y = some u) (h1 : u.oneCell' = true) (hi : P0[i]? = some (rowE e size v n xs)) (hlt : j < n * size)
    {n' : Nat} {xs' : List Value} (hn' : n = n') (hx' : xs.set j u = xs') : RunM P N w0 P0 X env o (fun v_ post => post = P0.set i (rowE e size v n' xs')) := fun L hL a w st Q K hK => by
  subst hn' hx'
  have hil : i < P0.length := (List.getElem?_eq_some_iff.1 hi).1
  have hb : w.ownsRow 0 e size v n xs := st.mem.holds _ (List.mem_append_left _ (List.mem_of_getElem? hi))
  obtain ⟨g, cap, rfl⟩ : ∃ g cap, v = .slice (some ⟨g, 0, none⟩) n cap := by
    rcases hb.2 with ⟨rfl, rfl⟩ | ⟨g, cap', cur, rfl, _⟩
    · omega
    · exact ⟨g, cap', rfl⟩
  have hm := st.mem.setRow (show (P0 ++ L)[i]? = some _ by rw [List.getElem?_append_left hil]; exact hi) j u
  have hr := lX (P := P) (t := t) (v := u) (w := w) (b := g) (off := j) hs h1 (by rw [hb.cellAt j hlt, List.getElem?_eq_getElem (by rw [hb.1]; exact hlt)]; rfl) (hb.frozenAt j)
  have hrun : (execOp a.eval o).run P w = .ok .skip (w.setCell ⟨g, j, none⟩ u) := by simp [execOp, ho, st.eval hx, elP, st.eval hy, hr]
  unfold Oper.wp
  rw [hrun, Oper.upon_skip]
  exact hK undef _ _ rfl (by rw [List.set_append_left _ _ hil] at hm; exact hm)
end
section
variable {P : Program} {N : Nat} {w0 : World} {env : List (Nat × Value)}
theorem xE {X : List HP} {o : Oper} {t e s bytes n k : Nat} {x y : Operand} {v z : Value} {xs : List Value} (ho : o.op = .call { callee := .builtin .append, args := #[x, y], argTypes := #[t, t] })
    (hu : P.underlying t = some (.slice e)) (hinf : (P.info? e).map (fun i => (i.zero, i.size, i.bytes)) = some (some z, s, bytes)) (hzs : (Nat.beq z.cells.size s && Nat.blt 0 s && Nat.ble bytes 1000) = true)
    (hx : ev env x = some (slV v 0 k s)) (hy : ev env y = some (slV v (k + 1) n s)) (hk : k < n) (h1 : ∀ q ∈ xs, q.oneCell' = true) (hnm : n ≤ 100000000000)
    {n' : Nat} {xs' : List Value} (hn' : n - 1 = n') (hx' : xs.take (k * s) ++ xs.drop ((k + 1) * s) = xs') : RunM P N w0 [rowE e s v n xs] X env o (fun v' post => ∃ p', post = [p'] ∧ p' = rowE e s v' n' xs') := fun L hL a w st Q K hK => by
  obtain ⟨inf, hi', hz, hs, hby⟩ := info_parts hinf
  simp only [Bool.and_eq_true, Nat.beq_eq, Nat.blt_eq, Nat.ble_eq] at hzs
  obtain ⟨⟨hz1, hz2⟩, hz3⟩ := hzs
  have hown : w.ownsRow 0 e s v n xs := st.mem.holds _ (cF (i := 0) rfl)
  have hrd := rdW_sl (cZ hown) (show k + 1 ≤ n by omega) (Nat.le_refl n)
  have hlen := hown.1
  rcases hown.2 with ⟨rfl, rfl⟩ | ⟨g, cap, cur, rfl, hB, hg, hn, hcap, hsz, htk⟩
  · omega
  have hv1 : slV (.slice (some ⟨g, 0, none⟩) n cap) 0 k s = .slice (some ⟨g, 0, none⟩) k cap := by
    show sliced (some ⟨g, 0, none⟩) 0 k cap s = _
    unfold sliced
    rw [if_neg (by omega)]
    show Value.slice (some ((⟨g, 0, none⟩ : Addr).add (0 * s))) _ _ = _
    rw [iO]; simp
  have hks : k * s ≤ n * s := Nat.mul_le_mul_right _ (by omega)
  have hshort : w.ownsRow 0 e s (.slice (some ⟨g, 0, none⟩) k cap) k (xs.take (k * s)) := ⟨by rw [List.length_take, hlen]; exact Nat.min_eq_left hks, .inr ⟨g, cap, cur, rfl, hB, hg, by omega, hcap, hsz, by rw [← htk, List.take_take, Nat.min_eq_left hks]⟩⟩
  have hdr : (xs.drop ((k + 1) * s)).take ((n - (k + 1)) * s) = xs.drop ((k + 1) * s) := List.take_of_length_le (by rw [List.length_drop, hlen, ← Nat.sub_mul]; exact Nat.le_refl _)
  rw [hdr] at hrd
  obtain ⟨ad, cap2, hv2, hl, hm, hc⟩ := hrd
  have h1' : ∀ q ∈ xs.drop ((k + 1) * s), q.oneCell' = true := fun q hq => h1 q (List.mem_of_mem_drop hq)
  have hrun : ∃ v' w', (Builtin.append_ #[t, t] o.type #[.slice (some ⟨g, 0, none⟩) k cap, .slice ad (n - (k + 1)) cap2]).run P w = .ok v' w' ∧ w'.ownsRow 0 e s v' (k + (n - (k + 1))) (xs.take (k * s) ++ xs.drop ((k + 1) * s)) ∧ w.grownBy w' (some g) ∧ (v'.ownBlock = some g ∨ v'.ownBlock = some w.heap.size) := by
    by_cases hm0 : n - (k + 1) = 0
    · have hnil : xs.drop ((k + 1) * s) = [] := List.eq_nil_of_length_eq_zero (by rw [hl, hm0]; simp)
      rw [hm0, hnil]
      refine ⟨.slice (some ⟨g, 0, none⟩) k cap, w, ?_, by simpa using hshort, World.grownBy.refl _ _, .inl rfl⟩
      cases ad <;> simp [Builtin.append_, run_underlying hu, sizeOf, typeInfo, hi', Builtin.lenOf, Builtin.firstCells, loadCells, loadCellsFrom, show k ≤ cap by omega, storeCells]
    · obtain ⟨b, off, rfl, hc'⟩ := hc (by omega)
      have hb : (k + (n - (k + 1))) * bytes ≤ 140737488355328 := by have := Nat.mul_le_mul (show k + (n - (k + 1)) ≤ 100000000000 by omega) hz3; omega
      obtain ⟨v', w', e1, e2, e3, _, e5⟩ := run_append_own_at (P := P) w 0 t o.type e inf z s bytes hu hi' hz hs hby hz1 hz2 _ k _ hshort ⟨b, off, none⟩ (n - (k + 1)) cap2 _ hl (fun j q hj => by rw [iO]; exact hc' j q hj) h1' (by unfold maxLen; omega) hb (Nat.zero_le _)
      exact ⟨v', w', e1, e2, e3, e5⟩
  obtain ⟨v', w', e1, e2, e3, e4⟩ := hrun
  rw [hv1] at hx
  rw [hv2] at hy
  have hr : (execOp a.eval o).run P w = .ok (.value v') w' := by
    simp only [execOp, ho, resolve, invoke, builtin, Sem.run_bind, Sem.run_pure, Result.andThen_ok, List.map_toArray, List.map_cons, List.map_nil, st.eval hx, st.eval hy, e1]
  unfold Oper.wp
  rw [hr, Oper.upon_value]
  obtain rfl : k + (n - (k + 1)) = n' := by omega
  subst hx'
  exact hK v' _ w' ⟨_, rfl, rfl⟩ (Mem.append (v := .slice (some ⟨g, 0, none⟩) n cap) (i := 0) rfl st.mem e2 e3 e4)
theorem xM {ops : Array Oper} {l : List HP} {rest : List Oper} {Q : Post} {o : Oper} {d t e s bytes n k i : Nat} {x y : Operand} {v z : Value} {xs : List Value} (hd : o.dst = some d) (hN : Nat.blt d N = true) (hw : want ops env o.guard = some true) (ho : o.op = .call { callee := .builtin .append, args := #[x, y], argTypes := #[t, t] })
    (hu : P.underlying t = some (.slice e)) (hinf : (P.info? e).map (fun i => (i.zero, i.size, i.bytes)) = some (some z, s, bytes)) (hzs : (Nat.beq z.cells.size s && Nat.blt 0 s && Nat.ble bytes 1000) = true)
    (hx : ev env x = some (slV v 0 k s)) (hy : ev env y = some (slV v (k + 1) n s)) (hi : l[i]? = some (rowE e s v n xs)) (hk : k < n) (h1 : ∀ q ∈ xs, q.oneCell' = true) (hnm : n ≤ 100000000000)
    {n' : Nat} {xs' : List Value} (hn' : n - 1 = n') (hx' : xs.take (k * s) ++ xs.drop ((k + 1) * s) = xs') {L : Value → List HP} (hL : ∀ v', l.set i (rowE e s v' n' xs') = L v')
    (kk : ∀ v', HL P N ops w0 (L v') ((d, v') :: env) rest Q) : HL P N ops w0 l env (o :: rest) Q := fun a w st => wpList_step fun K hK => by
  rw [if_pos (st.wanted hw)]
  have hil : i < l.length := (List.getElem?_eq_some_iff.1 hi).1
  refine xE (X := l.eraseIdx i) ho hu hinf hzs hx hy hk h1 hnm hn' hx' (l.eraseIdx i) (fun w hm => hm) a w ⟨st.mem.perm (hY l i _ hi), st.size, st.defers, st.env⟩ _ K (fun v' post w' hp hm => ?_)
  obtain ⟨p', rfl, rfl⟩ := hp
  have h2 := hY (l.set i (rowE e s v' n' xs')) i (rowE e s v' n' xs') (List.getElem?_set_self hil)
  rw [List.eraseIdx_set_eq] at h2
  rw [hd]
  exact hK _ _ (kk v' _ _ (st.put hN (by rw [← hL]; exact hm.perm h2.symm)))
end
theorem Bp (zs : List Int) {k : Nat} (hk : k < zs.length) : (zs.map (Value.int .i64)).take (k * 1) ++ (zs.map (Value.int .i64)).drop ((k + 1) * 1) = (zs.eraseIdx k).map (Value.int .i64) := by
  rw [Nat.mul_one, Nat.mul_one, List.eraseIdx_eq_take_drop_succ, List.map_append, List.map_take, List.map_drop]
def RdS (os : List Oq) (s : Int) : Prop := ∃ i, i < os.length ∧ ((os.getD i oq0).k = 2 ∨ (os.getD i oq0).k = 3) ∧ (os.getD i oq0).a = s
def HpP (os : List Oq) : Prop := ∃ i, i < os.length ∧ (os.getD i oq0).k = 1
def FreeP (m : Md) (T : List Int) (x : Int) : Prop := ∀ y ∈ T, ¬ RdS (m.gs.getD x.toNat as0).os (m.gs.getD y.toNat as0).t
def Can (m : Md) (T : List Int) : Prop := ∃ f : Int → Nat, ∀ x ∈ T, ∀ y ∈ T, RdS (m.gs.getD x.toNat as0).os (m.gs.getD y.toNat as0).t → f y < f x
theorem Can.nil (m : Md) : Can m [] := ⟨fun _ => 0, fun x hx => by cases hx⟩
theorem Can.sub {m : Md} {T T' : List Int} (h : Can m T) (hs : ∀ x ∈ T', x ∈ T) : Can m T' := by
  obtain ⟨f, hf⟩ := h; exact ⟨f, fun x hx y hy => hf x (hs x hx) y (hs y hy)⟩
theorem zJ (f : Int → Nat) : ∀ {T : List Int}, T ≠ [] → ∃ x ∈ T, ∀ y ∈ T, f x ≤ f y
  | [], h => absurd rfl h
  | a :: L, _ => by
    by_cases e : L = []
    · subst e; exact ⟨a, by simp, fun y hy => by rw [List.mem_singleton] at hy; subst hy; exact Nat.le_refl _⟩
    · obtain ⟨x, hx, hm⟩ := zJ f e
      by_cases h : f a ≤ f x
      · exact ⟨a, by simp, fun y hy => by rcases List.mem_cons.1 hy with rfl | hy; exact Nat.le_refl _; exact Nat.le_trans h (hm y hy)⟩
      · exact ⟨x, by simp [hx], fun y hy => by rcases List.mem_cons.1 hy with rfl | hy; omega; exact hm y hy⟩
theorem Can.free {m : Md} {T : List Int} (h : Can m T) (hT : T ≠ []) : ∃ x ∈ T, FreeP m T x := by
  obtain ⟨f, hf⟩ := h
  obtain ⟨x, hx, hm⟩ := zJ f hT
  exact ⟨x, hx, fun y hy hr => by have h1 := hf x hx y hy hr; have h2 := hm y hy; omega⟩
theorem mU {T : List Int} {k : Nat} {y : Int} (hk : k < T.length) (hy : y ∈ T) (hne : y ≠ T.getD k 0) : y ∈ T.eraseIdx k := by
  rw [List.eraseIdx_eq_take_drop_succ, List.mem_append]
  rw [← List.take_append_drop k T, List.mem_append, List.drop_eq_getElem_cons hk, List.mem_cons] at hy
  rcases hy with h | h | h
  · exact .inl h
  · exact absurd (h.trans (by rw [List.getD_eq_getElem?_getD, List.getElem?_eq_getElem hk]; rfl)) hne
  · exact .inr h
theorem gX {T : List Int} {k : Nat} {y : Int} (hy : y ∈ T.eraseIdx k) : y ∈ T := List.mem_of_mem_eraseIdx hy
theorem Can.back {m : Md} {T : List Int} {k : Nat} (hk : k < T.length) (hf : FreeP m T (T.getD k 0)) (h : Can m (T.eraseIdx k)) : Can m T := by
  obtain ⟨f, h⟩ := h
  refine ⟨fun z => if z = T.getD k 0 then 0 else f z + 1, fun x hx y hy hr => ?_⟩
  by_cases ex : x = T.getD k 0
  · rw [ex] at hr; exact absurd hr (hf y hy)
  · show (if y = _ then 0 else f y + 1) < (if x = _ then 0 else f x + 1)
    rw [if_neg ex]
    by_cases ey : y = T.getD k 0
    · rw [if_pos ey]; omega
    · rw [if_neg ey]; have := h x (mU hk hx ex) y (mU hk hy ey) hr; omega
def todoA (m : Md) : Nat → List Int
  | 0 => []
  | i + 1 => todoA m i ++ if (m.ss.getD (m.gs.getD i as0).t.toNat sg0).k ≠ 3 then [(i : Int)] else []
theorem nF {m : Md} {i : Nat} (h : (m.ss.getD (m.gs.getD i as0).t.toNat sg0).k ≠ 3) : todoA m i ++ [(i : Int)] = todoA m (i + 1) := by
  show _ = todoA m i ++ if _ then _ else _
  rw [if_pos h]
theorem oW {m : Md} {i : Nat} (h : ¬ (m.ss.getD (m.gs.getD i as0).t.toNat sg0).k ≠ 3) : todoA m i = todoA m (i + 1) := by
  show _ = todoA m i ++ if _ then _ else _
  rw [if_neg h, List.append_nil]
theorem mE (m : Md) : ∀ i, (todoA m i).length ≤ i
  | 0 => Nat.le_refl _
  | i + 1 => by
    have := mE m i
    unfold todoA; rw [List.length_append]; split <;> simp <;> omega
theorem fP {m : Md} {x : Int} : ∀ {i : Nat}, x ∈ todoA m i ↔ ∃ j : Nat, j < i ∧ (m.ss.getD (m.gs.getD j as0).t.toNat sg0).k ≠ 3 ∧ x = (j : Int)
  | 0 => ⟨fun h => (by cases h), fun ⟨j, h, _⟩ => absurd h (by omega)⟩
  | i + 1 => by
    unfold todoA; rw [List.mem_append, fP]
    constructor
    · rintro (⟨j, h1, h2⟩ | h)
      · exact ⟨j, by omega, h2⟩
      · split at h
        · rw [List.mem_singleton] at h; exact ⟨i, by omega, by assumption, h⟩
        · cases h
    · rintro ⟨j, h1, h2, rfl⟩
      by_cases e : j < i
      · exact .inl ⟨j, e, h2, rfl⟩
      · obtain rfl : j = i := by omega
        right; rw [if_pos h2]; simp
theorem iP (m : Md) : ∀ i, (todoA m i).Nodup
  | 0 => List.nodup_nil
  | i + 1 => by
    unfold todoA
    split
    · refine List.nodup_append.2 ⟨iP m i, by simp, fun a ha b hb e => ?_⟩
      rw [List.mem_singleton] at hb; subst e hb
      obtain ⟨j, h1, -, h2⟩ := fP.1 ha; omega
    · rw [List.append_nil]; exact iP m i
noncomputable def pickK (m : Md) (T : List Int) : Nat := ((List.range T.length).find? (fun k => pB (FreeP m T (T.getD k 0)))).getD 0
noncomputable def ordF (m : Md) : Nat → List Int → List Int
  | 0, _ => []
  | n + 1, T => T.getD (pickK m T) 0 :: ordF m n (T.eraseIdx (pickK m T))
noncomputable def ordK (m : Md) (T : List Int) : List Int := ordF m T.length T
theorem yV {m : Md} {T : List Int} {k : Nat} (hk : k < T.length) (hf : FreeP m T (T.getD k 0)) (hn : ∀ q, q < k → ¬ FreeP m T (T.getD q 0)) : pickK m T = k := by
  unfold pickK
  have h : (List.range T.length).find? (fun k => pB (FreeP m T (T.getD k 0))) = some k := by
    rw [List.find?_range_eq_some]
    exact ⟨dG hf, by simpa using hk, fun j hj => by rw [bX (hn j hj)]; rfl⟩
  rw [h]; rfl
theorem Bc (m : Md) : ordK m [] = [] := rfl
theorem zC {m : Md} {T : List Int} {k : Nat} (hk : k < T.length) (hf : FreeP m T (T.getD k 0)) (hn : ∀ q, q < k → ¬ FreeP m T (T.getD q 0)) : ordK m T = T.getD k 0 :: ordK m (T.eraseIdx k) := by
  have h := yV hk hf hn
  unfold ordK
  obtain ⟨n, e⟩ : ∃ n, T.length = n + 1 := ⟨T.length - 1, by omega⟩
  rw [List.length_eraseIdx_of_lt hk, e]
  show T.getD (pickK m T) 0 :: ordF m n (T.eraseIdx (pickK m T)) = _
  rw [h]; rfl
theorem tQ {m : Md} {x : Int} : ∀ {n : Nat} {T : List Int}, T.length = n → Can m T → x ∈ ordF m n T → x ∈ T
  | 0, T, _, _, h => by cases h
  | n + 1, T, hl, hc, h => by
    obtain ⟨y, hy, hfy⟩ := hc.free (fun e => by rw [e] at hl; cases hl)
    obtain ⟨j, hj, rfl⟩ := List.mem_iff_getElem.1 hy
    have hsome : ((List.range T.length).find? (fun k => pB (FreeP m T (T.getD k 0)))).isSome = true := by
      rw [List.find?_isSome]
      refine ⟨j, List.mem_range.2 hj, dG ?_⟩
      rw [List.getD_eq_getElem?_getD, List.getElem?_eq_getElem hj]; exact hfy
    have hk : pickK m T < T.length := by
      obtain ⟨k, hk⟩ := Option.isSome_iff_exists.1 hsome
      unfold pickK; rw [hk]; exact List.mem_range.1 (List.mem_of_find?_eq_some hk)
    rcases List.mem_cons.1 h with rfl | h
    · rw [List.getD_eq_getElem?_getD, List.getElem?_eq_getElem hk]; exact List.getElem_mem hk
    · exact gX (tQ (by rw [List.length_eraseIdx_of_lt hk]; omega) (hc.sub (fun x hx => gX hx)) h)
noncomputable def frB (m : Md) (T : List Int) (x : Int) (j : Nat) : Bool := pB (∀ q, q < j → ¬ RdS (m.gs.getD x.toNat as0).os (m.gs.getD (T.getD q 0).toNat as0).t)
theorem frB_0 {m : Md} {T : List Int} {x : Int} : frB m T x 0 = true := dG (fun q hq => absurd hq (by omega))
theorem Ae {m : Md} {T : List Int} {x : Int} {j : Nat} (h : frB m T x j = false) : frB m T x (j + 1) = false := bX (fun hp => eP h (fun q hq => hp q (by omega)))
theorem frB_t {m : Md} {T : List Int} {x : Int} {j : Nat} (h : frB m T x j = true) (hn : ¬ RdS (m.gs.getD x.toNat as0).os (m.gs.getD (T.getD j 0).toNat as0).t) : frB m T x (j + 1) = true := dG (fun q hq => by
  by_cases e : q = j
  · subst e; exact hn
  · exact fK h q (by omega))
theorem Bv {m : Md} {T : List Int} {x : Int} {j : Nat} (hn : RdS (m.gs.getD x.toNat as0).os (m.gs.getD (T.getD j 0).toNat as0).t) : frB m T x (j + 1) = false := bX (fun hp => hp j (by omega) hn)
theorem wT {m : Md} {T : List Int} {x : Int} (h : frB m T x T.length = true) : FreeP m T x := fun y hy => by
  obtain ⟨q, hq, rfl⟩ := List.mem_iff_getElem.1 hy
  have h1 := fK h q hq
  have e : T.getD q 0 = T[q] := by rw [List.getD_eq_getElem?_getD, List.getElem?_eq_getElem hq]; rfl
  rwa [e] at h1
theorem frB_nn {m : Md} {T : List Int} {x : Int} (h : frB m T x T.length = false) : ¬ FreeP m T x := fun hf => eP h (fun q hq => hf _ (cV hq))
theorem DesP.gs1 {m : Md} (h : DesP [m]) {i : Nat} (hi : i < m.gs.length) : AsP m (m.gs.getD i as0) := (h.2 0 (by simp)).gs i hi
theorem AsP.tgt {m : Md} {g : As} (h : AsP m g) : (0 ≤ g.t ∧ g.t < m.ss.length) ∧ 1 ≤ (m.ss.getD g.t.toNat sg0).k ∧ (m.ss.getD g.t.toNat sg0).k ≤ 3 := by
  have h1 := h.1
  have hk : 0 ≤ g.t ∧ g.t < m.ss.length := Classical.byContradiction fun h9 => by have := fH h9; omega
  rw [dH hk] at h1; exact ⟨hk, h1⟩
theorem DesP.len1 {m : Md} (h : DesP [m]) : LenP m := (h.2 0 (by simp)).cnt.md 0 (by simp)
theorem Can.stop {m : Md} {T : List Int} (hT : T ≠ []) (hn : ∀ q, q < T.length → ¬ FreeP m T (T.getD q 0)) : ¬ Can m T := fun h => by
  obtain ⟨x, hx, hf⟩ := h.free hT
  obtain ⟨q, hq, rfl⟩ := List.mem_iff_getElem.1 hx
  exact hn q hq (by rw [List.getD_eq_getElem?_getD, List.getElem?_eq_getElem hq]; exact hf)
def pwA (ss : List Sg) (c : Int) : Nat → List Int
  | 0 => []
  | i + 1 => pwA ss c i ++ if (ss.getD i sg0).k = c then [(ss.getD i sg0).w] else []
def pwK (m : Md) (c : Int) : List Int := if m.ss.length ≤ 30 then pwA m.ss c m.ss.length else []
theorem nJ (ss : List Sg) (c : Int) : ∀ i, (pwA ss c i).length ≤ i
  | 0 => Nat.le_refl _
  | i + 1 => by
    have := nJ ss c i
    unfold pwA; rw [List.length_append]; split <;> simp <;> omega
theorem rR {ss : List Sg} {c : Int} {i : Nat} (h : (ss.getD i sg0).k = c) : pwA ss c i ++ [(ss.getD i sg0).w] = pwA ss c (i + 1) := by
  show _ = pwA ss c i ++ if _ then _ else _
  rw [if_pos h]
theorem uX {ss : List Sg} {c : Int} {i : Nat} (h : ¬ (ss.getD i sg0).k = c) : pwA ss c i = pwA ss c (i + 1) := by
  show _ = pwA ss c i ++ if _ then _ else _
  rw [if_neg h, List.append_nil]
theorem kU (m : Md) (c : Int) : (pwK m c).length ≤ 30 := by
  unfold pwK; split
  · have := nJ m.ss c m.ss.length; omega
  · simp
theorem vV {ss : List Sg} {c : Int} (h : ∀ q, q < ss.length → 0 ≤ (ss.getD q sg0).w ∧ (ss.getD q sg0).w ≤ 4) : ∀ i, i ≤ ss.length → ∀ x ∈ pwA ss c i, 0 ≤ x ∧ x ≤ 4
  | 0, _, x, hx => by cases hx
  | i + 1, hi, x, hx => by
    unfold pwA at hx
    rcases List.mem_append.1 hx with hx | hx
    · exact vV h i (by omega) x hx
    · split at hx
      · rw [List.mem_singleton] at hx; subst hx; exact h i (by omega)
      · cases hx
def sumA (L : List Int) : Nat → Int
  | 0 => 0
  | i + 1 => sumA L i + L.getD i 0
def sumZ (L : List Int) : Int := sumA L L.length
theorem mG {L : List Int} (h : ∀ x ∈ L, 0 ≤ x ∧ x ≤ 4) : ∀ i, i ≤ L.length → 0 ≤ sumA L i ∧ sumA L i ≤ 4 * i
  | 0, _ => ⟨Int.le_refl _, Int.le_refl _⟩
  | i + 1, hi => by
    have h1 := mG h i (by omega)
    have h2 := h _ (cV (d := (0 : Int)) (show i < L.length by omega))
    show 0 ≤ sumA L i + L.getD i 0 ∧ sumA L i + L.getD i 0 ≤ _
    omega
def moA (m : Md) : Nat → Int
  | 0 => 0
  | i + 1 => moA m i + (m.ss.getD (m.ms.getD i mm0).o.toNat sg0).w
def EoP (m : Md) : Prop := m.xs.length = 0 ∧ DesP [m] ∧ Can m (todoA m m.gs.length)
def MwP (m : Md) (x : Mm) : Prop := (m.ss.getD x.a.toNat sg0).w = 2 ∧ (m.ss.getD x.w.toNat sg0).w = 1 ∧ (m.ss.getD x.d.toNat sg0).w = (m.ss.getD x.o.toNat sg0).w
structure FlP (m : Md) : Prop where
  eo : EoP m
  wid : ∀ s, s < m.ss.length → (m.ss.getD s sg0).w ≠ 0
  par : ∀ i, i < m.gs.length → ¬ HpP (m.gs.getD i as0).os
  mem : ∀ i, i < m.ms.length → MwP m (m.ms.getD i mm0)
  ins : sumZ (pwK m 0) ≤ 8
  outs : sumZ (pwK m 1) ≤ 8
  bits : sumZ (pwK m 3) + moA m m.ms.length ≤ 12
noncomputable def eoK (m : Md) : List Int := if pB (EoP m) = true then ordK m (todoA m m.gs.length) else []
theorem mZ {m : Md} (h : EoP m) : eoK m = ordK m (todoA m m.gs.length) := if_pos (dG h)
theorem vJ {m : Md} (h : ¬ EoP m) : eoK m = [] := if_neg (by rw [bX h]; decide)
theorem EoP.mod {m : Md} (h : EoP m) : ModP [m] 0 := h.2.1.2 0 (by simp)
theorem oF {m : Md} (h : ModP [m] 0) {i j : Nat} (hi : i < m.gs.length) (hj : j < m.gs.length) (e : (m.gs.getD i as0).t = (m.gs.getD j as0).t) : i = j := by
  have key : ∀ {i j : Nat}, i < j → j < m.gs.length → (m.gs.getD i as0).t = (m.gs.getD j as0).t → False := fun {i j} hij hj e => by
    have hg := (h.gs j hj).1
    have hk : 0 ≤ (m.gs.getD j as0).t ∧ (m.gs.getD j as0).t < m.ss.length := Classical.byContradiction fun h9 => by
      have := fH h9; have h8 := hg.1; rw [show ([m] : List Md).getD 0 md0 = m from rfl] at h8; omega
    have h8 := hg.1
    rw [show ([m] : List Md).getD 0 md0 = m from rfl, dH hk] at h8
    have h1 := h.dr (m.gs.getD j as0).t.toNat (show (m.gs.getD j as0).t.toNat < m.ss.length by omega) (show (m.ss.getD (m.gs.getD j as0).t.toNat sg0).k ≠ 0 by omega)
    rw [Int.toNat_of_nonneg hk.1] at h1
    have h2 : (m.gs.map As.t).count (m.gs.getD j as0).t ≤ 1 := by
      unfold drvL at h1
      rw [List.count_append, List.count_append] at h1
      have h9 : ([m] : List Md).getD 0 md0 = m := rfl
      rw [h9] at h1; omega
    have h3 := pX (g := As.t) as0 (L := m.gs) hj rfl
    have h4 : 1 ≤ ((m.gs.take j).map As.t).count (m.gs.getD j as0).t := List.count_pos_iff.2 (List.mem_map.2 ⟨m.gs.getD i as0, by
      rw [List.getD_eq_getElem?_getD, List.getElem?_eq_getElem (by omega)]
      exact List.mem_take_iff_getElem.2 ⟨i, by omega, rfl⟩, e⟩)
    have h5 : ((m.gs.take (j + 1)).map As.t).count (m.gs.getD j as0).t ≤ (m.gs.map As.t).count (m.gs.getD j as0).t := ((List.take_sublist _ _).map _).count_le _
    omega
  rcases Nat.lt_trichotomy i j with h1 | h1 | h1
  · exact (key h1 hj e).elim
  · exact h1
  · exact (key h1 hi e.symm).elim
theorem DesP.zero : DesP [md0] := ⟨⟨by simp, by simp⟩, fun k hk => by
  obtain rfl : k = 0 := by have : k < 1 := hk; omega
  have h0 : ∀ {n : Nat}, n < 0 → False := fun h => by omega
  exact ⟨hk, ⟨by simp, fun q hq => by
    obtain rfl : q = 0 := by have : q < 1 := hq; omega
    exact ⟨Nat.zero_le _, Nat.zero_le _, Nat.zero_le _, Nat.zero_le _⟩⟩, fun i hi => (h0 hi).elim, fun i hi => (h0 hi).elim, fun i hi => (h0 hi).elim, fun i hi => (h0 hi).elim, fun i hi => (h0 hi).elim, fun i hi => (h0 hi).elim⟩⟩
theorem FlP.zero : FlP md0 := ⟨⟨rfl, DesP.zero, Can.nil _⟩, fun s hs => absurd hs (Nat.not_lt_zero _), fun s hs => absurd hs (Nat.not_lt_zero _), fun s hs => absurd hs (Nat.not_lt_zero _), by decide, by decide, by decide⟩
theorem nN {n : Int} {os : List Oq} (h : OpsP n os) : ∀ i, i < os.length → 1 ≤ needK os i
  | 0, _ => by unfold needK; omega
  | i + 1, hi => by
    have h1 := nN h i (by omega)
    have h2 := (h.op (i + 1) hi).1
    have h3 := (h.op i (by omega)).2
    have h4 : 0 ≤ arI (os.getD i oq0).k := by
      rcases h3 with ⟨e, -⟩ | ⟨e, -⟩ | ⟨e, -⟩ | ⟨-, -, -, e, -⟩
      · rw [e]; decide
      · rw [e]; decide
      · rw [e]; decide
      · exact e
    have h5 : needK os (i + 1) = needK os i + (arI (os.getD i oq0).k - 1) := rfl
    omega
theorem sU {n : Int} {os : List Oq} (h : OpsP n os) {i : Nat} (hi : i < os.length) : arI (os.getD i oq0).k = 0 ∨ arI (os.getD i oq0).k = 1 ∨ arI (os.getD i oq0).k = 2 ∨ arI (os.getD i oq0).k = 3 := by
  have h3 := (h.op i hi).2
  have h4 := oT (os.getD i oq0).k
  have h5 : 0 ≤ arI (os.getD i oq0).k := by
    rcases h3 with ⟨e, -⟩ | ⟨e, -⟩ | ⟨e, -⟩ | ⟨-, -, -, e, -⟩
    · rw [e]; decide
    · rw [e]; decide
    · rw [e]; decide
    · exact e
  omega
def WtP (os : List Oq) (tk : List Bl) : Prop := ∃ i, i < os.length ∧ ((os.getD i oq0).k = 2 ∨ (os.getD i oq0).k = 3) ∧ (tk.getD (os.getD i oq0).a.toNat bl0).b = true
def OpnP (m : Md) (zs : List Int) (tk : List Bl) : Prop := tk.length = m.ss.length ∧ ∀ s, s < m.ss.length → ((tk.getD s bl0).b = true ↔ ∃ y ∈ zs, (m.gs.getD y.toNat as0).t = (s : Int))
theorem kG {n : Int} {os : List Oq} (h : OpsP n os) {i : Nat} (hi : i < os.length) (hk : (os.getD i oq0).k = 2 ∨ (os.getD i oq0).k = 3) : 0 ≤ (os.getD i oq0).a ∧ (os.getD i oq0).a < n := by
  rcases (h.op i hi).2 with ⟨p1, p2, p3⟩ | ⟨p1, p2, p3⟩ | ⟨p1, p2, p3⟩ | ⟨p1, p2, p3, p4, p5, p6⟩
  all_goals omega
theorem OpnP.nil {m : Md} : OpnP m [] (List.replicate m.ss.length bl0) := ⟨List.length_replicate, fun s hs => by
  rw [List.getD_eq_getElem?_getD, List.getElem?_replicate, if_pos hs]
  exact ⟨fun h => absurd h (by decide), fun ⟨y, hy, _⟩ => by cases hy⟩⟩
theorem lJ {tk : List Bl} {a s : Nat} {b : Bl} (ha : a < tk.length) : (tk.set a b).getD s bl0 = if s = a then b else tk.getD s bl0 := by
  rw [List.getD_eq_getElem?_getD, List.getElem?_set, List.getD_eq_getElem?_getD]
  by_cases e : a = s
  · rw [if_pos e, if_pos e.symm, if_pos ha]; rfl
  · rw [if_neg e, if_neg (fun h => e h.symm)]
theorem OpnP.add {m : Md} {zs : List Int} {tk : List Bl} (h : OpnP m zs tk) {i : Nat} (ht : 0 ≤ (m.gs.getD i as0).t ∧ (m.gs.getD i as0).t < m.ss.length) : OpnP m (zs ++ [(i : Int)]) (tk.set (m.gs.getD i as0).t.toNat ⟨true⟩) := ⟨by rw [List.length_set]; exact h.1, fun s hs => by
  rw [lJ (by rw [h.1]; omega)]
  by_cases e : s = (m.gs.getD i as0).t.toNat
  · rw [if_pos e]
    exact ⟨fun _ => ⟨(i : Int), by simp, by rw [Int.toNat_natCast]; omega⟩, fun _ => rfl⟩
  · rw [if_neg e, h.2 s hs]
    constructor
    · rintro ⟨y, hy, h1⟩; exact ⟨y, List.mem_append_left _ hy, h1⟩
    · rintro ⟨y, hy, h1⟩
      rcases List.mem_append.1 hy with hy | hy
      · exact ⟨y, hy, h1⟩
      · rw [List.mem_singleton] at hy; subst hy; rw [Int.toNat_natCast] at h1; omega⟩
theorem mD {m : Md} {zs : List Int} {tk : List Bl} (h : OpnP m zs tk) {os : List Oq} (hos : OpsP m.ss.length os) : ¬ WtP os tk ↔ ∀ y ∈ zs, ¬ RdS os (m.gs.getD y.toNat as0).t := by
  constructor
  · rintro hn y hy ⟨i, hi, hk, ha⟩
    have hr := kG hos hi hk
    exact hn ⟨i, hi, hk, (h.2 (os.getD i oq0).a.toNat (by omega)).2 ⟨y, hy, by omega⟩⟩
  · rintro hf ⟨i, hi, hk, hb⟩
    have hr := kG hos hi hk
    obtain ⟨y, hy, ht⟩ := (h.2 (os.getD i oq0).a.toNat (by omega)).1 hb
    exact hf y hy ⟨i, hi, hk, by omega⟩
theorem zE {m : Md} (hm : DesP [m]) {zs : List Int} {tk : List Bl} (h : OpnP m zs tk) (hz : ∀ y ∈ zs, 0 ≤ y ∧ y < m.gs.length) {i : Nat} (hi : i < m.gs.length) (hb : (tk.getD (m.gs.getD i as0).t.toNat bl0).b = true) : (i : Int) ∈ zs := by
  have ht := ((hm.gs1 hi).tgt).1
  obtain ⟨y, hy, e⟩ := (h.2 (m.gs.getD i as0).t.toNat (by omega)).1 hb
  have h1 := hz y hy
  have h2 := oF (hm.2 0 (by simp)) (i := y.toNat) (j := i) (by omega) hi (by omega)
  rw [show (i : Int) = y by omega]; exact hy
theorem OpnP.del {m : Md} (hm : DesP [m]) {zs : List Int} {tk : List Bl} (h : OpnP m zs tk) (hz : ∀ y ∈ zs, 0 ≤ y ∧ y < m.gs.length) (hnd : zs.Nodup) {i : Nat} (hi : i < m.gs.length) : OpnP m (zs.erase (i : Int)) (tk.set (m.gs.getD i as0).t.toNat ⟨false⟩) := by
  have ht := ((hm.gs1 hi).tgt).1
  refine ⟨by rw [List.length_set]; exact h.1, fun s hs => ?_⟩
  rw [lJ (by rw [h.1]; omega)]
  by_cases e : s = (m.gs.getD i as0).t.toNat
  · rw [if_pos e]
    refine ⟨fun h9 => absurd h9 (by decide), fun ⟨y, hy, h1⟩ => ?_⟩
    obtain ⟨h3, h4⟩ := (hnd.mem_erase_iff).1 hy
    have h5 := hz y h4
    have h6 := oF (hm.2 0 (by simp)) (i := y.toNat) (j := i) (by omega) hi (by omega)
    omega
  · rw [if_neg e, h.2 s hs]
    constructor
    · rintro ⟨y, hy, h1⟩
      refine ⟨y, hnd.mem_erase_iff.2 ⟨fun e9 => ?_, hy⟩, h1⟩
      subst e9; rw [Int.toNat_natCast] at h1; omega
    · rintro ⟨y, hy, h1⟩; exact ⟨y, (hnd.mem_erase_iff.1 hy).2, h1⟩
theorem Can.backE {m : Md} {T : List Int} {x : Int} (hx : x ∈ T) (hnd : T.Nodup) (hf : FreeP m T x) (h : Can m (T.erase x)) : Can m T := by
  obtain ⟨f, h⟩ := h
  refine ⟨fun z => if z = x then 0 else f z + 1, fun a ha b hb hr => ?_⟩
  show (if b = _ then 0 else f b + 1) < (if a = _ then 0 else f a + 1)
  by_cases ea : a = x
  · rw [ea] at hr; exact absurd hr (hf b hb)
  · rw [if_neg ea]
    by_cases eb : b = x
    · rw [if_pos eb]; omega
    · rw [if_neg eb]; have := h a (hnd.mem_erase_iff.2 ⟨ea, ha⟩) b (hnd.mem_erase_iff.2 ⟨eb, hb⟩) hr; omega
theorem mR {m : Md} (hm : DesP [m]) {zs : List Int} {tk : List Bl} (h : OpnP m zs tk) (hz : ∀ y ∈ zs, 0 ≤ y ∧ y < m.gs.length) (h0 : zs ≠ []) (hn : ∀ i, i < m.gs.length → ¬ ((tk.getD (m.gs.getD i as0).t.toNat bl0).b = true ∧ ¬ WtP (m.gs.getD i as0).os tk)) : ¬ Can m zs := fun hc => by
  obtain ⟨x, hx, hf⟩ := hc.free h0
  have h1 := hz x hx
  have hg := hm.gs1 (i := x.toNat) (by omega)
  exact hn x.toNat (by omega) ⟨(h.2 _ (by have := hg.tgt.1; omega)).2 ⟨x, hx, by have := hg.tgt.1; omega⟩, (mD h hg.2).2 hf⟩
section
variable {P : Program} {N : Nat} {w0 : World} {l : List HP} {env : List (Nat × Value)} {Q : Post}
theorem iR {α β γ δ ε : Type} {c : Code} (L : α → β → γ → δ → ε → List HP) (E : α → β → γ → δ → ε → List (Nat × Value)) (G : α → β → γ → δ → ε → Prop) (m : α → β → γ → δ → ε → Nat) (x0 : α) (y0 : β) (z0 : γ) (u0 : δ) (v0 : ε) (hG : G x0 y0 z0 u0 v0) (hs : sub (E x0 y0 z0 u0 v0) env) (hl : (L x0 y0 z0 u0 v0).Sublist l)
    (round : ∀ x y z u v, G x y z u v → HC P N w0 (L x y z u v) (E x y z u v) c (Exit.then (fun a' w' => ∃ x' y' z' u' v', G x' y' z' u' v' ∧ m x' y' z' u' v' < m x y z u v ∧ St N w0 (L x' y' z' u' v') (E x' y' z' u' v') a' w') Q)) : HC P N w0 l env (.loop c) Q :=
  mY (fun q : α × β × γ × δ × ε => L q.1 q.2.1 q.2.2.1 q.2.2.2.1 q.2.2.2.2) (fun q => E q.1 q.2.1 q.2.2.1 q.2.2.2.1 q.2.2.2.2) (fun q => G q.1 q.2.1 q.2.2.1 q.2.2.2.1 q.2.2.2.2) (fun q => m q.1 q.2.1 q.2.2.1 q.2.2.2.1 q.2.2.2.2) (x0, y0, z0, u0, v0) hG hs hl (fun q hq a w st => wp_mono (round q.1 q.2.1 q.2.2.1 q.2.2.2.1 q.2.2.2.2 hq a w st) fun e a' w' h => by
    cases e with
    | normal => obtain ⟨x', y', z', u', v', h1, h2, h3⟩ := h; exact ⟨(x', y', z', u', v'), h1, h2, h3⟩
    | exit id => exact h
    | goto l => exact h
    | ret => exact h
    | panic ch => exact h
    | outgrown => exact h)
theorem fX {α β γ δ ε : Type} {L : α → β → γ → δ → ε → List HP} {E : α → β → γ → δ → ε → List (Nat × Value)} {G : α → β → γ → δ → ε → Prop} {m : α → β → γ → δ → ε → Nat} {M : Nat} (x' : α) (y' : β) (z' : γ) (u' : δ) (v' : ε) (hG : G x' y' z' u' v') (hm : m x' y' z' u' v' < M) (hs : sub (E x' y' z' u' v') env) (hl : (L x' y' z' u' v').Sublist l) :
    HQ N w0 l env .normal (Exit.then (fun a' w' => ∃ x' y' z' u' v', G x' y' z' u' v' ∧ m x' y' z' u' v' < M ∧ St N w0 (L x' y' z' u' v') (E x' y' z' u' v') a' w') Q) := fun a w st => ⟨x', y', z', u', v', hG, hm, st.less hs hl⟩
end
def wmK (w : Int) : Int := 1 * 2 ^ w.toNat - 1
theorem iS {w : Int} (h : 0 ≤ w ∧ w ≤ 4) : 1 ≤ 1 * (2 : Int) ^ w.toNat ∧ 1 * (2 : Int) ^ w.toNat ≤ 16 := by
  rcases (by omega : w = 0 ∨ w = 1 ∨ w = 2 ∨ w = 3 ∨ w = 4) with rfl | rfl | rfl | rfl | rfl <;> decide
def stR (m : Md) (i : Nat) : List Bl := (List.range m.ss.length).map (fun s => ⟨decide (s < i ∧ (m.ss.getD s sg0).k = 3)⟩)
def stM (m : Md) : Nat → List Bl
  | 0 => stR m m.ss.length
  | j + 1 => (stM m j).set (m.ms.getD j mm0).o.toNat ⟨true⟩
theorem mJ (m : Md) (i : Nat) : (stR m i).length = m.ss.length := by unfold stR; rw [List.length_map, List.length_range]
theorem oH (m : Md) : ∀ j, (stM m j).length = m.ss.length
  | 0 => mJ m _
  | j + 1 => by unfold stM; rw [List.length_set, oH m j]
theorem stR_0 (m : Md) : stR m 0 = List.replicate m.ss.length bl0 := by
  refine List.ext_getElem (by rw [mJ, List.length_replicate]) (fun s h1 h2 => ?_)
  unfold stR; simp
theorem sY {m : Md} {i : Nat} (hi : i < m.ss.length) : (stR m i).set i ⟨decide ((m.ss.getD i sg0).k = 3)⟩ = stR m (i + 1) := by
  refine List.ext_getElem (by rw [List.length_set, mJ, mJ]) (fun s h1 h2 => ?_)
  rw [List.getElem_set]
  unfold stR
  simp only [List.getElem_map, List.getElem_range]
  by_cases e : i = s
  · subst e; rw [if_pos rfl]; congr 1; simp
  · rw [if_neg e]; congr 1
    by_cases e2 : s < i
    · simp [e2, show s < i + 1 by omega]
    · simp [e2, show ¬ s < i + 1 by omega]
theorem jR (x : Int) (w : World) (hw : 0 ≤ x ∧ x ≤ 4) :
   Calls Try.prog 64 #[.int .i64 x] w (Ans w (.int .i64 (wmK x))) := by
 have hw9 := iS hw
 refine bW (N := 7) (args := [jI x]) Try.func64 C C (bA 1 C (aF (cG 1 C (aI C (vT C Try.underlying3 Try.underlying154 C (IntWalk.u64_in _ (by omega))) (aI C (lU (kk' := .i64) C C C (by omega) (by constructor <;> omega)) (aI C (nC C C C) (aH 1 C ?_)))))))
 refine bQ ?_
 exact aN (aX C C C)
theorem yH {P : Program} {N : Nat} {w0 : World} {l : List HP} {env : List (Nat × Value)} {o : Oper} {t : TypeId} {x : Operand} {m : Int} (ho : o.op = .unOp .xor t x) (hx : ev env x = some (.int .i64 m)) : RunV P N w0 l env o (.int .i64 (bits .xor .i64 (-1) m)) := fun a w st => by
  simp [execOp, ho, st.eval hx, Op.unary]; rfl
def opV (o : Oq) (vs L : List Int) : Int :=
  if o.k = 0 then o.a else if o.k = 2 then vs.getD o.a.toNat 0 else if o.k = 3 then bits .and .i64 (vs.getD o.a.toNat 0 / 2 ^ o.b.toNat) 1
  else if o.k = 4 then bits .xor .i64 (-1) (L.getD 0 0) else if o.k = 5 then bits .and .i64 (L.getD 0 0) (L.getD 1 0) else if o.k = 6 then bits .or .i64 (L.getD 0 0) (L.getD 1 0) else if o.k = 7 then bits .xor .i64 (L.getD 0 0) (L.getD 1 0)
  else if o.k = 8 then L.getD 0 0 + L.getD 1 0 else if o.k = 9 then L.getD 0 0 - L.getD 1 0 else if o.k = 10 then (if L.getD 0 0 = L.getD 1 0 then 1 else 0) else if o.k = 11 then (if L.getD 0 0 < L.getD 1 0 then 1 else 0)
  else if o.k = 12 then (if L.getD 0 0 ≠ 0 then L.getD 1 0 else L.getD 2 0) else 0
def argE (g : Nat → Int × Nat) (p : Nat) : Nat → List Int × Nat
  | 0 => ([], p)
  | i + 1 => ((argE g p i).1 ++ [(g (argE g p i).2).1], (g (argE g p i).2).2)
def evE (os : List Oq) (vs : List Int) (x : Int) : Nat → Nat → Int × Nat
  | 0, p => (0, p)
  | f + 1, p => (bits .and .i64 (opV (os.getD p oq0) vs (argE (evE os vs x f) (p + 1) (arI (os.getD p oq0).k).toNat).1) (wmK x), (argE (evE os vs x f) (p + 1) (arI (os.getD p oq0).k).toNat).2)
theorem uQ (g : Nat → Int × Nat) (p : Nat) : ∀ i, (argE g p i).1.length = i
  | 0 => rfl
  | i + 1 => by
    show ((argE g p i).1 ++ [_]).length = _
    rw [List.length_append, uQ g p i]; rfl
theorem kM {n : Int} {os : List Oq} (h : OpsP n os) {g : Nat → Int × Nat} {p : Nat} (hp : p < os.length) (hg : ∀ q, p < q → q < os.length → q < (g q).2 ∧ (g q).2 ≤ os.length ∧ needK os (g q).2 = needK os q - 1) : ∀ i : Nat, (i : Int) ≤ arI (os.getD p oq0).k → p < (argE g (p + 1) i).2 ∧ (argE g (p + 1) i).2 ≤ os.length ∧ needK os (argE g (p + 1) i).2 = needK os p + arI (os.getD p oq0).k - 1 - i
  | 0, hi => by
    have h5 : needK os (p + 1) = needK os p + (arI (os.getD p oq0).k - 1) := rfl
    show p < p + 1 ∧ p + 1 ≤ _ ∧ needK os (p + 1) = _
    exact ⟨by omega, by omega, by omega⟩
  | i + 1, hi => by
    obtain ⟨a1, a2, a3⟩ := kM h hp hg i (by omega)
    have h1 := nN h p hp
    have hlt : (argE g (p + 1) i).2 < os.length := by
      rcases Nat.lt_or_ge (argE g (p + 1) i).2 os.length with h8 | h8
      · exact h8
      · have e : (argE g (p + 1) i).2 = os.length := by omega
        rw [e, h.fin] at a3; omega
    obtain ⟨b1, b2, b3⟩ := hg _ a1 hlt
    show p < (g _).2 ∧ (g _).2 ≤ _ ∧ needK os (g _).2 = _
    exact ⟨by omega, b2, by omega⟩
theorem oS {n : Int} {os : List Oq} (h : OpsP n os) {g : Nat → Int × Nat} {p : Nat} (hp : p < os.length) (hg : ∀ q, p < q → q < os.length → q < (g q).2 ∧ (g q).2 ≤ os.length ∧ needK os (g q).2 = needK os q - 1) (i : Nat) (hi : (i : Int) < arI (os.getD p oq0).k) : (argE g (p + 1) i).2 < os.length := by
  obtain ⟨a1, a2, a3⟩ := kM h hp hg i (by omega)
  have h1 := nN h p hp
  rcases Nat.lt_or_ge (argE g (p + 1) i).2 os.length with h8 | h8
  · exact h8
  · have e : (argE g (p + 1) i).2 = os.length := by omega
    rw [e, h.fin] at a3; omega
theorem vI {n : Int} {os : List Oq} (h : OpsP n os) (vs : List Int) (x : Int) : ∀ (f p : Nat), os.length - p ≤ f → p < os.length → p < (evE os vs x f p).2 ∧ (evE os vs x f p).2 ≤ os.length ∧ needK os (evE os vs x f p).2 = needK os p - 1
  | 0, p, hf, hp => by omega
  | f + 1, p, hf, hp => by
    have h4 := sU h hp
    obtain ⟨a1, a2, a3⟩ := kM h hp (g := evE os vs x f) (fun q h1 h2 => vI h vs x f q (by omega) h2) (arI (os.getD p oq0).k).toNat (by omega)
    show p < (argE _ _ _).2 ∧ (argE _ _ _).2 ≤ _ ∧ needK os (argE _ _ _).2 = _
    exact ⟨a1, a2, by omega⟩
def ouA (ss : List Sg) (V : List Int) : Nat → List Int
  | 0 => []
  | i + 1 => ouA ss V i ++ if (ss.getD i sg0).k = 1 then [V.getD i 0] else []
def ouK (m : Md) (V : List Int) : List Int := ouA m.ss V m.ss.length
theorem uZ (ss : List Sg) (V : List Int) : ∀ i, (ouA ss V i).length ≤ i
  | 0 => Nat.le_refl _
  | i + 1 => by
    have := uZ ss V i
    unfold ouA; rw [List.length_append]; split <;> simp <;> omega
theorem vZ {ss : List Sg} {V : List Int} {i : Nat} (h : (ss.getD i sg0).k = 1) : ouA ss V i ++ [V.getD i 0] = ouA ss V (i + 1) := by
  show _ = ouA ss V i ++ if _ then _ else _
  rw [if_pos h]
theorem zB {ss : List Sg} {V : List Int} {i : Nat} (h : ¬ (ss.getD i sg0).k = 1) : ouA ss V i = ouA ss V (i + 1) := by
  show _ = ouA ss V i ++ if _ then _ else _
  rw [if_neg h, List.append_nil]
theorem nK (m : Md) (V : List Int) (u : Value) (w : World) (hr : RdsMd w m) (hu : RdsW w u 1 V.length (V.map (Value.int .i64))) (hV : V.length = m.ss.length) (hss : m.ss.length ≤ 30) :
   Calls Try.prog 61 #[.agg #[m.sv, m.av, m.iv, m.mv], u] w (Ret w (fun v' post => post = [rI9 3 v' (ouK m V)])) := by
 have hs9 := gL hr.s
 refine bW (N := 28) (args := [.agg #[m.sv, m.av, m.iv, m.mv], u]) Try.func61 C C (cA ?_)
 refine cL C (cY C C) ?_
 intro b1
 refine eC 3 1 (aP 1 C (cA ?_))
 refine eC 3 1 (aP 1 C (eM (aI C (bM 0 C C C) (aI C (aC C C C (aA 2 C C)) (aI C (dL C C C (aD ((hr).s))) (aP 1 C ?_))))))
 refine bD ?_
 refine jC (α := Nat) (β := Value) (γ := List Int) [0, 1, 2, 4, 9, 10] C (fun i gu zs => [rI9 3 gu zs, rowE 3 1 (.slice none 0 0) 0 ([]), boxE b1 #[m.sv, m.av, m.iv, m.mv] 35]) (fun i gu zs => [(5, gu), (11, jI (i : Int))]) (fun i gu zs => i ≤ m.ss.length ∧ zs = ouA m.ss V i) (fun i gu zs => m.ss.length - i) 0 _ [] ⟨Nat.zero_le _, C⟩ (cN C) (eT C) ?_
 intro i gu zs hi4
 obtain ⟨hi, hz⟩ := hi4
 have hzl : zs.length ≤ i := by rw [hz]; exact uZ _ _ _
 refine cA ?_
 refine bN C C C C C C (fun h5 => ?_) (fun h5 => ?_)
 refine bQ (jX C (cE (fD (aF (cG 1 C (aI C (cR 3 C C C C (aD ((hr).s))) ?_))))))
 refine aI C (bL (us := [jI ((m.ss.getD i sg0).k), jI ((m.ss.getD i sg0).w), jI ((m.ss.getD i sg0).i)]) C C C C (aD ((hr).s)) (by omega) C (bY sgC 3 (fun _ => C) m.ss sg0 (show i < _ by omega) C)) (cL C (bG (z := .agg #[jI 0, jI 0, jI 0]) C C) ?_)
 intro b6
 refine aH 1 C (bE (cs' := #[jI ((m.ss.getD i sg0).k), jI ((m.ss.getD i sg0).w), jI ((m.ss.getD i sg0).i)]) (i := 0) (off := 0) (us := [jI ((m.ss.getD i sg0).k), jI ((m.ss.getD i sg0).w), jI ((m.ss.getD i sg0).i)]) C C C C C C C (aB C (aB C (aB C bC))) C C C ?_)
 refine bQ (cA (aI C (bM 0 C C C) (aI C (aC C C C (aA 0 C C)) ?_)))
 refine bU C C C C C C (fun h7 => ?_) (fun h7 => ?_)
 refine bQ (aK C (cG 3 C (aI C (cR 1 C C C C (aD hu)) (aI C (qD C C C (aD hu)) ?_))))
 refine eA C (bB (z := jI 0) (s := 1) (cs := (mI [V.getD i 0])) C Try.underlying48 C (by decide) C (by kernel_rfl) C) ?_
 intro g8
 refine cW (i := 2) (z := jI 0) (bytes := 8) C C C C Try.underlying48 (by kernel_rfl) C C C C (aJ 0 C) (cQ _) (by first | omega | (simp; done) | (simp; omega)) (cM zs ([V.getD i 0])) (dP zs ([V.getD i 0])) (fun _ => C) ?_
 intro v9
 refine dA 1 C (cK (aO (aI C (dO C C C) (dA 1 C ?_))))
 exact cO (i + 1) v9 (zs ++ ([V.getD i 0])) ⟨by omega, by rw [hz]; exact vZ (by omega)⟩ (by omega) (cN rfl) (eO [2, 0, 0] rfl)
 refine bQ (gM C (cK (aO (aI C (dO C C C) (dA 1 C ?_)))))
 exact cO (i + 1) gu zs ⟨by omega, hz.trans (zB (by omega))⟩ (by omega) (cN C) (eO [1, 0, 0] C)
 refine bQ (kD C ?_)
 refine bI (dC ?_)
 refine aM (aR (bA 2 C ?_))
 exact aN (gE (post := [rI9 3 gu zs]) C C (eO [0] C) (by rw [hz, show i = m.ss.length by omega]; rfl))
structure VlP (m : Md) (vs : List Int) : Prop where
  len : vs.length = m.ss.length
  rng : ∀ s, s < m.ss.length → 0 ≤ vs.getD s 0 ∧ vs.getD s 0 ≤ wmK (m.ss.getD s sg0).w
structure WwP (m : Md) (ws : List Int) : Prop where
  len : ws.length = 4 * m.ms.length
  rng : ∀ i, i < ws.length → 0 ≤ ws.getD i 0 ∧ ws.getD i 0 ≤ wmK (m.ss.getD (m.ms.getD ((i : Int) / 4).toNat mm0).d.toNat sg0).w
def stB (m : Md) (s : Nat) : Bool := ((stM m m.ms.length).getD s bl0).b
structure WsP (m : Md) (vs ws : List Int) : Prop where
  fl : FlP m
  v : VlP m vs
  w : WwP m ws
  z : ∀ s, s < m.ss.length → stB m s = false → vs.getD s 0 = 0
theorem pA {m : Md} {s : Nat} : ∀ j, ((stM m 0).getD s bl0).b = true → ((stM m j).getD s bl0).b = true
  | 0, h => h
  | j + 1, h => by
    show (((stM m j).set _ _).getD s bl0).b = true
    by_cases e : (m.ms.getD j mm0).o.toNat < (stM m j).length
    · rw [lJ e]; split
      · rfl
      · exact pA j h
    · rw [List.set_eq_of_length_le (by omega)]; exact pA j h
theorem rL {m : Md} {k : Nat} (hk : (m.ms.getD k mm0).o.toNat < m.ss.length) : ∀ j, k < j → ((stM m j).getD (m.ms.getD k mm0).o.toNat bl0).b = true
  | 0, h => absurd h (by omega)
  | j + 1, h => by
    show (((stM m j).set _ _).getD _ bl0).b = true
    by_cases e : (m.ms.getD j mm0).o.toNat < (stM m j).length
    · rw [lJ e]; split
      · rfl
      · rename_i hne
        by_cases e2 : k = j
        · subst e2; exact absurd rfl hne
        · exact rL hk j (by omega)
    · rw [List.set_eq_of_length_le (by omega)]
      by_cases e2 : k = j
      · subst e2; rw [oH] at e; exact absurd hk e
      · exact rL hk j (by omega)
theorem vN {m : Md} {s : Nat} (hs : s < m.ss.length) (h : (m.ss.getD s sg0).k = 3) : stB m s = true := by
  refine pA _ ?_
  show ((stR m m.ss.length).getD s bl0).b = true
  unfold stR
  rw [List.getD_eq_getElem?_getD, List.getElem?_map, List.getElem?_range hs]
  show decide _ = true
  rw [decide_eq_true_eq]; exact ⟨hs, h⟩
theorem Ar {m : Md} {k : Nat} (hk : k < m.ms.length) (ho : 0 ≤ (m.ms.getD k mm0).o ∧ (m.ms.getD k mm0).o < m.ss.length) : stB m (m.ms.getD k mm0).o.toNat = true := rL (by omega) _ hk
theorem rH {x w : Int} (h : 0 ≤ w ∧ w ≤ 4) : 0 ≤ bits .and .i64 x (wmK w) ∧ bits .and .i64 x (wmK w) ≤ wmK w := by
  have h1 := iS h
  exact lL _ _ (by unfold wmK; omega) (by unfold wmK; omega)
theorem qP {w : Int} (h : 0 ≤ w ∧ w ≤ 4) : 0 ≤ wmK w ∧ wmK w ≤ 15 := by
  have h1 := iS h; unfold wmK; omega
def evK (os : List Oq) (vs : List Int) (x : Int) : Int := (evE os vs x os.length 0).1
theorem uI {os : List Oq} {vs : List Int} {x : Int} (hp : 0 < os.length) (hx : 0 ≤ x ∧ x ≤ 4) : 0 ≤ evK os vs x ∧ evK os vs x ≤ wmK x := by
  unfold evK
  obtain ⟨n, e⟩ : ∃ n, os.length = n + 1 := ⟨os.length - 1, by omega⟩
  rw [e]; exact rH hx
def staA (m : Md) : Nat → List Int
  | 0 => List.replicate m.ss.length 0
  | i + 1 => if (m.ss.getD i sg0).k = 3 then (staA m i).set i (bits .and .i64 (m.ss.getD i sg0).i (wmK (m.ss.getD i sg0).w)) else staA m i
def staV (m : Md) : List Int := staA m m.ss.length
def staW (m : Md) : List Int := List.replicate (4 * m.ms.length) 0
theorem kQ (m : Md) : ∀ i, (staA m i).length = m.ss.length
  | 0 => List.length_replicate
  | i + 1 => by unfold staA; split <;> simp [kQ m i]
theorem fR {l : List Int} {a s : Nat} {b : Int} (ha : a < l.length) : (l.set a b).getD s 0 = if s = a then b else l.getD s 0 := by
  rw [List.getD_eq_getElem?_getD, List.getElem?_set, List.getD_eq_getElem?_getD]
  by_cases e : a = s
  · rw [if_pos e, if_pos e.symm, if_pos ha]; rfl
  · rw [if_neg e, if_neg (fun h => e h.symm)]
theorem iA (n s : Nat) : (List.replicate n (0 : Int)).getD s 0 = 0 := by
  rw [List.getD_eq_getElem?_getD, List.getElem?_replicate]; split <;> rfl
theorem VlP.set {m : Md} {vs : List Int} (h : VlP m vs) {s : Nat} (hs : s < m.ss.length) {x : Int} (hx : 0 ≤ x ∧ x ≤ wmK (m.ss.getD s sg0).w) : VlP m (vs.set s x) := ⟨by rw [List.length_set]; exact h.len, fun q hq => by
  rw [fR (by rw [h.len]; exact hs)]
  split
  · rename_i e; subst e; exact hx
  · exact h.rng q hq⟩
theorem FlP.sw {m : Md} (h : FlP m) {s : Nat} (hs : s < m.ss.length) : 0 ≤ (m.ss.getD s sg0).w ∧ (m.ss.getD s sg0).w ≤ 4 := (h.eo.mod.sg s hs).2.1
theorem FlP.lens {m : Md} (h : FlP m) : m.ss.length ≤ 30 ∧ m.gs.length ≤ 30 ∧ m.ms.length ≤ 2 := by
  have := h.eo.2.1.len1; exact ⟨this.1, this.2.1, this.2.2.2⟩
theorem VlP.zero {m : Md} (h : FlP m) : VlP m (List.replicate m.ss.length 0) := ⟨List.length_replicate, fun s hs => by
  rw [iA]; exact ⟨Int.le_refl _, (qP (h.sw hs)).1⟩⟩
theorem rI {m : Md} (h : FlP m) : ∀ i, i ≤ m.ss.length → VlP m (staA m i) ∧ ∀ s, s < m.ss.length → stB m s = false → (staA m i).getD s 0 = 0
  | 0, _ => ⟨VlP.zero h, fun s hs _ => iA _ _⟩
  | i + 1, hi => by
    obtain ⟨h1, h2⟩ := rI h i (by omega)
    unfold staA; split
    · rename_i hk
      refine ⟨h1.set (by omega) (rH (h.sw (by omega))), fun s hs hb => ?_⟩
      rw [fR (by rw [h1.len]; omega)]; split
      · rename_i e; subst e; rw [vN hs hk] at hb; cases hb
      · exact h2 s hs hb
    · exact ⟨h1, h2⟩
theorem oZ {m : Md} {i : Nat} (h : (m.ss.getD i sg0).k = 3) : (staA m i).set i (bits .and .i64 (m.ss.getD i sg0).i (wmK (m.ss.getD i sg0).w)) = staA m (i + 1) := by
  show _ = if _ then _ else _
  rw [if_pos h]
theorem rJ {m : Md} {i : Nat} (h : ¬ (m.ss.getD i sg0).k = 3) : staA m i = staA m (i + 1) := by
  show _ = if _ then _ else _
  rw [if_neg h]
theorem WsP.start {m : Md} (h : FlP m) : WsP m (staV m) (staW m) := ⟨h, (rI h _ (Nat.le_refl _)).1, ⟨List.length_replicate, fun i hi => by
    unfold staW at *
    rw [List.length_replicate] at hi
    rw [iA]
    have hm := h.eo.mod.ms ((i : Int) / 4).toNat (show ((i : Int) / 4).toNat < m.ms.length by omega)
    have hd : 0 ≤ (m.ms.getD ((i : Int) / 4).toNat mm0).d ∧ (m.ms.getD ((i : Int) / 4).toNat mm0).d < m.ss.length := hm.1.2.1
    exact ⟨Int.le_refl _, (qP (h.sw (s := (m.ms.getD ((i : Int) / 4).toNat mm0).d.toNat) (by omega))).1⟩⟩, (rI h _ (Nat.le_refl _)).2⟩
def inA (m : Md) (ins vs : List Int) : Nat → List Int × Nat
  | 0 => (vs, 0)
  | i + 1 => if (m.ss.getD i sg0).k = 0 then ((inA m ins vs i).1.set i (bits .and .i64 (ins.getD (inA m ins vs i).2 0) (wmK (m.ss.getD i sg0).w)), (inA m ins vs i).2 + 1) else inA m ins vs i
theorem sG {m : Md} {ins vs zs : List Int} {i k : Nat} (hz : zs = (inA m ins vs i).1) (hk : k = (inA m ins vs i).2) (h : (m.ss.getD i sg0).k = 0) : zs.set i (bits .and .i64 (ins.getD k 0) (wmK (m.ss.getD i sg0).w)) = (inA m ins vs (i + 1)).1 ∧ k + 1 = (inA m ins vs (i + 1)).2 := by
  have e : inA m ins vs (i + 1) = ((inA m ins vs i).1.set i (bits .and .i64 (ins.getD (inA m ins vs i).2 0) (wmK (m.ss.getD i sg0).w)), (inA m ins vs i).2 + 1) := by
    show (if _ then _ else _) = _
    rw [if_pos h]
  rw [e, hz, hk]; exact ⟨rfl, rfl⟩
theorem vF {m : Md} {ins vs zs : List Int} {i k : Nat} (hz : zs = (inA m ins vs i).1) (hk : k = (inA m ins vs i).2) (h : ¬ (m.ss.getD i sg0).k = 0) : zs = (inA m ins vs (i + 1)).1 ∧ k = (inA m ins vs (i + 1)).2 := by
  have e : inA m ins vs (i + 1) = inA m ins vs i := by
    show (if _ then _ else _) = _
    rw [if_neg h]
  rw [e]; exact ⟨hz, hk⟩
theorem lI (m : Md) (ins vs : List Int) : ∀ i, (inA m ins vs i).2 = (pwA m.ss 0 i).length
  | 0 => rfl
  | i + 1 => by
    unfold inA pwA; rw [List.length_append]; split <;> simp [lI m ins vs i]
theorem yP (ss : List Sg) (c : Int) {i j : Nat} (h : i ≤ j) : (pwA ss c i).length ≤ (pwA ss c j).length := by
  induction h with
  | refl => exact Nat.le_refl _
  | step h ih => exact Nat.le_trans ih (by show _ ≤ (pwA ss c _ ++ _).length; rw [List.length_append]; exact Nat.le_add_right _ _)
theorem uY {ss : List Sg} {c : Int} {i : Nat} (h : (ss.getD i sg0).k = c) {n : Nat} (hn : i < n) : (pwA ss c i).length < (pwA ss c n).length := by
  have h1 := yP ss c (show i + 1 ≤ n from hn)
  have h2 : (pwA ss c (i + 1)).length = (pwA ss c i).length + 1 := by rw [← rR h, List.length_append]; rfl
  omega
theorem kY {m : Md} (h : FlP m) {ins vs : List Int} (hv : VlP m vs) : ∀ i, i ≤ m.ss.length → VlP m (inA m ins vs i).1
  | 0, _ => hv
  | i + 1, hi => by
    have h1 := kY h (ins := ins) hv i (by omega)
    unfold inA; split
    · exact h1.set (by omega) (rH (h.sw (by omega)))
    · exact h1
def asgK (m : Md) (vs : List Int) (x : Int) : List Int := vs.set (m.gs.getD x.toNat as0).t.toNat (evK (m.gs.getD x.toNat as0).os vs (m.ss.getD (m.gs.getD x.toNat as0).t.toNat sg0).w)
def ordV (m : Md) (ord vs : List Int) : Nat → List Int
  | 0 => vs
  | j + 1 => asgK m (ordV m ord vs j) (ord.getD j 0)
noncomputable def sgK (m : Md) (vs ins : List Int) : List Int := ordV m (eoK m) (inA m ins vs m.ss.length).1 (eoK m).length
theorem FlP.as {m : Md} (h : FlP m) {i : Nat} (hi : i < m.gs.length) : ((0 ≤ (m.gs.getD i as0).t ∧ (m.gs.getD i as0).t < m.ss.length) ∧ 1 ≤ (m.ss.getD (m.gs.getD i as0).t.toNat sg0).k ∧ (m.ss.getD (m.gs.getD i as0).t.toNat sg0).k ≤ 3) ∧ OpsP m.ss.length (m.gs.getD i as0).os := ⟨(h.eo.mod.gs i hi).tgt, (h.eo.mod.gs i hi).2⟩
theorem xB {m : Md} (h : FlP m) {vs : List Int} (hv : VlP m vs) {i : Nat} (hi : i < m.gs.length) : VlP m (asgK m vs (i : Int)) := by
  obtain ⟨⟨h1, -⟩, h2⟩ := h.as hi
  unfold asgK; rw [Int.toNat_natCast]
  exact hv.set (by omega) (uI h2.pos (h.sw (by omega)))
theorem Ai {m : Md} (h : FlP m) {x : Int} (hx : x ∈ eoK m) : 0 ≤ x ∧ x < m.gs.length := by
  rw [mZ h.eo] at hx
  obtain ⟨j, h1, -, rfl⟩ := fP.1 (tQ rfl h.eo.2.2 hx); omega
theorem rT {m : Md} (h : FlP m) {vs : List Int} (hv : VlP m vs) : ∀ j, j ≤ (eoK m).length → VlP m (ordV m (eoK m) vs j)
  | 0, _ => hv
  | j + 1, hj => by
    have h1 := rT h hv j (by omega)
    have h2 := Ai h (cV (d := (0 : Int)) (show j < (eoK m).length by omega))
    obtain ⟨i, e⟩ : ∃ i : Nat, (eoK m).getD j 0 = (i : Int) := ⟨((eoK m).getD j 0).toNat, by omega⟩
    unfold ordV; rw [e]; exact xB h h1 (by omega)
theorem rO {m : Md} (h : FlP m) {vs ins : List Int} (hv : VlP m vs) : VlP m (sgK m vs ins) := rT h (kY h hv _ (Nat.le_refl _)) _ (Nat.le_refl _)
def nrA (m : Md) (V : List Int) : Nat → List Int
  | 0 => List.replicate m.ss.length 0
  | i + 1 => if (m.ss.getD (m.gs.getD i as0).t.toNat sg0).k = 3 then (nrA m V i).set (m.gs.getD i as0).t.toNat (evK (m.gs.getD i as0).os V (m.ss.getD (m.gs.getD i as0).t.toNat sg0).w) else nrA m V i
def maK (m : Md) (V : List Int) (i : Nat) : Int := 4 * (i : Int) + V.getD (m.ms.getD i mm0).a.toNat 0
def nmA (m : Md) (ws V : List Int) : Nat → List Int × List Int
  | 0 => (nrA m V m.gs.length, ws)
  | i + 1 => ((nmA m ws V i).1.set (m.ms.getD i mm0).o.toNat (ws.getD (maK m V i).toNat 0), if V.getD (m.ms.getD i mm0).w.toNat 0 = 1 then (nmA m ws V i).2.set (maK m V i).toNat (V.getD (m.ms.getD i mm0).d.toNat 0) else (nmA m ws V i).2)
def nxV (m : Md) (ws V : List Int) : List Int := (nmA m ws V m.ms.length).1
def nxW (m : Md) (ws V : List Int) : List Int := (nmA m ws V m.ms.length).2
theorem oM {m : Md} {V : List Int} {i : Nat} (h : (m.ss.getD (m.gs.getD i as0).t.toNat sg0).k = 3) : (nrA m V i).set (m.gs.getD i as0).t.toNat (evK (m.gs.getD i as0).os V (m.ss.getD (m.gs.getD i as0).t.toNat sg0).w) = nrA m V (i + 1) := by
  show _ = if _ then _ else _
  rw [if_pos h]
theorem vA {m : Md} {V : List Int} {i : Nat} (h : ¬ (m.ss.getD (m.gs.getD i as0).t.toNat sg0).k = 3) : nrA m V i = nrA m V (i + 1) := by
  show _ = if _ then _ else _
  rw [if_neg h]
theorem rU {m : Md} (h : FlP m) (V : List Int) : ∀ i, i ≤ m.gs.length → VlP m (nrA m V i) ∧ ∀ s, s < m.ss.length → stB m s = false → (nrA m V i).getD s 0 = 0
  | 0, _ => ⟨VlP.zero h, fun s hs _ => iA _ _⟩
  | i + 1, hi => by
    obtain ⟨h1, h2⟩ := rU h V i (by omega)
    obtain ⟨⟨h3, -⟩, h4⟩ := h.as (i := i) (by omega)
    unfold nrA; split
    · rename_i hk
      refine ⟨h1.set (by omega) (uI h4.pos (h.sw (by omega))), fun s hs hb => ?_⟩
      rw [fR (by rw [h1.len]; omega)]; split
      · rename_i e; subst e; rw [vN hs hk] at hb; cases hb
      · exact h2 s hs hb
    · exact ⟨h1, h2⟩
theorem FlP.mm {m : Md} (h : FlP m) {i : Nat} (hi : i < m.ms.length) : (0 ≤ (m.ms.getD i mm0).a ∧ (m.ms.getD i mm0).a < m.ss.length) ∧ (0 ≤ (m.ms.getD i mm0).d ∧ (m.ms.getD i mm0).d < m.ss.length) ∧ (0 ≤ (m.ms.getD i mm0).w ∧ (m.ms.getD i mm0).w < m.ss.length) ∧ 0 ≤ (m.ms.getD i mm0).o ∧ (m.ms.getD i mm0).o < m.ss.length := by
  have hm := h.eo.mod.ms i hi
  exact ⟨hm.1.1, hm.1.2.1, hm.1.2.2, hm.2.inn⟩
theorem mV {m : Md} (h : FlP m) {V : List Int} (hV : VlP m V) {i : Nat} (hi : i < m.ms.length) : 4 * (i : Int) ≤ maK m V i ∧ maK m V i ≤ 4 * (i : Int) + 3 := by
  have h1 := h.mm hi
  have h2 := hV.rng (m.ms.getD i mm0).a.toNat (by omega)
  rw [(h.mem i hi).1] at h2
  unfold maK
  have h3 : wmK 2 = 3 := by decide
  omega
theorem rV {m : Md} (h : FlP m) {ws V : List Int} (hV : VlP m V) (hw : WwP m ws) : ∀ i, i ≤ m.ms.length → (VlP m (nmA m ws V i).1 ∧ ∀ s, s < m.ss.length → stB m s = false → (nmA m ws V i).1.getD s 0 = 0) ∧ WwP m (nmA m ws V i).2
  | 0, _ => ⟨rU h V _ (Nat.le_refl _), hw⟩
  | i + 1, hi => by
    obtain ⟨⟨h1, h2⟩, h3⟩ := rV h hV hw i (by omega)
    have hm := h.mm (i := i) (by omega)
    have ha := mV h hV (i := i) (by omega)
    have hq : (((maK m V i).toNat : Int) / 4).toNat = i := by omega
    have hwr := hw.rng (maK m V i).toNat (by rw [hw.len]; omega)
    rw [hq] at hwr
    have hmw := (h.mem i (by omega)).2.2
    refine ⟨⟨h1.set (by omega) ⟨hwr.1, by rw [← hmw]; exact hwr.2⟩, fun s hs hb => ?_⟩, ?_⟩
    · show ((nmA m ws V i).1.set _ _).getD s 0 = 0
      rw [fR (by rw [h1.len]; omega)]; split
      · rename_i e; subst e; rw [Ar (by omega) hm.2.2.2] at hb; cases hb
      · exact h2 s hs hb
    · show WwP m (if _ then _ else _)
      split
      · refine ⟨by rw [List.length_set]; exact h3.len, fun q hq2 => ?_⟩
        rw [List.length_set] at hq2
        rw [fR (by rw [h3.len]; omega)]; split
        · rename_i e; subst e; rw [hq]; exact hV.rng _ (by omega)
        · exact h3.rng q hq2
      · exact h3
theorem WsP.next {m : Md} {vs ws V : List Int} (h : WsP m vs ws) (hV : VlP m V) : WsP m (nxV m ws V) (nxW m ws V) := by
  obtain ⟨⟨h1, h2⟩, h3⟩ := rV h.fl hV h.w m.ms.length (Nat.le_refl _)
  exact ⟨h.fl, h1, h3, h2⟩
noncomputable def stT (m : Md) (I : List (List Int)) : Nat → List Int × List Int
  | 0 => (staV m, staW m)
  | t + 1 => (nxV m (stT m I t).2 (sgK m (stT m I t).1 (I.getD t [])), nxW m (stT m I t).2 (sgK m (stT m I t).1 (I.getD t [])))
noncomputable def vlT (m : Md) (I : List (List Int)) (t : Nat) : List Int := sgK m (stT m I t).1 (I.getD t [])
theorem iT {m : Md} (h : FlP m) (I : List (List Int)) : ∀ t, WsP m (stT m I t).1 (stT m I t).2
  | 0 => WsP.start h
  | t + 1 => (iT h I t).next (rO h (iT h I t).v)
theorem lS {m : Md} (h : FlP m) (I : List (List Int)) (t : Nat) : VlP m (vlT m I t) := rO h (iT h I t).v
noncomputable def trK (m : Md) (I : List (List Int)) : List (List Int) := (List.range I.length).map (vlT m I)
noncomputable def trA (m : Md) (I : List (List Int)) (t : Nat) : List (List Int) := (List.range t).map (vlT m I)
theorem oV (m : Md) (I : List (List Int)) (t : Nat) : trA m I (t + 1) = trA m I t ++ [vlT m I t] := by
  unfold trA; rw [List.range_succ, List.map_append]; rfl
def InI (m : Md) (I : List (List Int)) : Prop := I.length ≤ 16 ∧ ∀ t, t < I.length → (I.getD t []).length = (pwK m 0).length
theorem qN {rs : List CRow} (t : Nat) : (rs.map CRow.xs).getD t [] = (rs.getD t crow0).xs := by
  rw [List.getD_eq_getElem?_getD, List.getElem?_map, List.getD_eq_getElem?_getD]
  cases rs[t]? <;> rfl
theorem InI.at {m : Md} {rs : List CRow} (h : InI m (rs.map CRow.xs)) {t : Nat} (ht : t < rs.length) : (rs.getD t crow0).xs.length = (pwK m 0).length := by
  rw [← qN]; exact h.2 t (by rw [List.length_map]; exact ht)
theorem xZ (m : Md) (rs : List CRow) (t : Nat) : sgK m (stT m (rs.map CRow.xs) t).1 (rs.getD t crow0).xs = vlT m (rs.map CRow.xs) t := by
  unfold vlT; rw [qN]
theorem uT {m : Md} {I : List (List Int)} {os : List CRow} (h : os.map CRow.xs = trK m I) {t : Nat} (ht : t < os.length) : (os.getD t crow0).xs = vlT m I t := by
  have hl : os.length = I.length := by have := congrArg List.length h; rw [List.length_map] at this; unfold trK at this; rw [List.length_map, List.length_range] at this; exact this
  rw [← qN, h]; unfold trK
  rw [List.getD_eq_getElem?_getD, List.getElem?_map, List.getElem?_range (by omega)]; rfl
theorem vM {m : Md} {I : List (List Int)} {os : List CRow} (h : os.map CRow.xs = trK m I) : os.length = I.length := by have := congrArg List.length h; rw [List.length_map] at this; unfold trK at this; rw [List.length_map, List.length_range] at this; exact this
theorem RdsCl.snoc {w : World} {v v' : Value} {rs : List CRow} {r : CRow} (hx : ∀ q ∈ rs, RdsW w q.v 1 q.xs.length (q.xs.map (Value.int .i64))) (hr : RdsW w r.v 1 r.xs.length (r.xs.map (Value.int .i64))) : ∀ q ∈ rs ++ [r], RdsW w q.v 1 q.xs.length (q.xs.map (Value.int .i64)) := fun q hq => by
  rcases List.mem_append.1 hq with hq | hq
  · exact hx q hq
  · rw [List.mem_singleton] at hq; subst hq; exact hr
theorem qV {o : Oq} {V V' L : List Int} (h : o.k = 2 ∨ o.k = 3 → V.getD o.a.toNat 0 = V'.getD o.a.toNat 0) : opV o V L = opV o V' L := by
  unfold opV
  by_cases h2 : o.k = 2
  · rw [h (.inl h2)]
  · by_cases h3 : o.k = 3
    · rw [h (.inr h3)]
    · rw [if_neg h2, if_neg h3, if_neg h2, if_neg h3]
theorem mC {g g' : Nat → Int × Nat} (h : ∀ q, g q = g' q) (p : Nat) : ∀ i, argE g p i = argE g' p i
  | 0 => rfl
  | i + 1 => by
    show ((argE g p i).1 ++ [(g (argE g p i).2).1], (g (argE g p i).2).2) = _
    rw [mC h p i, h]; rfl
theorem rE {os : List Oq} {V V' : List Int} {x : Int} (h : ∀ i, i < os.length → (os.getD i oq0).k = 2 ∨ (os.getD i oq0).k = 3 → V.getD (os.getD i oq0).a.toNat 0 = V'.getD (os.getD i oq0).a.toNat 0) : ∀ f p, evE os V x f p = evE os V' x f p
  | 0, p => rfl
  | f + 1, p => by
    show (bits .and .i64 (opV _ _ _) _, _) = (bits .and .i64 (opV _ _ _) _, _)
    rw [mC (rE h f)]
    have e : ∀ L, opV (os.getD p oq0) V L = opV (os.getD p oq0) V' L := fun L => qV (fun hk => by
      rcases Nat.lt_or_ge p os.length with hp | hp
      · exact h p hp hk
      · have e0 : os.getD p oq0 = oq0 := by rw [List.getD_eq_getElem?_getD, List.getElem?_eq_none hp]; rfl
        rw [e0] at hk; rcases hk with hk | hk <;> exact absurd hk (by decide))
    rw [e]
theorem rD {os : List Oq} {V V' : List Int} {x : Int} (h : ∀ s, RdS os s → V.getD s.toNat 0 = V'.getD s.toNat 0) : evK os V x = evK os V' x := by
  unfold evK; rw [rE (fun i hi hk => h _ ⟨i, hi, hk, rfl⟩)]
theorem yU {m : Md} {T : List Int} (hc : Can m T) (hT : T ≠ []) : pickK m T < T.length ∧ FreeP m T (T.getD (pickK m T) 0) := by
  obtain ⟨y, hy, hfy⟩ := hc.free hT
  obtain ⟨j, hj, rfl⟩ := List.mem_iff_getElem.1 hy
  have hsome : ((List.range T.length).find? (fun k => pB (FreeP m T (T.getD k 0)))).isSome = true := by
    rw [List.find?_isSome]
    refine ⟨j, List.mem_range.2 hj, dG ?_⟩
    rw [List.getD_eq_getElem?_getD, List.getElem?_eq_getElem hj]; exact hfy
  obtain ⟨k, hk⟩ := Option.isSome_iff_exists.1 hsome
  have e : pickK m T = k := by unfold pickK; rw [hk]; rfl
  rw [e]
  exact ⟨List.mem_range.1 (List.mem_of_find?_eq_some hk), fK (by have := List.find?_some hk; exact this)⟩
def OrdP (m : Md) : List Int → Prop
  | [] => True
  | x :: L => FreeP m (x :: L) x ∧ OrdP m L
theorem xG {T : List Int} {k : Nat} (h : k < T.length) : (T.getD k 0 :: T.eraseIdx k).Perm T := by
  have e : T.getD k 0 = T[k] := by rw [List.getD_eq_getElem?_getD, List.getElem?_eq_getElem h]; rfl
  rw [e, List.eraseIdx_eq_take_drop_succ]
  have e2 : T.take k ++ T[k] :: T.drop (k + 1) = T := by rw [← List.drop_eq_getElem_cons h, List.take_append_drop]
  have := (List.perm_middle (a := T[k]) (l₁ := T.take k) (l₂ := T.drop (k + 1))).symm
  rw [e2] at this; exact this
theorem wA {m : Md} : ∀ {n : Nat} {T : List Int}, T.length = n → Can m T → (ordF m n T).Perm T ∧ OrdP m (ordF m n T)
  | 0, T, hl, _ => by
    rw [List.eq_nil_of_length_eq_zero hl]; exact ⟨List.Perm.refl _, trivial⟩
  | n + 1, T, hl, hc => by
    obtain ⟨h1, h2⟩ := yU hc (fun e => by rw [e] at hl; cases hl)
    obtain ⟨i1, i2⟩ := wA (n := n) (T := T.eraseIdx (pickK m T)) (by rw [List.length_eraseIdx_of_lt h1]; omega) (hc.sub (fun x hx => gX hx))
    have hp : (T.getD (pickK m T) 0 :: ordF m n (T.eraseIdx (pickK m T))).Perm T := (i1.cons _).trans (xG h1)
    exact ⟨hp, fun y hy => h2 y (hp.mem_iff.1 hy), i2⟩
abbrev tgN (m : Md) (x : Int) : Nat := (m.gs.getD x.toNat as0).t.toNat
abbrev vaN (m : Md) (V : List Int) (x : Int) : Int := evK (m.gs.getD x.toNat as0).os V (m.ss.getD (tgN m x) sg0).w
structure IsV (m : Md) (L : List Int) (B V : List Int) : Prop where
  len : V.length = m.ss.length
  base : ∀ s, s < m.ss.length → (∀ x ∈ L, tgN m x ≠ s) → V.getD s 0 = B.getD s 0
  eq : ∀ x ∈ L, V.getD (tgN m x) 0 = vaN m V x
structure TgP (m : Md) (L : List Int) : Prop where
  rng : ∀ x ∈ L, 0 ≤ (m.gs.getD x.toNat as0).t ∧ (m.gs.getD x.toNat as0).t < m.ss.length
  inj : ∀ x ∈ L, ∀ y ∈ L, (m.gs.getD x.toNat as0).t = (m.gs.getD y.toNat as0).t → x = y
  rd : ∀ x ∈ L, ∀ s, RdS (m.gs.getD x.toNat as0).os s → 0 ≤ s
theorem TgP.tl {m : Md} {x : Int} {L : List Int} (h : TgP m (x :: L)) : TgP m L := ⟨fun y hy => h.rng y (List.mem_cons_of_mem _ hy), fun y hy z hz => h.inj y (List.mem_cons_of_mem _ hy) z (List.mem_cons_of_mem _ hz), fun y hy => h.rd y (List.mem_cons_of_mem _ hy)⟩
theorem Bt {m : Md} {x : Int} {s : Int} (h1 : 0 ≤ (m.gs.getD x.toNat as0).t) (h2 : tgN m x = s.toNat) (h3 : 0 ≤ s) : (m.gs.getD x.toNat as0).t = s := by unfold tgN at h2; omega
def runV (m : Md) (B : List Int) : List Int → List Int
  | [] => B
  | x :: L => runV m (asgK m B x) L
theorem pK (m : Md) (B : List Int) : ∀ (L : List Int) (ord : List Int) (k : Nat), ord.drop k = L → k ≤ ord.length → ordV m ord B ord.length = runV m (ordV m ord B k) L
  | [], ord, k, h, hk => by
    have : ord.length ≤ k := List.drop_eq_nil_iff.1 h
    rw [show k = ord.length by omega]; rfl
  | x :: L, ord, k, h, hk => by
    have hlt : k < ord.length := by
      rcases Nat.lt_or_ge k ord.length with h9 | h9
      · exact h9
      · rw [List.drop_eq_nil_of_le h9] at h; cases h
    have h2 : ord.drop k = ord[k] :: ord.drop (k + 1) := List.drop_eq_getElem_cons hlt
    rw [h] at h2
    obtain ⟨e1, e2⟩ := List.cons.inj h2
    rw [pK m B L ord (k + 1) e2.symm (by omega)]
    show runV m (asgK m (ordV m ord B k) (ord.getD k 0)) L = runV m (asgK m (ordV m ord B k) x) L
    rw [List.getD_eq_getElem?_getD, List.getElem?_eq_getElem hlt, ← e1]; rfl
theorem vU {m : Md} : ∀ (L B : List Int), (runV m B L).length = B.length
  | [], B => rfl
  | x :: L, B => by
    show (runV m (asgK m B x) L).length = _
    rw [vU L]; unfold asgK; rw [List.length_set]
theorem mM {m : Md} : ∀ (L B : List Int), TgP m L → ∀ s, s < B.length → (∀ x ∈ L, tgN m x ≠ s) → (runV m B L).getD s 0 = B.getD s 0
  | [], B, _, s, _, _ => rfl
  | x :: L, B, hT, s, hs, hn => by
    show (runV m (asgK m B x) L).getD s 0 = _
    have hl : (asgK m B x).length = B.length := by unfold asgK; rw [List.length_set]
    rw [mM L (asgK m B x) hT.tl s (by omega) (fun y hy => hn y (List.mem_cons_of_mem _ hy))]
    unfold asgK
    rw [List.getD_eq_getElem?_getD, List.getElem?_set_ne (hn x List.mem_cons_self), ← List.getD_eq_getElem?_getD]
theorem uV {m : Md} : ∀ (L B : List Int), B.length = m.ss.length → TgP m L → L.Nodup → OrdP m L → IsV m L B (runV m B L)
  | [], B, hB, _, _, _ => ⟨hB, fun s _ _ => rfl, fun x hx => by cases hx⟩
  | x :: L, B, hB, hT, hN, hO => by
    have hT' : TgP m L := hT.tl
    have hl : (asgK m B x).length = B.length := by unfold asgK; rw [List.length_set]
    have hx := hT.rng x List.mem_cons_self
    have hxn : x ∉ L := (List.nodup_cons.1 hN).1
    have hd : ∀ y ∈ L, tgN m y ≠ tgN m x := fun y hy e => by
      have h1 := hT.rng y (List.mem_cons_of_mem _ hy)
      have := hT.inj y (List.mem_cons_of_mem _ hy) x List.mem_cons_self (by unfold tgN at e; omega)
      subst this; exact hxn hy
    have ih := uV L (asgK m B x) (by omega) hT' (List.nodup_cons.1 hN).2 hO.2
    have hkeep : ∀ s, s < m.ss.length → (∀ y ∈ x :: L, tgN m y ≠ s) → (runV m B (x :: L)).getD s 0 = B.getD s 0 := fun s hs hn => mM (x :: L) B hT s (by omega) hn
    refine ⟨ih.len, hkeep, fun y hy => ?_⟩
    rcases List.mem_cons.1 hy with rfl | hy
    · have e1 : (runV m (asgK m B y) L).getD (tgN m y) 0 = (asgK m B y).getD (tgN m y) 0 := mM L _ hT' _ (by unfold tgN; omega) hd
      show (runV m (asgK m B y) L).getD (tgN m y) 0 = vaN m (runV m (asgK m B y) L) y
      rw [e1]
      have e2 : (asgK m B y).getD (tgN m y) 0 = vaN m B y := by
        unfold asgK
        rw [List.getD_eq_getElem?_getD, List.getElem?_set_self (by omega)]; rfl
      rw [e2]
      refine rD (fun s hs => ?_)
      have h0 := hT.rd y List.mem_cons_self s hs
      have hsn : ∀ z ∈ y :: L, tgN m z ≠ s.toNat := fun z hz e => by
        have := Bt (hT.rng z hz).1 e h0
        exact hO.1 z hz (by rw [this]; exact hs)
      rcases Nat.lt_or_ge s.toNat B.length with h9 | h9
      · exact (mM (y :: L) B hT s.toNat h9 hsn).symm
      · have hr : (runV m (asgK m B y) L).length = B.length := by rw [vU]; exact hl
        rw [List.getD_eq_getElem?_getD, List.getElem?_eq_none h9, List.getD_eq_getElem?_getD, List.getElem?_eq_none (by omega)]
    · exact ih.eq y hy
theorem IsV.uniq {m : Md} : ∀ (L : List Int) {A B V V' : List Int}, TgP m L → OrdP m L → (∀ s, s < m.ss.length → A.getD s 0 = B.getD s 0 ∨ ∃ x ∈ L, tgN m x = s) → IsV m L A V → IsV m L B V' → ∀ s, s < m.ss.length → V.getD s 0 = V'.getD s 0
  | [], A, B, V, V', _, _, hb, h, k, s, hs => by
    rcases hb s hs with e | ⟨x, hx, _⟩
    · rw [h.base s hs (fun x hx => by cases hx), k.base s hs (fun x hx => by cases hx), e]
    · cases hx
  | x :: L, A, B, V, V', hT, hO, hb, h, k, s, hs => by
    have hx := hT.rng x List.mem_cons_self
    -- the first one reads the base alone
    have e1 : V.getD (tgN m x) 0 = V'.getD (tgN m x) 0 := by
      rw [h.eq x List.mem_cons_self, k.eq x List.mem_cons_self]
      refine rD (fun q hq => ?_)
      have h0 := hT.rd x List.mem_cons_self q hq
      have hqn : ∀ z ∈ x :: L, tgN m z ≠ q.toNat := fun z hz e => by
        have := Bt (hT.rng z hz).1 e h0
        exact hO.1 z hz (by rw [this]; exact hq)
      rcases Nat.lt_or_ge q.toNat m.ss.length with h9 | h9
      · rw [h.base _ h9 hqn, k.base _ h9 hqn]
        rcases hb _ h9 with e | ⟨z, hz, e⟩
        · exact e
        · exact absurd e (hqn z hz)
      · rw [List.getD_eq_getElem?_getD, List.getElem?_eq_none (by rw [h.len]; exact h9), List.getD_eq_getElem?_getD, List.getElem?_eq_none (by rw [k.len]; exact h9)]
    -- the rest over V and V' themselves as bases
    refine IsV.uniq L (A := V) (B := V') hT.tl hO.2 (fun q hq => ?_) ⟨h.len, fun q _ _ => rfl, fun y hy => h.eq y (List.mem_cons_of_mem _ hy)⟩ ⟨k.len, fun q _ _ => rfl, fun y hy => k.eq y (List.mem_cons_of_mem _ hy)⟩ s hs
    by_cases hc : ∃ y ∈ L, tgN m y = q
    · exact .inr hc
    · left
      by_cases hq1 : tgN m x = q
      · subst hq1; exact e1
      · have hn : ∀ z ∈ x :: L, tgN m z ≠ q := fun z hz e => by
          rcases List.mem_cons.1 hz with rfl | hz
          · exact hq1 e
          · exact hc ⟨z, hz, e⟩
        rw [h.base q hq hn, k.base q hq hn]
        rcases hb q hq with e | ⟨z, hz, e⟩
        · exact e
        · exact absurd e (hn z hz)
theorem FlP.tgp {m : Md} (h : FlP m) : TgP m (todoA m m.gs.length) := by
  have hk : ∀ x ∈ todoA m m.gs.length, ∃ j : Nat, j < m.gs.length ∧ x = (j : Int) := fun x hx => by obtain ⟨j, h1, -, h2⟩ := fP.1 hx; exact ⟨j, h1, h2⟩
  refine ⟨fun x hx => ?_, fun x hx y hy e => ?_, fun x hx s hs => ?_⟩
  · obtain ⟨j, hj, rfl⟩ := hk x hx
    rw [Int.toNat_natCast]; exact (h.as hj).1.1
  · obtain ⟨i, hi, rfl⟩ := hk x hx
    obtain ⟨j, hj, rfl⟩ := hk y hy
    rw [Int.toNat_natCast, Int.toNat_natCast] at e
    rw [oF h.eo.mod hi hj e]
  · obtain ⟨j, hj, rfl⟩ := hk x hx
    rw [Int.toNat_natCast] at hs
    obtain ⟨i, hi, hk2, rfl⟩ := hs
    have ho := ((h.as hj).2.op i hi).2
    unfold OqP at ho
    rcases ho with q | q | q | q <;> omega
theorem FlP.ord {m : Md} (h : FlP m) : (eoK m).Perm (todoA m m.gs.length) ∧ OrdP m (eoK m) := by
  rw [mZ h.eo]; exact wA rfl h.eo.2.2
theorem TgP.perm {m : Md} {L L' : List Int} (h : TgP m L) (p : L'.Perm L) : TgP m L' := ⟨fun x hx => h.rng x (p.mem_iff.1 hx), fun x hx y hy => h.inj x (p.mem_iff.1 hx) y (p.mem_iff.1 hy), fun x hx => h.rd x (p.mem_iff.1 hx)⟩
theorem IsV.perm {m : Md} {L L' B V : List Int} (h : IsV m L B V) (p : L'.Perm L) : IsV m L' B V := ⟨h.len, fun s hs hn => h.base s hs (fun x hx => hn x (p.mem_iff.2 hx)), fun x hx => h.eq x (p.mem_iff.1 hx)⟩
theorem yE {m : Md} (h : FlP m) {vs ins : List Int} (hv : VlP m vs) : IsV m (todoA m m.gs.length) (inA m ins vs m.ss.length).1 (sgK m vs ins) := by
  obtain ⟨p, o⟩ := h.ord
  have e : sgK m vs ins = runV m (inA m ins vs m.ss.length).1 (eoK m) := by
    unfold sgK
    exact pK m _ (eoK m) (eoK m) 0 rfl (Nat.zero_le _)
  rw [e]
  exact (uV (eoK m) _ (kY h hv _ (Nat.le_refl _)).len (h.tgp.perm p) (p.nodup_iff.2 (iP m _)) o).perm p.symm
theorem vQ {m : Md} (h : FlP m) {vs ins V : List Int} (hv : VlP m vs) (k : IsV m (todoA m m.gs.length) (inA m ins vs m.ss.length).1 V) : V = sgK m vs ins := by
  obtain ⟨p, o⟩ := h.ord
  have h1 := yE h (ins := ins) hv
  refine List.ext_getElem (by rw [k.len, h1.len]) (fun s a b => ?_)
  have h2 := IsV.uniq (eoK m) (h.tgp.perm p) o (fun s _ => .inl rfl) (k.perm p) (h1.perm p) s (by rw [k.len] at a; exact a)
  rw [List.getD_eq_getElem?_getD, List.getElem?_eq_getElem a, List.getD_eq_getElem?_getD, List.getElem?_eq_getElem b] at h2
  exact h2
theorem lK {α : Type} (g : α → Int) (d : α) {L : List α} {i : Nat} (h : i < L.length) : (L.map g).getD i 0 = g (L.getD i d) := by
  rw [List.getD_eq_getElem?_getD, List.getElem?_map, List.getD_eq_getElem?_getD, List.getElem?_eq_getElem h]; rfl
theorem mem_gs {m : Md} {s : Int} (h : s ∈ m.gs.map As.t) : ∃ j, j < m.gs.length ∧ (m.gs.getD j as0).t = s := by
  obtain ⟨g, hg, rfl⟩ := List.mem_map.1 h
  obtain ⟨j, hj, rfl⟩ := List.mem_iff_getElem.1 hg
  exact ⟨j, hj, by rw [List.getD_eq_getElem?_getD, List.getElem?_eq_getElem hj]; rfl⟩
theorem mem_ms {m : Md} {s : Int} (h : s ∈ m.ms.map Mm.o) : ∃ i, i < m.ms.length ∧ (m.ms.getD i mm0).o = s := by
  obtain ⟨g, hg, rfl⟩ := List.mem_map.1 h
  obtain ⟨j, hj, rfl⟩ := List.mem_iff_getElem.1 hg
  exact ⟨j, hj, by rw [List.getD_eq_getElem?_getD, List.getElem?_eq_getElem hj]; rfl⟩
theorem gs_mem {m : Md} {j : Nat} (h : j < m.gs.length) : (m.gs.getD j as0).t ∈ m.gs.map As.t := by
  rw [← lK As.t as0 h]; exact cV (by rw [List.length_map]; exact h)
theorem ms_mem {m : Md} {j : Nat} (h : j < m.ms.length) : (m.ms.getD j mm0).o ∈ m.ms.map Mm.o := by
  rw [← lK Mm.o mm0 h]; exact cV (by rw [List.length_map]; exact h)
theorem FlP.drv {m : Md} (h : FlP m) {s : Nat} (hs : s < m.ss.length) (hk : (m.ss.getD s sg0).k ≠ 0) : (m.gs.map As.t ++ m.ms.map Mm.o).count (s : Int) = 1 := by
  have h1 := h.eo.mod.dr s hs hk
  have hx : m.xs = [] := List.eq_nil_of_length_eq_zero h.eo.1
  unfold drvL at h1
  rw [show ([m] : List Md).getD 0 md0 = m from rfl, hx] at h1
  simpa using h1
theorem FlP.src {m : Md} (h : FlP m) {s : Nat} (hs : s < m.ss.length) (hk : (m.ss.getD s sg0).k ≠ 0) : (∃ j, j < m.gs.length ∧ (m.gs.getD j as0).t = (s : Int)) ∨ ∃ i, i < m.ms.length ∧ (m.ms.getD i mm0).o = (s : Int) := by
  have h1 := h.drv hs hk
  have h2 : (s : Int) ∈ m.gs.map As.t ++ m.ms.map Mm.o := List.count_pos_iff.1 (by omega)
  rcases List.mem_append.1 h2 with h3 | h3
  · exact .inl (mem_gs h3)
  · exact .inr (mem_ms h3)
theorem FlP.mo {m : Md} (h : FlP m) {i : Nat} (hi : i < m.ms.length) : (0 ≤ (m.ms.getD i mm0).o ∧ (m.ms.getD i mm0).o < m.ss.length) ∧ ((m.ss.getD (m.ms.getD i mm0).o.toNat sg0).k = 1 ∨ (m.ss.getD (m.ms.getD i mm0).o.toNat sg0).k = 2) := by
  have h1 : Drv m (m.ms.getD i mm0).o := (h.eo.mod.ms i hi).2
  have h2 : 0 ≤ (m.ms.getD i mm0).o ∧ (m.ms.getD i mm0).o < m.ss.length := h1.inn
  refine ⟨h2, ?_⟩
  unfold Drv at h1
  rwa [dH h2] at h1
theorem FlP.mo_gs {m : Md} (h : FlP m) {i j : Nat} (hi : i < m.ms.length) (hj : j < m.gs.length) : (m.ms.getD i mm0).o ≠ (m.gs.getD j as0).t := fun e => by
  obtain ⟨⟨h1, h2⟩, h3⟩ := h.mo hi
  have hc := h.drv (s := (m.ms.getD i mm0).o.toNat) (by omega) (by omega)
  rw [show (((m.ms.getD i mm0).o.toNat : Nat) : Int) = (m.ms.getD i mm0).o by omega, List.count_append] at hc
  have c1 : 0 < (m.gs.map As.t).count (m.ms.getD i mm0).o := List.count_pos_iff.2 (by rw [e]; exact gs_mem hj)
  have c2 : 0 < (m.ms.map Mm.o).count (m.ms.getD i mm0).o := List.count_pos_iff.2 (ms_mem hi)
  omega
theorem xS {L : List Int} {i j : Nat} {x : Int} (hi : i < j) (hj : j < L.length) (h1 : L.getD i 0 = x) (h2 : L.getD j 0 = x) : 2 ≤ L.count x := by
  have e : L = L.take j ++ L.drop j := (List.take_append_drop j L).symm
  have m1 : x ∈ L.take j := by
    have e1 : L.getD i 0 = L[i]'(by omega) := by rw [List.getD_eq_getElem?_getD, List.getElem?_eq_getElem (by omega)]; rfl
    rw [List.mem_iff_getElem]
    exact ⟨i, by rw [List.length_take]; omega, by rw [List.getElem_take, ← e1]; exact h1⟩
  have m2 : x ∈ L.drop j := by
    rw [List.drop_eq_getElem_cons hj]
    rw [← h2, List.getD_eq_getElem?_getD, List.getElem?_eq_getElem hj]; exact List.mem_cons_self
  have c1 := List.count_pos_iff.2 m1
  have c2 := List.count_pos_iff.2 m2
  rw [e, List.count_append]; omega
theorem FlP.mo_inj {m : Md} (h : FlP m) {i j : Nat} (hi : i < m.ms.length) (hj : j < m.ms.length) (e : (m.ms.getD i mm0).o = (m.ms.getD j mm0).o) : i = j := by
  have key : ∀ {i j : Nat}, i < j → j < m.ms.length → (m.ms.getD i mm0).o = (m.ms.getD j mm0).o → False := fun {i j} hij hj e => by
    obtain ⟨⟨h1, h2⟩, h3⟩ := h.mo hj
    have hc := h.drv (s := (m.ms.getD j mm0).o.toNat) (by omega) (by omega)
    rw [show (((m.ms.getD j mm0).o.toNat : Nat) : Int) = (m.ms.getD j mm0).o by omega, List.count_append] at hc
    have := xS (L := m.ms.map Mm.o) hij (by rw [List.length_map]; exact hj) ((lK Mm.o mm0 (by omega)).trans e) (lK Mm.o mm0 hj)
    omega
  rcases Nat.lt_trichotomy i j with q | q | q
  · exact (key q hj e).elim
  · exact q
  · exact (key q hi e.symm).elim
theorem oN (m : Md) (V : List Int) : ∀ i, (nrA m V i).length = m.ss.length
  | 0 => List.length_replicate
  | i + 1 => by unfold nrA; split <;> simp [oN m V i]
theorem zH {m : Md} (h : FlP m) (V : List Int) {j : Nat} (hj : j < m.gs.length) (hk : (m.ss.getD (m.gs.getD j as0).t.toNat sg0).k = 3) : ∀ i, i ≤ m.gs.length → j < i → (nrA m V i).getD (m.gs.getD j as0).t.toNat 0 = vaN m V (j : Int)
  | 0, _, h1 => absurd h1 (Nat.not_lt_zero _)
  | i + 1, hi, h1 => by
    have ht := (h.as hj).1.1
    by_cases e : j = i
    · subst e
      rw [← oM hk, fR (by rw [oN]; omega), if_pos rfl]; rfl
    · have ih := zH h V hj hk i (by omega) (by omega)
      by_cases hk2 : (m.ss.getD (m.gs.getD i as0).t.toNat sg0).k = 3
      · have ht2 := (h.as (show i < m.gs.length by omega)).1.1
        rw [← oM hk2, fR (by rw [oN]; omega), if_neg (fun e9 => e (oF h.eo.mod hj (by omega) (by omega)))]; exact ih
      · rw [← vA hk2]; exact ih
theorem oO (m : Md) (ws V : List Int) : ∀ i, (nmA m ws V i).1.length = m.ss.length ∧ (nmA m ws V i).2.length = ws.length
  | 0 => ⟨oN m V _, rfl⟩
  | i + 1 => by
    have ih := oO m ws V i
    refine ⟨?_, ?_⟩
    · show ((nmA m ws V i).1.set _ _).length = _
      rw [List.length_set]; exact ih.1
    · show (if _ then _ else _ : List Int).length = _
      split
      · rw [List.length_set]; exact ih.2
      · exact ih.2
theorem wE {m : Md} (h : FlP m) (ws V : List Int) {j : Nat} (hj : j < m.ms.length) : ∀ i, i ≤ m.ms.length → j < i → (nmA m ws V i).1.getD (m.ms.getD j mm0).o.toNat 0 = ws.getD (maK m V j).toNat 0
  | 0, _, h1 => absurd h1 (Nat.not_lt_zero _)
  | i + 1, hi, h1 => by
    have ho := (h.mo hj).1
    have ho2 := (h.mo (show i < m.ms.length by omega)).1
    show ((nmA m ws V i).1.set (m.ms.getD i mm0).o.toNat (ws.getD (maK m V i).toNat 0)).getD _ 0 = _
    rw [fR (by rw [(oO m ws V i).1]; omega)]
    by_cases e : j = i
    · subst e; rw [if_pos rfl]
    · rw [if_neg (fun e9 => e (h.mo_inj hj (by omega) (by omega)))]
      exact wE h ws V hj i (by omega) (by omega)
theorem wF {m : Md} (h : FlP m) (ws V : List Int) {s : Nat} (hs : ∀ j, j < m.ms.length → (m.ms.getD j mm0).o.toNat ≠ s) : ∀ i, i ≤ m.ms.length → (nmA m ws V i).1.getD s 0 = (nrA m V m.gs.length).getD s 0
  | 0, _ => rfl
  | i + 1, hi => by
    have ho2 := (h.mo (show i < m.ms.length by omega)).1
    show ((nmA m ws V i).1.set (m.ms.getD i mm0).o.toNat (ws.getD (maK m V i).toNat 0)).getD _ 0 = _
    rw [fR (by rw [(oO m ws V i).1]; omega), if_neg (fun e => hs i (by omega) e.symm)]
    exact wF h ws V hs i (by omega)
theorem wC {m : Md} (h : FlP m) (ws V : List Int) {j : Nat} (hj : j < m.gs.length) (hk : (m.ss.getD (m.gs.getD j as0).t.toNat sg0).k = 3) : (nxV m ws V).getD (m.gs.getD j as0).t.toNat 0 = vaN m V (j : Int) := by
  unfold nxV
  have ht := (h.as hj).1.1
  rw [wF h ws V (fun i hi e => h.mo_gs hi hj (by have := (h.mo hi).1; omega)) _ (Nat.le_refl _)]
  exact zH h V hj hk _ (Nat.le_refl _) hj
theorem wD {m : Md} (h : FlP m) (ws V : List Int) {i : Nat} (hi : i < m.ms.length) : (nxV m ws V).getD (m.ms.getD i mm0).o.toNat 0 = ws.getD (maK m V i).toNat 0 := wE h ws V hi _ (Nat.le_refl _) hi
theorem zI {m : Md} (h : FlP m) {ws V : List Int} (hV : VlP m V) (hw : ws.length = 4 * m.ms.length) {k : Nat} (hk : k < m.ms.length) {j : Nat} (hj : j < 4) : ∀ i, i ≤ m.ms.length → (nmA m ws V i).2.getD (4 * k + j) 0 = if k < i ∧ V.getD (m.ms.getD k mm0).w.toNat 0 = 1 ∧ maK m V k = (4 * k + j : Nat) then V.getD (m.ms.getD k mm0).d.toNat 0 else ws.getD (4 * k + j) 0
  | 0, _ => by rw [if_neg (fun q => absurd q.1 (Nat.not_lt_zero _))]; rfl
  | i + 1, hi => by
    have ih := zI h hV hw hk hj i (by omega)
    have hr := mV h hV (show i < m.ms.length by omega)
    show (if V.getD (m.ms.getD i mm0).w.toNat 0 = 1 then (nmA m ws V i).2.set (maK m V i).toNat (V.getD (m.ms.getD i mm0).d.toNat 0) else (nmA m ws V i).2).getD _ 0 = _
    by_cases e : k = i
    · subst e
      by_cases hw1 : V.getD (m.ms.getD k mm0).w.toNat 0 = 1
      · rw [if_pos hw1, fR (by rw [(oO m ws V k).2]; omega)]
        by_cases ha : maK m V k = ((4 * k + j : Nat) : Int)
        · rw [if_pos (by omega), if_pos ⟨by omega, hw1, ha⟩]
        · rw [if_neg (by omega), ih, if_neg (fun q => absurd q.1 (by omega)), if_neg (fun q => ha q.2.2)]
      · rw [if_neg hw1, ih, if_neg (fun q => absurd q.1 (by omega)), if_neg (fun q => hw1 q.2.1)]
    · have hne : ∀ x : List Int, (if V.getD (m.ms.getD i mm0).w.toNat 0 = 1 then x.set (maK m V i).toNat (V.getD (m.ms.getD i mm0).d.toNat 0) else x).getD (4 * k + j) 0 = x.getD (4 * k + j) 0 := fun x => by
        split
        · rw [List.getD_eq_getElem?_getD, List.getElem?_set_ne (by omega), ← List.getD_eq_getElem?_getD]
        · rfl
      rw [hne, ih]
      have : (k < i) ↔ (k < i + 1) := by omega
      simp only [this]
theorem zG {m : Md} (h : FlP m) {ws V : List Int} (hV : VlP m V) (hw : ws.length = 4 * m.ms.length) {k : Nat} (hk : k < m.ms.length) {j : Nat} (hj : j < 4) : (nxW m ws V).getD (4 * k + j) 0 = if V.getD (m.ms.getD k mm0).w.toNat 0 = 1 ∧ maK m V k = (4 * k + j : Nat) then V.getD (m.ms.getD k mm0).d.toNat 0 else ws.getD (4 * k + j) 0 := by
  have := zI h hV hw hk hj m.ms.length (Nat.le_refl _)
  unfold nxW
  rw [this]
  simp [hk]
def rnO (φ : Nat → Nat) (o : Oq) : Oq := if o.k = 2 ∨ o.k = 3 then ⟨o.k, (φ o.a.toNat : Nat), o.b⟩ else o
def rnM (φ : Nat → Nat) (x : Mm) : Mm := ⟨(φ x.a.toNat : Nat), (φ x.d.toNat : Nat), (φ x.w.toNat : Nat), (φ x.o.toNat : Nat)⟩
theorem rnO_k (φ : Nat → Nat) (o : Oq) : (rnO φ o).k = o.k := by unfold rnO; split <;> rfl
theorem rn_at (φ : Nat → Nat) (os : List Oq) (p : Nat) : (os.map (rnO φ)).getD p oq0 = rnO φ (os.getD p oq0) := by
  rw [List.getD_eq_getElem?_getD, List.getElem?_map, List.getD_eq_getElem?_getD]
  cases os[p]? with
  | none => rfl
  | some o => rfl
theorem Bd {φ : Nat → Nat} {o : Oq} {V V' : List Int} (h : o.k = 2 ∨ o.k = 3 → V.getD (φ o.a.toNat) 0 = V'.getD o.a.toNat 0) (L : List Int) : opV (rnO φ o) V L = opV o V' L := by
  by_cases hk : o.k = 2 ∨ o.k = 3
  · have e : rnO φ o = ⟨o.k, (φ o.a.toNat : Nat), o.b⟩ := if_pos hk
    rw [e]
    unfold opV
    dsimp only
    have h0 : ¬ o.k = 0 := by omega
    rw [Int.toNat_natCast, h hk, if_neg h0, if_neg h0]
  · have e : rnO φ o = o := if_neg hk
    rw [e]; exact qV (fun h9 => absurd h9 hk)
theorem wU {φ : Nat → Nat} {os : List Oq} {V V' : List Int} {x : Int} (h : ∀ i, i < os.length → (os.getD i oq0).k = 2 ∨ (os.getD i oq0).k = 3 → V.getD (φ (os.getD i oq0).a.toNat) 0 = V'.getD (os.getD i oq0).a.toNat 0) : ∀ f p, evE (os.map (rnO φ)) V x f p = evE os V' x f p
  | 0, p => rfl
  | f + 1, p => by
    show (bits .and .i64 (opV ((os.map (rnO φ)).getD p oq0) _ _) _, _) = (bits .and .i64 (opV _ _ _) _, _)
    rw [rn_at, rnO_k, mC (wU h f), Bd (V' := V') (fun hk => by
      rcases Nat.lt_or_ge p os.length with hp | hp
      · exact h p hp hk
      · have e0 : os.getD p oq0 = oq0 := by rw [List.getD_eq_getElem?_getD, List.getElem?_eq_none hp]; rfl
        rw [e0] at hk; rcases hk with hk | hk <;> exact absurd hk (by decide))]
theorem Bn {φ : Nat → Nat} {os : List Oq} {V V' : List Int} {x : Int} (h : ∀ i, i < os.length → (os.getD i oq0).k = 2 ∨ (os.getD i oq0).k = 3 → V.getD (φ (os.getD i oq0).a.toNat) 0 = V'.getD (os.getD i oq0).a.toNat 0) : evK (os.map (rnO φ)) V x = evK os V' x := by
  unfold evK; rw [wU h, List.length_map]
structure Emb (G F : Md) (φ : Nat → Nat) (g0 k0 : Nat) : Prop where
  sl : ∀ s, s < G.ss.length → φ s < F.ss.length ∧ (F.ss.getD (φ s) sg0).w = (G.ss.getD s sg0).w
  kd : ∀ s, s < G.ss.length → isPt (G.ss.getD s sg0) = false → (F.ss.getD (φ s) sg0).k = (G.ss.getD s sg0).k ∧ (F.ss.getD (φ s) sg0).i = (G.ss.getD s sg0).i
  out : ∀ s, s < G.ss.length → (G.ss.getD s sg0).k = 1 → (F.ss.getD (φ s) sg0).k ≠ 3 ∧ (F.ss.getD (φ s) sg0).k ≠ 0
  gs : ∀ i, i < G.gs.length → g0 + i < F.gs.length ∧ (F.gs.getD (g0 + i) as0).t = (φ (G.gs.getD i as0).t.toNat : Nat) ∧ (F.gs.getD (g0 + i) as0).os = (G.gs.getD i as0).os.map (rnO φ)
  ms : ∀ i, i < G.ms.length → k0 + i < F.ms.length ∧ F.ms.getD (k0 + i) mm0 = rnM φ (G.ms.getD i mm0)
theorem wN (m : Md) (ins vs : List Int) : ∀ i, (inA m ins vs i).1.length = vs.length
  | 0 => rfl
  | i + 1 => by unfold inA; split <;> simp [wN m ins vs i]
theorem sH {m : Md} {ins vs : List Int} (hl : vs.length = m.ss.length) {s : Nat} : ∀ i, i ≤ m.ss.length → (inA m ins vs i).1.getD s 0 = if s < i ∧ (m.ss.getD s sg0).k = 0 then bits .and .i64 (ins.getD (pwA m.ss 0 s).length 0) (wmK (m.ss.getD s sg0).w) else vs.getD s 0
  | 0, _ => by rw [if_neg (fun q => absurd q.1 (Nat.not_lt_zero _))]; rfl
  | i + 1, hi => by
    have ih := sH hl (ins := ins) (s := s) i (by omega)
    by_cases hk : (m.ss.getD i sg0).k = 0
    · rw [← (sG (m := m) (ins := ins) (vs := vs) (i := i) rfl rfl hk).1, fR (by rw [wN]; omega)]
      by_cases e : s = i
      · subst e; rw [if_pos rfl, if_pos ⟨by omega, hk⟩, lI]
      · rw [if_neg e, ih]
        have : (s < i) ↔ (s < i + 1) := by omega
        simp only [this]
    · rw [← (vF (m := m) (ins := ins) (vs := vs) (i := i) rfl rfl hk).1, ih]
      by_cases e : s = i
      · subst e; rw [if_neg (fun q => hk q.2), if_neg (fun q => hk q.2)]
      · have : (s < i) ↔ (s < i + 1) := by omega
        simp only [this]
theorem mH {m : Md} {s : Nat} : ∀ i, i ≤ m.ss.length → (staA m i).getD s 0 = if s < i ∧ (m.ss.getD s sg0).k = 3 then bits .and .i64 (m.ss.getD s sg0).i (wmK (m.ss.getD s sg0).w) else 0
  | 0, _ => by rw [if_neg (fun q => absurd q.1 (Nat.not_lt_zero _))]; exact iA _ _
  | i + 1, hi => by
    have ih := mH (m := m) (s := s) i (by omega)
    by_cases hk : (m.ss.getD i sg0).k = 3
    · rw [← oZ hk, fR (by rw [kQ]; omega)]
      by_cases e : s = i
      · subst e; rw [if_pos rfl, if_pos ⟨by omega, hk⟩]
      · rw [if_neg e, ih]
        have : (s < i) ↔ (s < i + 1) := by omega
        simp only [this]
    · rw [← rJ hk, ih]
      by_cases e : s = i
      · subst e; rw [if_neg (fun q => hk q.2), if_neg (fun q => hk q.2)]
      · have : (s < i) ↔ (s < i + 1) := by omega
        simp only [this]
theorem jH {x w : Int} (hw : 0 ≤ w ∧ w ≤ 4) (h : 0 ≤ x ∧ x ≤ wmK w) : bits .and .i64 x (wmK w) = x := by
  have key : ∀ (w : Fin 5) (x : Fin 16), (x.val : Int) ≤ wmK ((w.val : Nat) : Int) → bits .and .i64 ((x.val : Nat) : Int) (wmK ((w.val : Nat) : Int)) = ((x.val : Nat) : Int) := by decide +kernel
  have h15 := (qP hw).2
  have := key ⟨w.toNat, by omega⟩ ⟨x.toNat, by omega⟩
  simp only [] at this
  rw [show ((w.toNat : Nat) : Int) = w by omega, show ((x.toNat : Nat) : Int) = x by omega] at this
  exact this h.2
structure StR (G F : Md) (φ : Nat → Nat) (k0 : Nat) (a b : List Int × List Int) : Prop where
  reg : ∀ s, s < G.ss.length → (G.ss.getD s sg0).k = 3 → a.1.getD s 0 = b.1.getD (φ s) 0
  mo : ∀ i, i < G.ms.length → a.1.getD (G.ms.getD i mm0).o.toNat 0 = b.1.getD (φ (G.ms.getD i mm0).o.toNat) 0
  wd : ∀ i, i < G.ms.length → ∀ j, j < 4 → a.2.getD (4 * i + j) 0 = b.2.getD (4 * (k0 + i) + j) 0
section
variable {G F : Md} {φ : Nat → Nat} {g0 k0 : Nat}
theorem Emb.mem_o (E : Emb G F φ g0 k0) {i : Nat} (hi : i < G.ms.length) : (F.ms.getD (k0 + i) mm0).o.toNat = φ (G.ms.getD i mm0).o.toNat ∧ (F.ms.getD (k0 + i) mm0).a.toNat = φ (G.ms.getD i mm0).a.toNat ∧ (F.ms.getD (k0 + i) mm0).d.toNat = φ (G.ms.getD i mm0).d.toNat ∧ (F.ms.getD (k0 + i) mm0).w.toNat = φ (G.ms.getD i mm0).w.toNat := by
  rw [(E.ms i hi).2]; exact ⟨rfl, rfl, rfl, rfl⟩
theorem Emb.tk (E : Emb G F φ g0 k0) (hG : FlP G) {j : Nat} (hj : j < G.gs.length) : (F.ss.getD (φ (G.gs.getD j as0).t.toNat) sg0).k = 3 ↔ (G.ss.getD (G.gs.getD j as0).t.toNat sg0).k = 3 := by
  have h1 := (hG.as hj).1
  have hs : (G.gs.getD j as0).t.toNat < G.ss.length := by omega
  cases hp : isPt (G.ss.getD (G.gs.getD j as0).t.toNat sg0) with
  | false => rw [(E.kd _ hs hp).1]
  | true =>
    have h2 := dU.1 hp
    have h3 := E.out _ hs (by omega)
    constructor
    · intro q; exact absurd q h3.1
    · intro q; omega
theorem Emb.ev (E : Emb G F φ g0 k0) (hG : FlP G) {VF VG : List Int} (hv : ∀ s, s < G.ss.length → VG.getD s 0 = VF.getD (φ s) 0) {j : Nat} (hj : j < G.gs.length) : vaN F VF ((g0 + j : Nat) : Int) = vaN G VG (j : Int) := by
  obtain ⟨h1, h2, h3⟩ := E.gs j hj
  have ht := (hG.as hj).1.1
  unfold vaN tgN
  rw [Int.toNat_natCast, Int.toNat_natCast, h2, h3, Int.toNat_natCast, (E.sl _ (by omega)).2]
  refine Bn (fun i hi hk => ?_)
  have ho := ((hG.as hj).2.op i hi).2
  have ha : 0 ≤ ((G.gs.getD j as0).os.getD i oq0).a ∧ ((G.gs.getD j as0).os.getD i oq0).a < G.ss.length := by
    unfold OqP at ho
    rcases ho with q | q | q | q <;> omega
  exact (hv _ (by omega)).symm
theorem vO (hF : FlP F) (hG : FlP G) (E : Emb G F φ g0 k0) {sa sb : List Int × List Int} (hR : StR G F φ k0 sa sb) (ha : VlP G sa.1) (hb : VlP F sb.1) {row ins : List Int}
    (hrow : ∀ s, s < G.ss.length → (G.ss.getD s sg0).k = 0 → row.getD (pwA G.ss 0 s).length 0 = (sgK F sb.1 ins).getD (φ s) 0) : ∀ s, s < G.ss.length → (sgK G sa.1 row).getD s 0 = (sgK F sb.1 ins).getD (φ s) 0 := by
  have hVF := yE hF (ins := ins) hb
  have hVo := rO hF (ins := ins) hb
  have hget : ∀ s, s < G.ss.length → ((List.range G.ss.length).map (fun s => (sgK F sb.1 ins).getD (φ s) 0)).getD s 0 = (sgK F sb.1 ins).getD (φ s) 0 := fun s hs => by
    rw [List.getD_eq_getElem?_getD, List.getElem?_map, List.getElem?_range hs]; rfl
  have key : (List.range G.ss.length).map (fun s => (sgK F sb.1 ins).getD (φ s) 0) = sgK G sa.1 row := by
    refine vQ hG ha ⟨by simp, fun s hs hn => ?_, fun x hx => ?_⟩
    · rw [hget s hs, sH ha.len _ (Nat.le_refl _)]
      obtain ⟨hp1, hp2⟩ := E.sl s hs
      by_cases hk : (G.ss.getD s sg0).k = 0
      · rw [if_pos ⟨hs, hk⟩, hrow s hs hk]
        have hr := hVo.rng _ hp1
        rw [hp2] at hr
        exact (jH (hG.sw hs) hr).symm
      · rw [if_neg (fun q => hk q.2)]
        rcases hG.src hs hk with ⟨j, hj, e⟩ | ⟨i, hi, e⟩
        · have hts : (G.gs.getD j as0).t.toNat = s := by omega
          have h3 : (G.ss.getD s sg0).k = 3 := Classical.byContradiction (fun h9 => hn (j : Int) (fP.2 ⟨j, hj, by rw [hts]; exact h9, rfl⟩) (by unfold tgN; rw [Int.toNat_natCast]; exact hts))
          rw [hR.reg s hs h3]
          have hFk : (F.ss.getD (φ s) sg0).k = 3 := by rw [← hts]; exact (E.tk hG hj).2 (by rw [hts]; exact h3)
          rw [hVF.base _ hp1 (fun x hx e9 => by
            obtain ⟨q, hq, hq2, rfl⟩ := fP.1 hx
            unfold tgN at e9; rw [Int.toNat_natCast] at e9
            rw [e9] at hq2; exact hq2 hFk), sH hb.len _ (Nat.le_refl _), if_neg (fun q => by omega)]
        · have hts : (G.ms.getD i mm0).o.toNat = s := by omega
          have h1 := hR.mo i hi
          rw [hts] at h1
          rw [h1]
          obtain ⟨m1, m2⟩ := E.ms i hi
          have m3 := (E.mem_o hi).1
          rw [hts] at m3
          have m4 := hF.mo m1
          rw [m3] at m4
          rw [hVF.base _ hp1 (fun x hx e9 => by
            obtain ⟨q, hq, hq2, rfl⟩ := fP.1 hx
            unfold tgN at e9; rw [Int.toNat_natCast] at e9
            have := (hF.as hq).1.1
            exact hF.mo_gs m1 hq (by omega)), sH hb.len _ (Nat.le_refl _), if_neg (fun q => by omega)]
    · obtain ⟨j, hj, hj2, rfl⟩ := fP.1 hx
      obtain ⟨h1, h2, h3⟩ := E.gs j hj
      have ht := (hG.as hj).1.1
      have hmem : ((g0 + j : Nat) : Int) ∈ todoA F F.gs.length := fP.2 ⟨g0 + j, h1, by rw [h2, Int.toNat_natCast]; exact fun q => hj2 ((E.tk hG hj).1 q), rfl⟩
      have h4 := hVF.eq _ hmem
      have e4 : tgN F ((g0 + j : Nat) : Int) = φ (G.gs.getD j as0).t.toNat := by unfold tgN; rw [Int.toNat_natCast, h2, Int.toNat_natCast]
      rw [e4] at h4
      show _ = vaN G _ (j : Int)
      rw [show tgN G (j : Int) = (G.gs.getD j as0).t.toNat by unfold tgN; rw [Int.toNat_natCast], hget _ (by omega), h4]
      exact E.ev hG (fun s hs => hget s hs) hj
  intro s hs
  rw [← key, hget s hs]
theorem yD (hF : FlP F) (hG : FlP G) (E : Emb G F φ g0 k0) {sa sb : List Int × List Int} (hR : StR G F φ k0 sa sb) {VG VF : List Int} (hVG : VlP G VG) (hVF : VlP F VF) (hla : sa.2.length = 4 * G.ms.length) (hlb : sb.2.length = 4 * F.ms.length) (hv : ∀ s, s < G.ss.length → VG.getD s 0 = VF.getD (φ s) 0) :
    StR G F φ k0 (nxV G sa.2 VG, nxW G sa.2 VG) (nxV F sb.2 VF, nxW F sb.2 VF) := by
  have hma : ∀ i, i < G.ms.length → (k0 + i < F.ms.length) ∧ ∃ j, j < 4 ∧ maK G VG i = ((4 * i + j : Nat) : Int) ∧ maK F VF (k0 + i) = ((4 * (k0 + i) + j : Nat) : Int) := fun i hi => by
    obtain ⟨m1, m2⟩ := E.ms i hi
    obtain ⟨o1, o2, o3, o4⟩ := E.mem_o hi
    have r1 := mV hG hVG hi
    refine ⟨m1, (VG.getD (G.ms.getD i mm0).a.toNat 0).toNat, ?_, ?_, ?_⟩
    · unfold maK at r1; omega
    · unfold maK at r1 ⊢; omega
    · have hm := (hG.mm hi).1
      have e := hv (G.ms.getD i mm0).a.toNat (by omega)
      unfold maK at r1 ⊢
      rw [o2, ← e]; omega
  refine ⟨fun s hs hk => ?_, fun i hi => ?_, fun i hi j hj => ?_⟩
  · rcases hG.src hs (by omega) with ⟨j, hj, e⟩ | ⟨i, hi, e⟩
    · have hts : (G.gs.getD j as0).t.toNat = s := by omega
      obtain ⟨h1, h2, h3⟩ := E.gs j hj
      have a1 := wC hG sa.2 VG hj (by rw [hts]; exact hk)
      have a2 := wC hF sb.2 VF h1 (by rw [h2, Int.toNat_natCast]; exact (E.tk hG hj).2 (by rw [hts]; exact hk))
      rw [h2, Int.toNat_natCast] at a2
      rw [hts] at a1 a2
      show (nxV G sa.2 VG).getD s 0 = (nxV F sb.2 VF).getD (φ s) 0
      rw [a1, a2]; exact (E.ev hG hv hj).symm
    · have := (hG.mo hi).2
      rw [show (G.ms.getD i mm0).o.toNat = s by omega] at this; omega
  · obtain ⟨m1, j, hj, e1, e2⟩ := hma i hi
    have b := wD hF sb.2 VF m1
    rw [(E.mem_o hi).1] at b
    show (nxV G sa.2 VG).getD _ 0 = (nxV F sb.2 VF).getD _ 0
    rw [wD hG sa.2 VG hi, b, e1, e2, Int.toNat_natCast, Int.toNat_natCast]
    exact hR.wd i hi j hj
  · obtain ⟨m1, q, hq, e1, e2⟩ := hma i hi
    obtain ⟨o1, o2, o3, o4⟩ := E.mem_o hi
    have hm := hG.mm hi
    show (nxW G sa.2 VG).getD _ 0 = (nxW F sb.2 VF).getD _ 0
    rw [zG hG hVG hla hi hj, zG hF hVF hlb m1 hj, e1, e2, o3, o4, ← hv _ (show (G.ms.getD i mm0).w.toNat < G.ss.length by omega), ← hv _ (show (G.ms.getD i mm0).d.toNat < G.ss.length by omega), hR.wd i hi j hj]
    have : (((4 * i + q : Nat) : Int) = ((4 * i + j : Nat) : Int)) ↔ (((4 * (k0 + i) + q : Nat) : Int) = ((4 * (k0 + i) + j : Nat) : Int)) := by omega
    simp only [this]
theorem qQ (hF : FlP F) (hG : FlP G) (E : Emb G F φ g0 k0) : StR G F φ k0 (staV G, staW G) (staV F, staW F) := by
  refine ⟨fun s hs hk => ?_, fun i hi => ?_, fun i hi j hj => ?_⟩
  · show (staA G G.ss.length).getD s 0 = (staA F F.ss.length).getD (φ s) 0
    obtain ⟨h1, h2⟩ := E.sl s hs
    have hp : isPt (G.ss.getD s sg0) = false := by
      cases h9 : isPt (G.ss.getD s sg0) with
      | false => rfl
      | true => have := dU.1 h9; omega
    obtain ⟨h3, h4⟩ := E.kd s hs hp
    rw [mH _ (Nat.le_refl _), mH _ (Nat.le_refl _), if_pos ⟨hs, hk⟩, if_pos ⟨h1, by omega⟩, h2, h4]
  · obtain ⟨m1, m2⟩ := E.ms i hi
    have g1 := (hG.mo hi).2
    have f1 := (hF.mo m1).2
    rw [(E.mem_o hi).1] at f1
    show (staA G G.ss.length).getD _ 0 = (staA F F.ss.length).getD _ 0
    rw [mH _ (Nat.le_refl _), mH _ (Nat.le_refl _), if_neg (fun q => by omega), if_neg (fun q => by omega)]
  · show (List.replicate _ (0 : Int)).getD _ 0 = (List.replicate _ (0 : Int)).getD _ 0
    rw [iA, iA]
theorem vP (hF : FlP F) (hG : FlP G) (E : Emb G F φ g0 k0) {I J : List (List Int)} {T : Nat} (hrow : ∀ t, t < T → ∀ s, s < G.ss.length → (G.ss.getD s sg0).k = 0 → (J.getD t []).getD (pwA G.ss 0 s).length 0 = (vlT F I t).getD (φ s) 0) : ∀ t, t < T → StR G F φ k0 (stT G J t) (stT F I t) ∧ ∀ s, s < G.ss.length → (vlT G J t).getD s 0 = (vlT F I t).getD (φ s) 0
  | 0, h0 => ⟨qQ hF hG E, vO hF hG E (qQ hF hG E) (iT hG J 0).v (iT hF I 0).v (fun s hs hk => hrow 0 h0 s hs hk)⟩
  | t + 1, ht => by
    obtain ⟨h1, h2⟩ := vP hF hG E hrow t (by omega)
    have h3 : StR G F φ k0 (stT G J (t + 1)) (stT F I (t + 1)) := yD hF hG E h1 (lS hG J t) (lS hF I t) (iT hG J t).w.len (iT hF I t).w.len h2
    exact ⟨h3, vO hF hG E h3 (iT hG J (t + 1)).v (iT hF I (t + 1)).v (fun s hs hk => hrow (t + 1) ht s hs hk)⟩
end
theorem iN {α : Type} {a b : List α} {d : α} {i : Nat} (h : i < a.length) : (a ++ b).getD i d = a.getD i d := by
  rw [List.getD_eq_getElem?_getD, List.getElem?_append_left h, ← List.getD_eq_getElem?_getD]
theorem kC {α : Type} {a b : List α} {d : α} {i : Nat} : (a ++ b).getD (a.length + i) d = b.getD i d := by
  rw [List.getD_eq_getElem?_getD, List.getElem?_append_right (by omega), Nat.add_sub_cancel_left, ← List.getD_eq_getElem?_getD]
theorem kK {α : Type} {a : List α} {x d : α} : (a ++ [x]).getD a.length d = x := by
  rw [show a.length = a.length + 0 from rfl, kC]; rfl
theorem lY (P E : List Oq) : ∀ i, i ≤ P.length → needK (P ++ E) i = needK P i
  | 0, _ => rfl
  | i + 1, h => by
    show needK (P ++ E) i + (arI ((P ++ E).getD i oq0).k - 1) = _
    rw [lY P E i (by omega), iN (by omega)]; rfl
theorem kV (P E : List Oq) : ∀ i, i ≤ E.length → needK (P ++ E) (P.length + i) = needK P P.length + needK E i - 1
  | 0, _ => by rw [Nat.add_zero, lY P E _ (Nat.le_refl _)]; show _ = _ + 1 - 1; omega
  | i + 1, h => by
    show needK (P ++ E) (P.length + i) + (arI ((P ++ E).getD (P.length + i) oq0).k - 1) = _
    rw [kV P E i (by omega), kC]
    show _ = needK P P.length + (needK E i + (arI (E.getD i oq0).k - 1)) - 1
    omega
def PartP (n : Int) (P : List Oq) (c : Int) : Prop := (∀ i, i < P.length → 1 ≤ needK P i ∧ OqP n (P.getD i oq0)) ∧ needK P P.length = c
theorem PartP.one {n : Int} {o : Oq} (h : OqP n o) : PartP n [o] (arI o.k) := ⟨fun i hi => by
  have : i = 0 := by have : i < 1 := hi; omega
  subst this; exact ⟨by show (1 : Int) ≤ 1; omega, h⟩, by show 1 + (arI o.k - 1) = _; omega⟩
theorem PartP.app {n : Int} {P E : List Oq} {c : Int} (h : PartP n P c) (hc : 1 ≤ c) (hE : PartP n E 0) : PartP n (P ++ E) (c - 1) := ⟨fun i hi => by
  rw [List.length_append] at hi
  by_cases e : i < P.length
  · rw [lY _ _ _ (by omega), iN e]; exact h.1 i e
  · obtain ⟨j, rfl⟩ : ∃ j, i = P.length + j := ⟨i - P.length, by omega⟩
    rw [kV _ _ _ (by omega), kC, h.2]
    have := hE.1 j (by omega)
    exact ⟨by omega, this.2⟩, by
  rw [List.length_append, kV _ _ _ (Nat.le_refl _), h.2, hE.2]; omega⟩
theorem PartP.ops {n : Int} {E : List Oq} (h : PartP n E 0) (hl : E.length ≤ 15) : OpsP n E := ⟨hl, fun i hi => ⟨by have := (h.1 i hi).1; omega, (h.1 i hi).2⟩, h.2⟩
theorem OqP.mono {n n' : Int} (h : n ≤ n') {o : Oq} (ho : OqP n o) : OqP n' o := by
  rcases ho with p | ⟨p1, ⟨p2, p3⟩, p4⟩ | ⟨p1, ⟨p2, p3⟩, p4⟩ | p
  · exact .inl p
  · exact .inr (.inl ⟨p1, ⟨p2, by omega⟩, p4⟩)
  · exact .inr (.inr (.inl ⟨p1, ⟨p2, by omega⟩, p4⟩))
  · exact .inr (.inr (.inr p))
theorem OpsP.mono {n n' : Int} (h : n ≤ n') {os : List Oq} (ho : OpsP n os) : OpsP n' os := ⟨ho.len, fun i hi => ⟨(ho.op i hi).1, (ho.op i hi).2.mono h⟩, ho.fin⟩
theorem stepQ (a q : Int) (k : Nat) : (a - ((k + 1 : Nat) : Int)) * q = (a - (k : Int)) * q - q := by
  rw [show a - ((k + 1 : Nat) : Int) = (a - (k : Int)) - 1 by omega, Int.sub_mul, Int.one_mul]
theorem arKind {x : Int} (h : x ∈ ([4, 5, 6, 7, 8, 9, 10, 11, 12, 7, 12] : List Int)) : 4 ≤ x ∧ x ≤ 12 := by
  simp only [List.mem_cons, List.not_mem_nil, or_false] at h; omega
theorem sV {x : Int} (h : 4 ≤ x ∧ x ≤ 12) : 1 ≤ arI x ∧ arI x ≤ 3 := by unfold arI; (repeat' split) <;> omega
def ExP (n M : Int) (os : List Oq) : Prop := PartP n os 0 ∧ 1 ≤ os.length ∧ (os.length : Int) ≤ M
theorem lD {n M : Int} {o : Oq} (h : OqP n o) (ha : arI o.k = 0) (hM : 1 ≤ M) : ExP n M [o] := ⟨by have := PartP.one h; rwa [ha] at this, by simp, by simpa using hM⟩
theorem kL {α : Type} (f : α → List Value) (xs : List α) (h : ∀ r u, u ∈ f r → u.oneCell' = true) : ∀ q ∈ xs.flatMap f, q.oneCell' = true := fun q hq => by
  obtain ⟨r, -, h2⟩ := List.mem_flatMap.1 hq
  exact h r q h2
theorem uF {α : Type} (f : α → List Value) (xs ys : List α) : xs.flatMap f ++ ys.flatMap f = (xs ++ ys).flatMap f := List.flatMap_append.symm
theorem gO {P : Program} {N : Nat} {w0 : World} {l : List HP} {env : List (Nat × Value)} {o : Oper} {t : TypeId} {ps : Array (Nat × Operand)} {vs : List (Nat × Value)} {cs : Array Value} (ho : o.op = .build t ps)
    (hp : ps.toList.mapM (fun p => (ev env p.2).map fun v => (p.1, v)) = some vs) (hb : ∀ w, Mem w0 l w → P.built t vs = some cs) : RunV P N w0 l env o (.agg cs) := fun a w st => cU ho hp (hb w st.mem) a w st
theorem Bm (n : Int) {M x : Int} (hx : 4 ≤ x ∧ x ≤ 12) : PartP n [Oq.mk x 0 0] (arI x - ((0 : Nat) : Int)) ∧ 1 ≤ ([Oq.mk x 0 0] : List Oq).length ∧ (([Oq.mk x 0 0] : List Oq).length : Int) + (arI x - ((0 : Nat) : Int)) * ((M - 1) / arI x) ≤ M := by
  have ha := sV hx
  have h0 : arI x - ((0 : Nat) : Int) = arI x := by omega
  have h1 : OqP n (Oq.mk x 0 0) := .inr (.inr (.inr ⟨by show x ≠ 0; omega, by show x ≠ 2; omega, by show x ≠ 3; omega, by show 0 ≤ arI x; omega, rfl, rfl⟩))
  rw [h0]
  refine ⟨PartP.one h1, by simp, ?_⟩
  have h2 := Int.mul_ediv_self_le (x := M - 1) (k := arI x) (by omega)
  show (1 : Int) + arI x * ((M - 1) / arI x) ≤ M
  omega
theorem exStep {n M x : Int} {k : Nat} {os es : List Oq} (hx : 4 ≤ x ∧ x ≤ 12) (hk : (k : Int) < arI x) (hP : PartP n os (arI x - (k : Int))) (h1 : 1 ≤ os.length) (hl : (os.length : Int) + (arI x - (k : Int)) * ((M - 1) / arI x) ≤ M) (hE : ExP n ((M - 1) / arI x) es) :
    PartP n (os ++ es) (arI x - ((k + 1 : Nat) : Int)) ∧ 1 ≤ (os ++ es).length ∧ ((os ++ es).length : Int) + (arI x - ((k + 1 : Nat) : Int)) * ((M - 1) / arI x) ≤ M := by
  obtain ⟨e1, e2, e3⟩ := hE
  refine ⟨?_, by rw [List.length_append]; omega, ?_⟩
  · have := hP.app (by omega) e1
    rwa [show arI x - (k : Int) - 1 = arI x - ((k + 1 : Nat) : Int) by omega] at this
  · rw [stepQ, List.length_append]; omega
theorem exEnd {n M x : Int} {k : Nat} {os : List Oq} (hk : (k : Int) = arI x) (hP : PartP n os (arI x - (k : Int))) (h1 : 1 ≤ os.length) (hl : (os.length : Int) + (arI x - (k : Int)) * ((M - 1) / arI x) ≤ M) : ExP n M os := by
  rw [show arI x - (k : Int) = 0 by omega] at hP hl
  rw [Int.zero_mul] at hl
  exact ⟨hP, h1, by omega⟩
theorem exLen {M x : Int} {k : Nat} {os : List Oq} (hx : 4 ≤ x ∧ x ≤ 12) (hM : 1 ≤ M) (hk : (k : Int) ≤ arI x) (hl : (os.length : Int) + (arI x - (k : Int)) * ((M - 1) / arI x) ≤ M) : (os.length : Int) ≤ M := by
  have ha := sV hx
  have h1 : 0 ≤ (M - 1) / arI x := Int.ediv_nonneg (by omega) (by omega)
  have h2 := Int.mul_nonneg (show 0 ≤ arI x - (k : Int) by omega) h1
  omega
theorem exQuo {M x : Int} (hx : 4 ≤ x ∧ x ≤ 12) (hM : 4 ≤ M) : 1 ≤ (M - 1) / arI x ∧ (M - 1) / arI x < M := by
  have ha := sV hx
  have h1 : (M - 1) / 3 ≤ (M - 1) / arI x := by
    rcases (by omega : arI x = 1 ∨ arI x = 2 ∨ arI x = 3) with e | e | e <;> rw [e] <;> omega
  have h2 : (M - 1) / arI x ≤ M - 1 := by
    rcases (by omega : arI x = 1 ∨ arI x = 2 ∨ arI x = 3) with e | e | e <;> rw [e] <;> omega
  omega
structure BldP (D : List Md) (m : Md) (P : List Int) : Prop where
  sg : ∀ s ∈ m.ss, SgP s
  gs : ∀ g ∈ m.gs, AsP m g
  xs : ∀ x ∈ m.xs, ((0 ≤ x.m ∧ x.m < D.length) ∧ x.ps.length = (ptsK (D.getD x.m.toNat md0)).length) ∧ IxP D m x
  ms : ∀ x ∈ m.ms, MmP m x
  dr : ∀ s, s < m.ss.length → (drvL D m).count (s : Int) = if (m.ss.getD s sg0).k = 0 then 0 else if (s : Int) ∈ P then 0 else 1
  pn : ∀ x ∈ P, 1 ≤ knd m x ∧ knd m x ≤ 3
theorem nV {m : Md} {x : Int} (h : 1 ≤ knd m x ∧ knd m x ≤ 3) : Inn m x := Classical.byContradiction fun h9 => by rw [fH h9] at h; omega
structure ExtD (m m' : Md) : Prop where
  len : m.ss.length ≤ m'.ss.length
  kk : ∀ i, i < m.ss.length → (m'.ss.getD i sg0).k = (m.ss.getD i sg0).k
theorem ExtD.knd {m m' : Md} (h : ExtD m m') {x : Int} (hx : Inn m x) : knd m' x = knd m x := by
  obtain ⟨h0, h1⟩ := hx; have := h.len
  rw [dH ⟨h0, by omega⟩, dH ⟨h0, h1⟩, h.kk _ (by omega)]
theorem ExtD.inn {m m' : Md} (h : ExtD m m') {x : Int} (hx : Inn m x) : Inn m' x := ⟨hx.1, by have := hx.2; have := h.len; omega⟩
theorem ExtD.drv {m m' : Md} (h : ExtD m m') {x : Int} (hx : Drv m x) : Drv m' x := by unfold Drv; rw [h.knd hx.inn]; exact hx
theorem ExtD.as {m m' : Md} (h : ExtD m m') {g : As} (hg : AsP m g) : AsP m' g := ⟨by rw [h.knd (nV hg.1)]; exact hg.1, hg.2.mono (by have := h.len; omega)⟩
theorem ExtD.ix {D : List Md} {m m' : Md} (h : ExtD m m') {x : Ix} (hx : IxP D m x) : IxP D m' x := ⟨hx.1, fun j hj => ⟨h.inn (hx.2 j hj).1, fun hk => h.drv ((hx.2 j hj).2 hk)⟩⟩
theorem ExtD.mm {m m' : Md} (h : ExtD m m') {x : Mm} (hx : MmP m x) : MmP m' x := ⟨⟨h.inn hx.1.1, h.inn hx.1.2.1, h.inn hx.1.2.2⟩, h.drv hx.2⟩
theorem Bk {m : Md} (v : Value) (l : List Sg) : ExtD m { m with sv := v, ss := m.ss ++ l } := ⟨by show m.ss.length ≤ (m.ss ++ l).length; rw [List.length_append]; omega, fun i hi => by show ((m.ss ++ l).getD i sg0).k = _; rw [iN hi]⟩
theorem BldP.inn {D : List Md} {m : Md} {P : List Int} (h : BldP D m P) {x : Int} (hx : x ∈ drvL D m) : Inn m x := by
  unfold drvL at hx
  rcases List.mem_append.1 hx with hx | hx
  · rcases List.mem_append.1 hx with hx | hx
    · obtain ⟨g, hg, rfl⟩ := List.mem_map.1 hx; exact nV (h.gs g hg).1
    · obtain ⟨g, hg, rfl⟩ := List.mem_map.1 hx; exact (h.ms g hg).2.inn
  · obtain ⟨g, hg, hx⟩ := List.mem_flatMap.1 hx
    have : ∀ j, j ≤ (ptsK (D.getD g.m.toNat md0)).length → x ∈ xoA D g j → Inn m x := by
      intro j
      induction j with
      | zero => intro _ h9; cases h9
      | succ j ih =>
        intro hj h9
        rcases List.mem_append.1 h9 with h9 | h9
        · exact ih (by omega) h9
        · split at h9
          · rw [List.mem_singleton] at h9; subst h9; exact ((h.xs g hg).2.2 j (by omega)).1
          · cases h9
    exact this _ (Nat.le_refl _) hx
theorem BldP.app {D : List Md} {m : Md} {P : List Int} (h : BldP D m P) (v : Value) {l : List Sg} (hl : ∀ s ∈ l, SgP s) {P' : List Int} (hP : ∀ x, x ∈ P' ↔ x ∈ P ∨ ∃ j, j < l.length ∧ (l.getD j sg0).k ≠ 0 ∧ x = ((m.ss.length + j : Nat) : Int)) : BldP D { m with sv := v, ss := m.ss ++ l } P' := by
  have e := Bk (m := m) v l
  refine ⟨fun s hs => ?_, fun g hg => e.as (h.gs g hg), fun x hx => ⟨(h.xs x hx).1, e.ix (h.xs x hx).2⟩, fun x hx => e.mm (h.ms x hx), fun s hs => ?_, fun x hx => ?_⟩
  · rcases List.mem_append.1 hs with hs | hs
    · exact h.sg s hs
    · exact hl s hs
  · show (drvL D m).count (s : Int) = if ((m.ss ++ l).getD s sg0).k = 0 then 0 else if (s : Int) ∈ P' then 0 else 1
    have hs' : s < (m.ss ++ l).length := hs
    rw [List.length_append] at hs'
    by_cases e9 : s < m.ss.length
    · rw [iN e9, h.dr s e9]
      split
      · rfl
      · by_cases hp : (s : Int) ∈ P
        · rw [if_pos hp, if_pos ((hP _).2 (.inl hp))]
        · rw [if_neg hp, if_neg (fun h8 => (hP _).1 h8 |>.elim hp (fun ⟨j, _, _, h7⟩ => by omega))]
    · obtain ⟨j, rfl⟩ : ∃ j, s = m.ss.length + j := ⟨s - m.ss.length, by omega⟩
      rw [kC, List.count_eq_zero.2 (fun h9 => by have := (h.inn h9).2; omega)]
      split
      · rfl
      · rename_i hk; rw [if_pos ((hP _).2 (.inr ⟨j, by omega, hk, rfl⟩))]
  · rcases (hP x).1 hx with hx | ⟨j, hj, hk, rfl⟩
    · rw [e.knd (nV (h.pn x hx))]; exact h.pn x hx
    · rw [dH ⟨by omega, by show _ < (((m.ss ++ l).length : Nat) : Int); rw [List.length_append]; omega⟩]
      show 1 ≤ ((m.ss ++ l).getD (((m.ss.length + j : Nat) : Int)).toNat sg0).k ∧ _ ≤ _
      rw [Int.toNat_natCast, kC]
      have := (hl _ (cV (d := sg0) hj)).1; omega
theorem BldP.assign {D : List Md} {m : Md} {P : List Int} (h : BldP D m P) (v : Value) {s : Int} (hs : s ∈ P) (ov : Value) {os : List Oq} (ho : OpsP m.ss.length os) {P' : List Int} (hP : ∀ x, x ∈ P' ↔ x ∈ P ∧ x ≠ s) : BldP D { m with av := v, gs := m.gs ++ [As.mk s ov os] } P' := by
  refine ⟨h.sg, fun g hg => ?_, h.xs, h.ms, fun q hq => ?_, fun x hx => h.pn x ((hP x).1 hx).1⟩
  · rcases List.mem_append.1 hg with hg | hg
    · exact h.gs g hg
    · rw [List.mem_singleton] at hg; subst hg; exact ⟨h.pn s hs, ho⟩
  · have h1 := h.dr q hq
    have e : (drvL D { m with av := v, gs := m.gs ++ [As.mk s ov os] }).count (q : Int) = (drvL D m).count (q : Int) + if s = (q : Int) then 1 else 0 := by
      unfold drvL
      show List.count _ ((m.gs ++ [As.mk s ov os]).map As.t ++ m.ms.map Mm.o ++ m.xs.flatMap (xoK D)) = _
      rw [List.map_append]
      simp only [List.count_append]
      have : ([As.mk s ov os].map As.t).count (q : Int) = if s = (q : Int) then 1 else 0 := by
        show [s].count (q : Int) = _
        rw [List.count_singleton]; by_cases e : s = (q : Int) <;> simp [e]
      omega
    rw [e, h1]
    show _ = if (m.ss.getD q sg0).k = 0 then 0 else _
    have hk := h.pn s hs
    by_cases e2 : s = (q : Int)
    · subst e2
      have hq' : q < m.ss.length := hq
      rw [dH ⟨by omega, by omega⟩, Int.toNat_natCast] at hk
      rw [if_neg (by omega), if_pos hs, if_pos rfl, if_neg (by omega), if_neg (fun h9 => ((hP _).1 h9).2 rfl)]
    · rw [if_neg e2, Nat.add_zero]
      split
      · rfl
      · by_cases hp : (q : Int) ∈ P
        · rw [if_pos hp, if_pos ((hP _).2 ⟨hp, fun h9 => e2 h9.symm⟩)]
        · rw [if_neg hp, if_neg (fun h9 => hp ((hP _).1 h9).1)]
theorem BldP.mem {D : List Md} {m : Md} {P : List Int} (h : BldP D m P) (v : Value) {x : Mm} (hx : MmP m x) (ho : x.o ∈ P) {P' : List Int} (hP : ∀ y, y ∈ P' ↔ y ∈ P ∧ y ≠ x.o) : BldP D { m with mv := v, ms := m.ms ++ [x] } P' := by
  refine ⟨h.sg, h.gs, h.xs, fun g hg => ?_, fun q hq => ?_, fun y hy => h.pn y ((hP y).1 hy).1⟩
  · rcases List.mem_append.1 hg with hg | hg
    · exact h.ms g hg
    · rw [List.mem_singleton] at hg; subst hg; exact hx
  · have h1 := h.dr q hq
    have e : (drvL D { m with mv := v, ms := m.ms ++ [x] }).count (q : Int) = (drvL D m).count (q : Int) + if x.o = (q : Int) then 1 else 0 := by
      unfold drvL
      show List.count _ (m.gs.map As.t ++ (m.ms ++ [x]).map Mm.o ++ m.xs.flatMap (xoK D)) = _
      rw [List.map_append]
      simp only [List.count_append]
      have : ([x].map Mm.o).count (q : Int) = if x.o = (q : Int) then 1 else 0 := by
        show [x.o].count (q : Int) = _
        rw [List.count_singleton]; by_cases e : x.o = (q : Int) <;> simp [e]
      omega
    rw [e, h1]
    show _ = if (m.ss.getD q sg0).k = 0 then 0 else _
    have hk := h.pn _ ho
    by_cases e2 : x.o = (q : Int)
    · have hq' : q < m.ss.length := hq
      rw [e2] at hk ho
      rw [dH ⟨by omega, by omega⟩, Int.toNat_natCast] at hk
      rw [if_neg (by omega), if_pos ho, if_pos e2, if_neg (by omega), if_neg (fun h9 => ((hP _).1 h9).2 e2.symm)]
    · rw [if_neg e2, Nat.add_zero]
      split
      · rfl
      · by_cases hp : (q : Int) ∈ P
        · rw [if_pos hp, if_pos ((hP _).2 ⟨hp, fun h9 => e2 h9.symm⟩)]
        · rw [if_neg hp, if_neg (fun h9 => hp ((hP _).1 h9).1)]
theorem BldP.inst {D : List Md} {m : Md} {P : List Int} (h : BldP D m P) (v : Value) {x : Ix} (hx : ((0 ≤ x.m ∧ x.m < D.length) ∧ x.ps.length = (ptsK (D.getD x.m.toNat md0)).length) ∧ IxP D m x) (hn : (xoK D x).Nodup) (ho : ∀ y ∈ xoK D x, y ∈ P) {P' : List Int} (hP : ∀ y, y ∈ P' ↔ y ∈ P ∧ y ∉ xoK D x) : BldP D { m with iv := v, xs := m.xs ++ [x] } P' := by
  refine ⟨h.sg, h.gs, fun g hg => ?_, h.ms, fun q hq => ?_, fun y hy => h.pn y ((hP y).1 hy).1⟩
  · rcases List.mem_append.1 hg with hg | hg
    · exact h.xs g hg
    · rw [List.mem_singleton] at hg; subst hg; exact hx
  · have h1 := h.dr q hq
    have e : (drvL D { m with iv := v, xs := m.xs ++ [x] }).count (q : Int) = (drvL D m).count (q : Int) + (xoK D x).count (q : Int) := by
      unfold drvL
      show List.count _ (m.gs.map As.t ++ m.ms.map Mm.o ++ (m.xs ++ [x]).flatMap (xoK D)) = _
      rw [List.flatMap_append]
      simp only [List.count_append, List.flatMap_cons, List.flatMap_nil, List.append_nil]
      omega
    rw [e, h1]
    show _ = if (m.ss.getD q sg0).k = 0 then 0 else _
    by_cases e2 : (q : Int) ∈ xoK D x
    · have hq' : q < m.ss.length := hq
      have hk := h.pn _ (ho _ e2)
      rw [dH ⟨by omega, by omega⟩, Int.toNat_natCast] at hk
      have h3 := List.nodup_iff_count.1 hn (q : Int)
      have h4 := List.count_pos_iff.2 e2
      rw [if_neg (by omega), if_pos (ho _ e2), if_neg (by omega), if_neg (fun h9 => ((hP _).1 h9).2 e2)]; omega
    · rw [List.count_eq_zero.2 e2, Nat.add_zero]
      split
      · rfl
      · by_cases hp : (q : Int) ∈ P
        · rw [if_pos hp, if_pos ((hP _).2 ⟨hp, e2⟩)]
        · rw [if_neg hp, if_neg (fun h9 => hp ((hP _).1 h9).1)]
theorem BldP.start (D : List Md) : BldP D md0 [] := ⟨fun s hs => (by cases hs), fun s hs => (by cases hs), fun s hs => (by cases hs), fun s hs => (by cases hs), fun s hs => absurd hs (by show ¬ s < 0; omega), fun s hs => (by cases hs)⟩
def nPt (ss : List Sg) : Nat := (ss.filter isPt).length
theorem lG (a b : List Sg) : nPt (a ++ b) = nPt a + nPt b := by unfold nPt; rw [List.filter_append, List.length_append]
theorem tI (ss : List Sg) : ∀ i, i ≤ ss.length → (ptsA ss i).length = nPt (ss.take i)
  | 0, _ => rfl
  | i + 1, hi => by
    have h1 := tI ss i (by omega)
    rw [eU sg0 (show i < ss.length by omega), lG]
    unfold ptsA; rw [List.length_append, h1]; unfold nPt
    by_cases e : isPt (ss.getD i sg0) = true
    · rw [if_pos e, List.filter_cons_of_pos e]; rfl
    · rw [if_neg e, List.filter_cons_of_neg e]; rfl
theorem yR {m : Md} (h : m.ss.length ≤ 30) : (ptsK m).length = nPt m.ss := by
  unfold ptsK; rw [if_pos h, tI _ _ (Nat.le_refl _), List.take_length]
theorem nPt_le (ss : List Sg) : nPt ss ≤ ss.length := List.length_filter_le _ _
theorem Be {s : Sg} (h : s.k ≠ 0 ∧ s.k ≠ 1) : nPt [s] = 0 := by
  unfold nPt; rw [List.filter_cons_of_neg (fun h9 => (dU.1 h9).elim h.1 h.2)]; rfl
theorem wI (s : Sg) : nPt [s] ≤ 1 := nPt_le [s]
structure DmP (D : List Md) (m : Md) : Prop where
  b : BldP D m []
  len : LenP m
  pt : nPt m.ss ≤ 4
structure DdP (D : List Md) : Prop where
  md : ∀ k, k < D.length → DmP (D.take k) (D.getD k md0)
  len : D.length ≤ 3
theorem DdP.nil : DdP [] := ⟨fun k hk => absurd hk (by simp), by simp⟩
theorem DdP.app {D : List Md} (h : DdP D) (hl : D.length < 3) {m : Md} (hm : DmP D m) : DdP (D ++ [m]) := ⟨fun k hk => by
  rw [List.length_append, List.length_singleton] at hk
  by_cases e : k < D.length
  · rw [List.take_append_of_le_length (by omega), iN e]; exact h.md k e
  · obtain rfl : k = D.length := by omega
    rw [List.take_append_of_le_length (Nat.le_refl _), List.take_length, kK]; exact hm, by rw [List.length_append, List.length_singleton]; omega⟩
theorem tX {D : List Md} {k : Nat} {m : Md} {x : Ix} (h0 : 0 ≤ x.m ∧ x.m < k) (hk : k ≤ D.length) : (D.take k).getD x.m.toNat md0 = D.getD x.m.toNat md0 := by
  rw [List.getD_eq_getElem?_getD, List.getElem?_take_of_lt (by omega), ← List.getD_eq_getElem?_getD]
theorem qO {D D' : List Md} {x : Ix} (h : D'.getD x.m.toNat md0 = D.getD x.m.toNat md0) : ∀ j, xoA D' x j = xoA D x j
  | 0 => rfl
  | j + 1 => by unfold xoA; rw [qO h j, h]
theorem pR {α : Type} {f g : α → List Int} : ∀ {L : List α}, (∀ x ∈ L, f x = g x) → L.flatMap f = L.flatMap g
  | [], _ => rfl
  | a :: L, h => by rw [List.flatMap_cons, List.flatMap_cons, h a (by simp), pR (L := L) (fun x hx => h x (by simp [hx]))]
theorem DdP.ok {D : List Md} (h : DdP D) (h1 : 1 ≤ D.length) : DesP D := by
  have hl := h.len
  have hcnt : CntP D := ⟨by omega, fun k hk => (h.md k hk).len⟩
  refine ⟨⟨h1, by omega⟩, fun k hk => ?_⟩
  have hm := h.md k hk
  have hlt : (D.take k).length = k := by rw [List.length_take]; omega
  have hx : ∀ i, i < (D.getD k md0).xs.length → ((0 ≤ ((D.getD k md0).xs.getD i ix0).m ∧ ((D.getD k md0).xs.getD i ix0).m < k) ∧ ((D.getD k md0).xs.getD i ix0).ps.length = (ptsK (D.getD ((D.getD k md0).xs.getD i ix0).m.toNat md0)).length) ∧ IxP D (D.getD k md0) ((D.getD k md0).xs.getD i ix0) := by
    intro i hi
    have h2 := hm.b.xs _ (cV (d := ix0) hi)
    rw [hlt] at h2
    have h3 := tX (D := D) (m := md0) h2.1.1 (by omega)
    obtain ⟨⟨h4, h5⟩, h6⟩ := h2
    rw [h3] at h5
    unfold IxP at h6
    rw [h3] at h6
    exact ⟨⟨h4, h5⟩, h6⟩
  refine ⟨hk, hcnt, fun i hi => (hx i hi).1, fun i hi => hm.b.sg _ (cV hi), fun i hi => hm.b.gs _ (cV hi), fun i hi => (hx i hi).2, fun i hi => hm.b.ms _ (cV hi), fun s hs hk0 => ?_⟩
  have h2 := hm.b.dr s hs
  rw [if_neg hk0, if_neg (by simp)] at h2
  rw [← h2]
  unfold drvL
  have : (D.getD k md0).xs.flatMap (xoK D) = (D.getD k md0).xs.flatMap (xoK (D.take k)) := by
    refine pR (fun x hx9 => ?_)
    obtain ⟨i, hi, rfl⟩ : ∃ i, i < (D.getD k md0).xs.length ∧ (D.getD k md0).xs.getD i ix0 = x := by
      obtain ⟨i, hi, e⟩ := List.getElem_of_mem hx9; exact ⟨i, hi, by rw [List.getD_eq_getElem?_getD, List.getElem?_eq_getElem hi]; exact e⟩
    have h3 := tX (D := D) (m := md0) (hx i hi).1.1 (by omega)
    unfold xoK; rw [h3, qO h3]
  rw [this]
def agK (k : Nat) (v : Value) : Value := match v with | .agg xs => xs.getD k undef | _ => undef
def RdP (w : World) (m : Md) : Prop := RdsW w m.av 2 m.gs.length (m.gs.flatMap asC) ∧ OpsR w m.gs ∧ PtsR w m.xs
theorem qF (w : World) (s : Nat) : RdsW w (.slice none 0 0) s 0 [] := ⟨_, _, rfl, by simp, ⟨by decide, by decide⟩, fun h => absurd h (by decide)⟩
theorem RdP.nil (w : World) : RdP w md0 := ⟨qF w 2, OpsR.nil w, PtsR.nil w⟩
theorem rN {k w i : Int} (hk : 0 ≤ k ∧ k ≤ 3) (hw : 0 ≤ w ∧ w ≤ 4) (hi : 0 ≤ i ∧ i ≤ 15) (h : i ≠ 0 → k = 3) : SgP (Sg.mk k w i) := ⟨hk, hw, hi, h⟩
theorem pL {k w i : Int} (h : k ≠ 0 ∧ k ≠ 1) : nPt [Sg.mk k w i] = 0 := Be h
structure MI (D : List Md) (m : Md) (A P : List Int) (ns ng nx nm np na : Nat) : Prop where
  b : BldP D m P
  av : ∀ x ∈ A, 0 ≤ x ∧ x < m.ss.length
  ns : m.ss.length ≤ ns
  ng : m.gs.length ≤ ng
  nx : m.xs.length ≤ nx
  nm : m.ms.length ≤ nm
  np : nPt m.ss ≤ np
  na : A.length ≤ na
section
variable {D : List Md} {m : Md} {A P : List Int} {ns ng nx nm np na : Nat}
theorem MI.start (D : List Md) : MI D md0 [] [] 0 0 0 0 0 0 := ⟨BldP.start D, fun x hx => (by cases hx), Nat.le_refl _, Nat.le_refl _, Nat.le_refl _, Nat.le_refl _, Nat.le_refl _, Nat.le_refl _⟩
theorem MI.up (h : MI D m A P ns ng nx nm np na) {a b c d e f : Nat} (h1 : ns ≤ a) (h2 : ng ≤ b) (h3 : nx ≤ c) (h4 : nm ≤ d) (h5 : np ≤ e) (h6 : na ≤ f) : MI D m A P a b c d e f := ⟨h.b, h.av, by have := h.ns; omega, by have := h.ng; omega, by have := h.nx; omega, by have := h.nm; omega, by have := h.np; omega, by have := h.na; omega⟩
theorem BldP.sig {P' : List Int} (h : BldP D m P) (v : Value) {s : Sg} (hs : SgP s) (hP : ∀ x, x ∈ P' ↔ x ∈ P ∨ (s.k ≠ 0 ∧ x = (m.ss.length : Int))) : BldP D (Md.mk v m.av m.iv m.mv (m.ss ++ [s]) m.gs m.xs m.ms) P' :=
  h.app v (l := [s]) (fun x hx => by rw [List.mem_singleton] at hx; subst hx; exact hs) (fun x => (hP x).trans ⟨fun hx => hx.imp id (fun ⟨h1, h2⟩ => ⟨0, by simp, h1, by rw [h2]; omega⟩), fun hx => hx.imp id (fun ⟨j, hj, hk, e⟩ => by
    have : j = 0 := by have : j < 1 := hj; omega
    subst this; exact ⟨hk, by rw [e]; omega⟩)⟩)
theorem av_app (hA : ∀ x ∈ A, 0 ≤ x ∧ x < m.ss.length) (l : List Sg) : ∀ x ∈ A, 0 ≤ x ∧ x < ((m.ss ++ l).length : Int) := fun x hx => by
  have := hA x hx; rw [List.length_append]; omega
theorem MI.sig {P' : List Int} (h : MI D m A P ns ng nx nm np na) (v : Value) {s : Sg} (hs : SgP s) {e : Nat} (hn : nPt [s] ≤ e) (hP : ∀ x, x ∈ P' ↔ x ∈ P ∨ (s.k ≠ 0 ∧ x = (m.ss.length : Int))) : MI D (Md.mk v m.av m.iv m.mv (m.ss ++ [s]) m.gs m.xs m.ms) A P' (ns + 1) ng nx nm (np + e) na :=
  ⟨h.b.sig v hs hP, av_app h.av _, by have := h.ns; show (m.ss ++ [s]).length ≤ _; rw [List.length_append, List.length_singleton]; omega, h.ng, h.nx, h.nm, by have := h.np; show nPt (m.ss ++ [s]) ≤ _; rw [lG]; omega, h.na⟩
theorem MI.avl (h : MI D m A P ns ng nx nm np na) {L : List Int} (hL : ∀ x ∈ L, 0 ≤ x ∧ x < m.ss.length) {e : Nat} (he : L.length ≤ e) : MI D m (A ++ L) P ns ng nx nm np (na + e) :=
  ⟨h.b, fun x hx => (List.mem_append.1 hx).elim (h.av x) (hL x), h.ns, h.ng, h.nx, h.nm, h.np, by have := h.na; rw [List.length_append]; omega⟩
theorem rZ (v : Value) (s : Sg) : ∀ x ∈ [(m.ss.length : Int)], 0 ≤ x ∧ x < ((m.ss ++ [s]).length : Int) := fun x hx => by
  rw [List.mem_singleton] at hx; subst hx; rw [List.length_append, List.length_singleton]; omega
theorem MI.inp (h : MI D m A P ns ng nx nm np na) (v : Value) {w : Int} (hw : 0 ≤ w ∧ w ≤ 4) : MI D (Md.mk v m.av m.iv m.mv (m.ss ++ [Sg.mk 0 w 0]) m.gs m.xs m.ms) (A ++ [(m.ss.length : Int)]) P (ns + 1) ng nx nm (np + 1) (na + 1) :=
  (h.sig v (s := Sg.mk 0 w 0) (rN ⟨by decide, by decide⟩ hw ⟨by decide, by decide⟩ (fun h9 => absurd rfl h9)) (wI _) (fun x => ⟨.inl, fun hx => hx.elim id (fun h9 => absurd rfl h9.1)⟩)).avl (rZ v _) (by simp)
theorem MI.reg (h : MI D m A P ns ng nx nm np na) (v : Value) {w i : Int} (hw : 0 ≤ w ∧ w ≤ 4) (hi : 0 ≤ i ∧ i ≤ 15) : MI D (Md.mk v m.av m.iv m.mv (m.ss ++ [Sg.mk 3 w i]) m.gs m.xs m.ms) (A ++ [(m.ss.length : Int)]) (P ++ [(m.ss.length : Int)]) (ns + 1) ng nx nm np (na + 1) :=
  (h.sig v (s := Sg.mk 3 w i) (P' := P ++ [(m.ss.length : Int)]) (rN ⟨by decide, by decide⟩ hw hi (fun _ => rfl)) (e := 0) (Nat.le_of_eq (pL ⟨by decide, by decide⟩)) (fun x => by rw [List.mem_append, List.mem_singleton]; exact ⟨fun hx => hx.imp id (fun h9 => ⟨(show (3 : Int) ≠ 0 by decide), h9⟩), fun hx => hx.imp id (·.2)⟩)).avl (rZ v _) (by simp)
theorem MI.wire {P' : List Int} (h : MI D m A P ns ng nx nm np na) (v : Value) {w : Int} (hw : 0 ≤ w ∧ w ≤ 4) (hP : ∀ x, x ∈ P' ↔ x ∈ P ∨ x = (m.ss.length : Int)) : MI D (Md.mk v m.av m.iv m.mv (m.ss ++ [Sg.mk 2 w 0]) m.gs m.xs m.ms) A P' (ns + 1) ng nx nm np na :=
  h.sig v (s := Sg.mk 2 w 0) (rN ⟨by decide, by decide⟩ hw ⟨by decide, by decide⟩ (fun h9 => absurd rfl h9)) (e := 0) (Nat.le_of_eq (pL ⟨by decide, by decide⟩)) (fun x => (hP x).trans ⟨fun hx => hx.imp id (fun h9 => ⟨(show (2 : Int) ≠ 0 by decide), h9⟩), fun hx => hx.imp id (·.2)⟩)
theorem MI.out {P' : List Int} (h : MI D m A P ns ng nx nm np na) (v : Value) {k w : Int} (hk : k = 1 ∨ k = 2) (hw : 0 ≤ w ∧ w ≤ 4) (hP : ∀ x, x ∈ P' ↔ x ∈ P ∨ x = (m.ss.length : Int)) : MI D (Md.mk v m.av m.iv m.mv (m.ss ++ [Sg.mk k w 0]) m.gs m.xs m.ms) A P' (ns + 1) ng nx nm (np + 1) na :=
  h.sig v (s := Sg.mk k w 0) ⟨⟨by show 0 ≤ k; omega, by show k ≤ 3; omega⟩, hw, ⟨by show (0 : Int) ≤ 0; omega, by show (0 : Int) ≤ 15; omega⟩, fun h9 => absurd rfl h9⟩ (wI _) (fun x => (hP x).trans ⟨fun hx => hx.imp id (fun h9 => ⟨by show k ≠ 0; omega, h9⟩), fun hx => hx.imp id (·.2)⟩)
theorem MI.asg {P' : List Int} (h : MI D m A P ns ng nx nm np na) (v : Value) {s : Int} (hs : s ∈ P) (ov : Value) {n : Int} {os : List Oq} (ho : ExP n 9 os) (hn : n ≤ m.ss.length) (hP : ∀ x, x ∈ P' ↔ x ∈ P ∧ x ≠ s) : MI D (Md.mk m.sv v m.iv m.mv m.ss (m.gs ++ [As.mk s ov os]) m.xs m.ms) A P' ns (ng + 1) nx nm np na :=
  ⟨h.b.assign v hs ov ((ho.1.ops (by have := ho.2.2; omega)).mono hn) hP, h.av, h.ns, by have := h.ng; show (m.gs ++ [As.mk s ov os]).length ≤ _; rw [List.length_append, List.length_singleton]; omega, h.nx, h.nm, h.np, h.na⟩
theorem MI.ist {P' : List Int} (h : MI D m A P ns ng nx nm np na) (v : Value) {x : Ix} (hx : ((0 ≤ x.m ∧ x.m < D.length) ∧ x.ps.length = (ptsK (D.getD x.m.toNat md0)).length) ∧ IxP D m x) (hn : (xoK D x).Nodup) (ho : ∀ y ∈ xoK D x, y ∈ P) (hP : ∀ y, y ∈ P' ↔ y ∈ P ∧ y ∉ xoK D x) : MI D (Md.mk m.sv m.av v m.mv m.ss m.gs (m.xs ++ [x]) m.ms) A P' ns ng (nx + 1) nm np na :=
  ⟨h.b.inst v hx hn ho hP, h.av, h.ns, h.ng, by have := h.nx; show (m.xs ++ [x]).length ≤ _; rw [List.length_append, List.length_singleton]; omega, h.nm, h.np, h.na⟩
theorem MI.fin (h : MI D m A [] ns ng nx nm np na) (h1 : ns ≤ 30) (h2 : ng ≤ 30) (h3 : nx ≤ 3) (h4 : nm ≤ 2) (h5 : np ≤ 4) : DmP D m := ⟨h.b, ⟨by have := h.ns; omega, by have := h.ng; omega, by have := h.nx; omega, by have := h.nm; omega⟩, by have := h.np; omega⟩
theorem MI.mm4 {R : List Int} (h : MI D m A R ns ng nx nm np na) (v v' : Value) {w : Int} (hw : 0 ≤ w ∧ w ≤ 4) :
    MI D (Md.mk v m.av m.iv v' (m.ss ++ [Sg.mk 2 2 0, Sg.mk 2 w 0, Sg.mk 2 1 0, Sg.mk 2 w 0]) m.gs m.xs (m.ms ++ [Mm.mk m.ss.length (m.ss.length + 1) (m.ss.length + 2) (m.ss.length + 3)])) (A ++ [(m.ss.length : Int) + 3]) (R ++ [(m.ss.length : Int), (m.ss.length : Int) + 1, (m.ss.length : Int) + 2]) (ns + 4) ng nx (nm + 1) np (na + 1) := by
  have hl4 : (m.ss ++ [Sg.mk 2 2 0, Sg.mk 2 w 0, Sg.mk 2 1 0, Sg.mk 2 w 0]).length = m.ss.length + 4 := by rw [List.length_append]; rfl
  have h1 : BldP D { m with sv := v, ss := m.ss ++ [Sg.mk 2 2 0, Sg.mk 2 w 0, Sg.mk 2 1 0, Sg.mk 2 w 0] } (R ++ [(m.ss.length : Int), (m.ss.length : Int) + 1, (m.ss.length : Int) + 2, (m.ss.length : Int) + 3]) := by
    refine h.b.app v (fun s hs => ?_) (fun x => ?_)
    · simp only [List.mem_cons, List.not_mem_nil, or_false] at hs
      rcases hs with rfl | rfl | rfl | rfl <;> exact rN ⟨by decide, by decide⟩ (by first | exact hw | decide) ⟨by decide, by decide⟩ (fun h9 => absurd rfl h9)
    · rw [List.mem_append]
      simp only [List.mem_cons, List.not_mem_nil, or_false]
      constructor
      · rintro (h9 | rfl | rfl | rfl | rfl)
        · exact .inl h9
        · exact .inr ⟨0, by simp, (show (2 : Int) ≠ 0 by decide), by omega⟩
        · exact .inr ⟨1, by simp, (show (2 : Int) ≠ 0 by decide), by omega⟩
        · exact .inr ⟨2, by simp, (show (2 : Int) ≠ 0 by decide), by omega⟩
        · exact .inr ⟨3, by simp, (show (2 : Int) ≠ 0 by decide), by omega⟩
      · rintro (h9 | ⟨j, hj, -, rfl⟩)
        · exact .inl h9
        · have hj4 : j < 4 := hj
          right
          rcases (by omega : j = 0 ∨ j = 1 ∨ j = 2 ∨ j = 3) with rfl | rfl | rfl | rfl <;> omega
  have hR : ∀ x ∈ R, x < (m.ss.length : Int) := fun x hx => (nV (h.b.pn x hx)).2
  have hk : ∀ j : Nat, j < 4 → knd { m with sv := v, ss := m.ss ++ [Sg.mk 2 2 0, Sg.mk 2 w 0, Sg.mk 2 1 0, Sg.mk 2 w 0] } ((m.ss.length : Int) + (j : Int)) = 2 := fun j hj => by
    have hi : (0 : Int) ≤ (m.ss.length : Int) + (j : Int) ∧ (m.ss.length : Int) + (j : Int) < ((m.ss ++ [Sg.mk 2 2 0, Sg.mk 2 w 0, Sg.mk 2 1 0, Sg.mk 2 w 0]).length : Int) := by rw [hl4]; omega
    rw [dH hi]
    show ((m.ss ++ [Sg.mk 2 2 0, Sg.mk 2 w 0, Sg.mk 2 1 0, Sg.mk 2 w 0]).getD (((m.ss.length : Int) + (j : Int)).toNat) sg0).k = 2
    rw [show (((m.ss.length : Int) + (j : Int)).toNat) = m.ss.length + j by omega, kC]
    rcases (by omega : j = 0 ∨ j = 1 ∨ j = 2 ∨ j = 3) with rfl | rfl | rfl | rfl <;> rfl
  have h2 : BldP D { ({ m with sv := v, ss := m.ss ++ [Sg.mk 2 2 0, Sg.mk 2 w 0, Sg.mk 2 1 0, Sg.mk 2 w 0] } : Md) with mv := v', ms := m.ms ++ [Mm.mk m.ss.length (m.ss.length + 1) (m.ss.length + 2) (m.ss.length + 3)] } (R ++ [(m.ss.length : Int), (m.ss.length : Int) + 1, (m.ss.length : Int) + 2]) := by
    refine h1.mem v' (x := Mm.mk m.ss.length (m.ss.length + 1) (m.ss.length + 2) (m.ss.length + 3)) ⟨⟨⟨by show (0 : Int) ≤ m.ss.length; omega, by show _ < ((_ : Nat) : Int); rw [hl4]; show (m.ss.length : Int) < _; omega⟩, ⟨by show (0 : Int) ≤ m.ss.length + 1; omega, by show _ < ((_ : Nat) : Int); rw [hl4]; show (m.ss.length : Int) + 1 < _; omega⟩, ⟨by show (0 : Int) ≤ m.ss.length + 2; omega, by show _ < ((_ : Nat) : Int); rw [hl4]; show (m.ss.length : Int) + 2 < _; omega⟩⟩, .inr (hk 3 (by decide))⟩ (by show (m.ss.length : Int) + 3 ∈ _; simp) (fun y => ?_)
    show _ ↔ _ ∧ y ≠ (m.ss.length : Int) + 3
    simp only [List.mem_append, List.mem_cons, List.not_mem_nil, or_false]
    constructor
    · rintro (h9 | h9 | h9 | h9)
      · exact ⟨.inl h9, by have := hR y h9; omega⟩
      · exact ⟨.inr (.inl h9), by omega⟩
      · exact ⟨.inr (.inr (.inl h9)), by omega⟩
      · exact ⟨.inr (.inr (.inr (.inl h9))), by omega⟩
    · rintro ⟨h9 | h9 | h9 | h9 | h9, h8⟩
      · exact .inl h9
      · exact .inr (.inl h9)
      · exact .inr (.inr (.inl h9))
      · exact .inr (.inr (.inr h9))
      · exact absurd h9 h8
  refine ⟨h2, fun x hx => ?_, by show (m.ss ++ _).length ≤ _; rw [hl4]; have := h.ns; omega, h.ng, h.nx, by have := h.nm; show (m.ms ++ [_]).length ≤ _; rw [List.length_append, List.length_singleton]; omega, ?_, by have := h.na; rw [List.length_append, List.length_singleton]; omega⟩
  · show 0 ≤ x ∧ x < ((m.ss ++ [Sg.mk 2 2 0, Sg.mk 2 w 0, Sg.mk 2 1 0, Sg.mk 2 w 0]).length : Int)
    rw [hl4]
    rcases List.mem_append.1 hx with hx | hx
    · have := h.av x hx; omega
    · rw [List.mem_singleton] at hx; omega
  · show nPt (m.ss ++ [Sg.mk 2 2 0, Sg.mk 2 w 0, Sg.mk 2 1 0, Sg.mk 2 w 0]) ≤ _
    rw [lG, show ([Sg.mk 2 2 0, Sg.mk 2 w 0, Sg.mk 2 1 0, Sg.mk 2 w 0] : List Sg) = [Sg.mk 2 2 0] ++ ([Sg.mk 2 w 0] ++ ([Sg.mk 2 1 0] ++ [Sg.mk 2 w 0])) from rfl, lG, lG, lG]
    have n1 : nPt [Sg.mk 2 2 0] = 0 := pL ⟨by decide, by decide⟩
    have n2 : nPt [Sg.mk 2 w 0] = 0 := pL ⟨by decide, by decide⟩
    have n3 : nPt [Sg.mk 2 1 0] = 0 := pL ⟨by decide, by decide⟩
    have := h.np; omega
theorem pend3 {R : List Int} {b : Int} (hR : ∀ x ∈ R, x < b) {j : Nat} (hj : j < 3) : (b + (j : Int)) ∈ R ++ ([b, b + 1, b + 2] : List Int).drop j ∧ ∀ x, x ∈ R ++ ([b, b + 1, b + 2] : List Int).drop (j + 1) ↔ x ∈ R ++ ([b, b + 1, b + 2] : List Int).drop j ∧ x ≠ b + (j : Int) := by
  rcases (by omega : j = 0 ∨ j = 1 ∨ j = 2) with rfl | rfl | rfl <;> refine ⟨by simp, fun x => ?_⟩ <;> simp only [List.mem_append, List.drop_succ_cons, List.drop_zero, List.mem_cons, List.not_mem_nil, or_false] <;> constructor
  · rintro (h | h | h)
    · exact ⟨.inl h, by have := hR x h; omega⟩
    · exact ⟨.inr (.inr (.inl h)), by omega⟩
    · exact ⟨.inr (.inr (.inr h)), by omega⟩
  · rintro ⟨h | h | h | h, h8⟩
    · exact .inl h
    · exact absurd h (by omega)
    · exact .inr (.inl h)
    · exact .inr (.inr h)
  · rintro (h | h)
    · exact ⟨.inl h, by have := hR x h; omega⟩
    · exact ⟨.inr (.inr h), by omega⟩
  · rintro ⟨h | h | h, h8⟩
    · exact .inl h
    · exact absurd h (by omega)
    · exact .inr h
  · intro h; exact ⟨.inl h, by have := hR x h; omega⟩
  · rintro ⟨h | h, h8⟩
    · exact h
    · exact absurd h (by omega)
theorem pendR {R : List Int} (hR : R.Pairwise (· < ·)) {k : Nat} (hk : k < R.length) : R.getD k 0 ∈ R.drop k ∧ ∀ x, x ∈ R.drop (k + 1) ↔ x ∈ R.drop k ∧ x ≠ R.getD k 0 := by
  have e : R.drop k = R.getD k 0 :: R.drop (k + 1) := by
    rw [List.drop_eq_getElem_cons hk, List.getD_eq_getElem?_getD, List.getElem?_eq_getElem hk]; rfl
  have hp : (R.drop k).Pairwise (· < ·) := hR.sublist (List.drop_sublist _ _)
  rw [e] at hp ⊢
  rw [List.pairwise_cons] at hp
  refine ⟨List.mem_cons_self, fun x => ⟨fun h => ⟨List.mem_cons_of_mem _ h, by have := hp.1 x h; omega⟩, fun ⟨h1, h2⟩ => ?_⟩⟩
  rcases List.mem_cons.1 h1 with h | h
  · exact absurd h h2
  · exact h
theorem xC {R : List Int} {b : Int} (h : R.Pairwise (· < ·)) (hb : ∀ x ∈ R, x < b) : (R ++ [b]).Pairwise (· < ·) := by
  rw [List.pairwise_append]
  exact ⟨h, List.pairwise_singleton _ _, fun x hx y hy => by rw [List.mem_singleton] at hy; subst hy; exact hb x hx⟩
theorem asc_nd {R : List Int} (h : R.Pairwise (· < ·)) : R.Nodup := h.imp (fun h9 => by omega)
theorem pM {x : Int} {L : List Int} (h : x ∈ L) (hL : L.all (fun y => decide (0 ≤ y ∧ y ≤ 4)) = true) : 0 ≤ x ∧ x ≤ 4 := of_decide_eq_true (List.all_eq_true.1 hL x h)
theorem lit12 {x : Int} (h : x ∈ ([1, 2] : List Int)) : x = 1 ∨ x = 2 := by simpa using h
theorem xD {l : List Sg} {k w i : Int} {q : Nat} (hq : q = l.length) : (l ++ [Sg.mk k w i]).set q { (l ++ [Sg.mk k w i]).getD q sg0 with k := 1 } = l ++ [Sg.mk 1 w i] := by
  subst hq; rw [kK]; simp
theorem oU {D : List Md} {a b : Ix} (hm : a.m = b.m) : ∀ j, (∀ q, q < j → a.ps.getD q 0 = b.ps.getD q 0) → xoA D a j = xoA D b j
  | 0, _ => rfl
  | j + 1, h => by unfold xoA; rw [oU hm j (fun q hq => h q (by omega)), h j (by omega), hm]
structure IjP (D : List Md) (q : Md) (xm : Int) (b : Nat) (ps os : List Int) (j : Nat) : Prop where
  len : ps.length = j
  wr : ∀ i, i < j → knd q (ps.getD i 0) = 2
  oq : os = xoA D (Ix.mk xm 0 (.slice none 0 0) ps) j
  asc : os.Pairwise (· < ·)
  lo : ∀ y ∈ os, (b : Int) ≤ y
  hi : ∀ y ∈ os, y < (q.ss.length : Int)
  bl : b ≤ q.ss.length
theorem IjP.start (D : List Md) (q : Md) (xm : Int) : IjP D q xm q.ss.length [] [] 0 := ⟨rfl, fun i hi => absurd hi (by omega), rfl, .nil, fun y hy => (by cases hy), fun y hy => (by cases hy), Nat.le_refl _⟩
theorem xY {D : List Md} {xm : Int} {ps : List Int} {x : Int} {j : Nat} (hl : ps.length = j) : xoA D (Ix.mk xm 0 (.slice none 0 0) (ps ++ [x])) j = xoA D (Ix.mk xm 0 (.slice none 0 0) ps) j :=
  oU (a := Ix.mk xm 0 (.slice none 0 0) (ps ++ [x])) (b := Ix.mk xm 0 (.slice none 0 0) ps) rfl j (fun q hq => by show (ps ++ [x]).getD q 0 = ps.getD q 0; rw [iN (by omega)])
theorem wL {q q' : Md} {w : Int} (hs : q'.ss = q.ss ++ [Sg.mk 2 w 0]) {x : Int} (hx : knd q x = 2) : knd q' x = 2 := by
  have hi : Inn q x := nV (by omega)
  rw [← hx]
  exact ExtD.knd ⟨by rw [hs, List.length_append]; omega, fun i hi => by rw [hs, iN hi]⟩ hi
theorem tW {q q' : Md} {w : Int} (hs : q'.ss = q.ss ++ [Sg.mk 2 w 0]) : knd q' (q.ss.length : Int) = 2 := by
  rw [dH ⟨by omega, by rw [hs, List.length_append, List.length_singleton]; omega⟩, hs, Int.toNat_natCast, kK]
theorem IjP.out {D : List Md} {q : Md} {xm : Int} {b j : Nat} {ps os : List Int} (h : IjP D q xm b ps os j) {q' : Md} {w : Int} (hs : q'.ss = q.ss ++ [Sg.mk 2 w 0]) (hk : knd (D.getD xm.toNat md0) ((ptsK (D.getD xm.toNat md0)).getD j 0) = 1) : IjP D q' xm b (ps ++ [(q.ss.length : Int)]) (os ++ [(q.ss.length : Int)]) (j + 1) := by
  have hl : q'.ss.length = q.ss.length + 1 := by rw [hs, List.length_append, List.length_singleton]
  refine ⟨by rw [List.length_append, List.length_singleton, h.len], fun i hi => ?_, ?_, xC h.asc h.hi, fun y hy => ?_, fun y hy => ?_, by have := h.bl; omega⟩
  · by_cases e : i < j
    · rw [iN (by rw [h.len]; exact e)]; exact wL hs (h.wr i e)
    · obtain rfl : i = ps.length := by rw [h.len]; omega
      rw [kK]; exact tW hs
  · show _ = xoA D (Ix.mk xm 0 (.slice none 0 0) (ps ++ [(q.ss.length : Int)])) j ++ (if _ then _ else _)
    rw [if_pos hk, xY h.len, ← h.oq]
    show _ = os ++ [(ps ++ [(q.ss.length : Int)]).getD j 0]
    rw [← h.len, kK]
  · rcases List.mem_append.1 hy with hy | hy
    · exact h.lo y hy
    · rw [List.mem_singleton] at hy; have := h.bl; omega
  · rcases List.mem_append.1 hy with hy | hy
    · have := h.hi y hy; omega
    · rw [List.mem_singleton] at hy; omega
theorem IjP.inn {D : List Md} {q : Md} {xm : Int} {b j : Nat} {ps os : List Int} (h : IjP D q xm b ps os j) {q' : Md} {w : Int} (hs : q'.ss = q.ss ++ [Sg.mk 2 w 0]) (hk : knd (D.getD xm.toNat md0) ((ptsK (D.getD xm.toNat md0)).getD j 0) ≠ 1) : IjP D q' xm b (ps ++ [(q.ss.length : Int)]) os (j + 1) := by
  have hl : q'.ss.length = q.ss.length + 1 := by rw [hs, List.length_append, List.length_singleton]
  refine ⟨by rw [List.length_append, List.length_singleton, h.len], fun i hi => ?_, ?_, h.asc, h.lo, fun y hy => by have := h.hi y hy; omega, by have := h.bl; omega⟩
  · by_cases e : i < j
    · rw [iN (by rw [h.len]; exact e)]; exact wL hs (h.wr i e)
    · obtain rfl : i = ps.length := by rw [h.len]; omega
      rw [kK]; exact tW hs
  · show _ = xoA D (Ix.mk xm 0 (.slice none 0 0) (ps ++ [(q.ss.length : Int)])) j ++ (if _ then _ else _)
    rw [if_neg hk, xY h.len, ← h.oq, List.append_nil]
theorem MI.done {R ps os : List Int} {q : Md} {xm xp : Int} {b : Nat} (h : MI D q A (R ++ os) ns ng nx nm np na) (v pv : Value) (hj : IjP D q xm b ps os (ptsK (D.getD xm.toNat md0)).length) (hm : 0 ≤ xm ∧ xm < D.length) (hp : 0 ≤ xp ∧ xp ≤ 4) (hR : ∀ x ∈ R, x < (b : Int)) {e : Nat} (he : os.length ≤ e) :
    MI D (Md.mk q.sv q.av v q.mv q.ss q.gs (q.xs ++ [Ix.mk xm xp pv ps]) q.ms) (A ++ os) R ns ng (nx + 1) nm np (na + e) := by
  have hx : xoK D (Ix.mk xm xp pv ps) = os := by
    rw [hj.oq]; exact oU (a := Ix.mk xm xp pv ps) (b := Ix.mk xm 0 (.slice none 0 0) ps) rfl _ (fun q hq => rfl)
  have hw : ∀ i, i < (ptsK (D.getD xm.toNat md0)).length → Drv q (ps.getD i 0) := fun i hi => .inr (hj.wr i hi)
  refine MI.avl (m := Md.mk q.sv q.av v q.mv q.ss q.gs (q.xs ++ [Ix.mk xm xp pv ps]) q.ms) (h.ist v (x := Ix.mk xm xp pv ps) ⟨⟨hm, hj.len⟩, hp, fun i hi => ⟨(hw i hi).inn, fun _ => hw i hi⟩⟩ (by rw [hx]; exact asc_nd hj.asc) (fun y hy => by rw [hx] at hy; exact List.mem_append_right _ hy) (fun y => ?_)) (fun x hx9 => ⟨by have := hj.lo x hx9; omega, hj.hi x hx9⟩) he
  rw [hx, List.mem_append]
  exact ⟨fun h9 => ⟨.inl h9, fun h8 => by have h1 := hj.lo y h8; have h2 := hR y h9; omega⟩, fun ⟨h9, h8⟩ => h9.resolve_right h8⟩
theorem zK {R O : List Int} {b : Int} : ∀ x, x ∈ R ++ (O ++ [b]) ↔ x ∈ R ++ O ∨ x = b := fun x => by simp [or_assoc]
theorem tS {R : List Int} {b : Int} : ∀ x, x ∈ R ++ [b] ↔ x ∈ R ∨ x = b := fun x => by simp
theorem tR {R : List Int} {b : Int} (h : ∀ x ∈ R, x < b) : ∀ x, x ∈ R ↔ x ∈ R ++ [b] ∧ x ≠ b := fun x => by
  rw [List.mem_append, List.mem_singleton]
  exact ⟨fun h9 => ⟨.inl h9, by have := h x h9; omega⟩, fun ⟨h9, h8⟩ => h9.resolve_right h8⟩
theorem MI.plt (h : MI D m A P ns ng nx nm np na) : ∀ x ∈ P, x < (m.ss.length : Int) := fun x hx => (nV (h.b.pn x hx)).2
end
def asV (g : As) : Int × List Oq := (g.t, g.os)
def ixV (x : Ix) : Int × Int × List Int := (x.m, x.p, x.ps)
structure EqM (a b : Md) : Prop where
  s : a.ss = b.ss
  g : a.gs.map asV = b.gs.map asV
  x : a.xs.map ixV = b.xs.map ixV
  m : a.ms = b.ms
def MdOne (m : Md) : Prop := m.sv.oneCell' = true ∧ m.av.oneCell' = true ∧ m.iv.oneCell' = true ∧ m.mv.oneCell' = true
theorem RdsMd.ones {w : World} {m : Md} (h : RdsMd w m) : MdOne m := ⟨h.s.one, h.g.one, h.x.one, h.m.one⟩
structure Fz where
  ss : List Sg
  gs : List (Int × List Oq)
  ms : List Mm
abbrev fz0 : Fz := ⟨[], [], []⟩
def wdF (p : Int) (s : Sg) : Int := if s.w = 0 then p else s.w
def sgF (m : Md) (p : Int) (c : Bool) (P : List Int) (S0 : List Sg) : Nat → Option (List Int × Nat × List Sg)
  | 0 => some ([], 0, S0)
  | i + 1 => (sgF m p c P S0 i).bind (fun r =>
      if c = true ∧ isPt (m.ss.getD i sg0) = true then
        (if (r.2.2.getD (P.getD r.2.1 0).toNat sg0).w = wdF p (m.ss.getD i sg0) then some (r.1 ++ [P.getD r.2.1 0], r.2.1 + 1, r.2.2) else none)
      else some (r.1 ++ [(r.2.2.length : Int)], r.2.1, r.2.2 ++ [⟨(m.ss.getD i sg0).k, wdF p (m.ss.getD i sg0), (m.ss.getD i sg0).i⟩]))
def opF (ids : List Int) (p : Int) (o : Oq) : Oq := if o.k = 1 then ⟨0, p, 0⟩ else if o.k = 2 ∨ o.k = 3 then ⟨o.k, ids.getD o.a.toNat 0, o.b⟩ else o
def asF (ids : List Int) (p : Int) (g : As) : Int × List Oq := (ids.getD g.t.toNat 0, g.os.map (opF ids p))
def mmF (ids : List Int) (x : Mm) : Mm := ⟨ids.getD x.a.toNat 0, ids.getD x.d.toNat 0, ids.getD x.w.toNat 0, ids.getD x.o.toNat 0⟩
def inP (p : Int) (x : Ix) : Int := if x.p = 0 then p else x.p
def ptF (ids : List Int) (x : Ix) : List Int := x.ps.map (fun q => ids.getD q.toNat 0)
def insA (g : Nat → Int → List Int → Fz → Option Fz) (ids : List Int) (p : Int) (xs : List Ix) (F : Fz) : Nat → Option Fz
  | 0 => some F
  | i + 1 => (insA g ids p xs F i).bind (fun G => g (xs.getD i ix0).m.toNat (inP p (xs.getD i ix0)) (ptF ids (xs.getD i ix0)) G)
def Fz.Ok (F : Fz) : Prop := F.ss.length ≤ 30 ∧ F.gs.length ≤ 30 ∧ F.ms.length ≤ 2
instance (F : Fz) : Decidable F.Ok := by unfold Fz.Ok; infer_instance
def ownF (m : Md) (p : Int) (F : Fz) (r : List Int × Nat × List Sg) : Fz := ⟨r.2.2, F.gs ++ m.gs.map (asF r.1 p), F.ms ++ m.ms.map (mmF r.1)⟩
def addF (D : List Md) : Nat → Nat → Int → Bool → List Int → Fz → Option Fz
  | 0, _, _, _, _, _ => none
  | f + 1, k, p, c, P, F => (sgF (D.getD k md0) p c P F.ss (D.getD k md0).ss.length).bind (fun r =>
      if (ownF (D.getD k md0) p F r).Ok then insA (fun k p P G => addF D f k p true P G) r.1 p (D.getD k md0).xs (ownF (D.getD k md0) p F r) (D.getD k md0).xs.length else none)
def InN (n : Nat) (L : List Int) : Prop := ∀ x ∈ L, 0 ≤ x ∧ x < n
theorem InN.nil (n : Nat) : InN n [] := fun x h => by cases h
theorem InN.mono {n k : Nat} {L : List Int} (h : InN n L) (hk : n ≤ k) : InN k L := fun x hx => by have := h x hx; omega
theorem InN.app {n : Nat} {L : List Int} (h : InN n L) {x : Int} (hx : 0 ≤ x ∧ x < n) : InN n (L ++ [x]) := fun y hy => by
  rcases List.mem_append.1 hy with hy | hy
  · exact h y hy
  · rw [List.mem_singleton] at hy; subst hy; exact hx
theorem InN.at {n : Nat} {L : List Int} (h : InN n L) {j : Nat} (hj : j < L.length) : 0 ≤ L.getD j 0 ∧ L.getD j 0 < n := h _ (cV hj)
def PoP (m : Md) (c : Bool) (P : List Int) (n : Nat) : Prop := c = true → P.length = (ptsK m).length ∧ InN n P
def ptN (m : Md) (c : Bool) (i : Nat) : Nat := if c = true then (ptsA m.ss i).length else 0
theorem xF (ss : List Sg) {i j : Nat} (h : i ≤ j) : (ptsA ss i).length ≤ (ptsA ss j).length := by
  induction h with
  | refl => exact Nat.le_refl _
  | step h ih => exact Nat.le_trans ih (by show _ ≤ (ptsA ss _ ++ _).length; rw [List.length_append]; exact Nat.le_add_right _ _)
theorem pH {m : Md} {c : Bool} {P : List Int} {n i : Nat} (h : PoP m c P n) (hl : m.ss.length ≤ 30) (hi : i < m.ss.length) (hc : c = true) (hp : isPt (m.ss.getD i sg0) = true) : ptN m c i < P.length := by
  rw [(h hc).1]; unfold ptN ptsK; rw [if_pos hc, if_pos hl]
  have h1 := xF m.ss (show i + 1 ≤ m.ss.length from hi)
  have h2 : (ptsA m.ss (i + 1)).length = (ptsA m.ss i).length + 1 := by rw [← iQ (dU.1 hp), List.length_append]; rfl
  omega
theorem lT {m : Md} {p : Int} {c : Bool} {P : List Int} {S0 : List Sg} (h : PoP m c P S0.length) (hl : m.ss.length ≤ 30) : ∀ (i : Nat) (r : List Int × Nat × List Sg), i ≤ m.ss.length → sgF m p c P S0 i = some r → r.1.length = i ∧ InN r.2.2.length r.1 ∧ r.2.1 = ptN m c i ∧ S0.length ≤ r.2.2.length ∧ r.2.2.length ≤ S0.length + i
  | 0, r, _, e => by
    have e := Option.some.inj e; subst e
    exact ⟨rfl, InN.nil _, by unfold ptN; split <;> rfl, Nat.le_refl _, Nat.le_refl _⟩
  | i + 1, r, hi, e => by
    unfold sgF at e
    obtain ⟨q, hq, e⟩ := Option.bind_eq_some_iff.1 e
    obtain ⟨h1, h2, h3, h4, h5⟩ := lT h hl i q (by omega) hq
    split at e
    · rename_i hc
      split at e
      · have e := Option.some.inj e; subst e
        have hp := (h hc.1).2.at (j := q.2.1) (by rw [h3]; exact pH h hl (by omega) hc.1 hc.2)
        refine ⟨by show (q.1 ++ [_]).length = _; rw [List.length_append, h1]; rfl, h2.app (by omega), ?_, h4, by show q.2.2.length ≤ _; omega⟩
        show q.2.1 + 1 = _
        rw [h3]; unfold ptN; rw [if_pos hc.1, if_pos hc.1, ← iQ (dU.1 hc.2), List.length_append]; rfl
      · cases e
    · rename_i hc
      have e := Option.some.inj e; subst e
      have hl2 : (q.2.2 ++ [(⟨(m.ss.getD i sg0).k, wdF p (m.ss.getD i sg0), (m.ss.getD i sg0).i⟩ : Sg)]).length = q.2.2.length + 1 := by rw [List.length_append]; rfl
      refine ⟨by show (q.1 ++ [_]).length = _; rw [List.length_append, h1]; rfl, ?_, ?_, by show _ ≤ (q.2.2 ++ [_]).length; rw [hl2]; omega, by show (q.2.2 ++ [_]).length ≤ _; rw [hl2]; omega⟩
      · show InN (q.2.2 ++ [_]).length _
        rw [hl2]; exact (h2.mono (by omega)).app (by omega)
      · show q.2.1 = _
        rw [h3]; unfold ptN
        by_cases hc2 : c = true
        · rw [if_pos hc2, if_pos hc2, ← oK (fun hp => hc ⟨hc2, dU.2 hp⟩)]
        · rw [if_neg hc2, if_neg hc2]
theorem oP {g : Nat → Int → List Int → Fz → Option Fz} {ids : List Int} {p : Int} {xs : List Ix} {F : Fz} (hF : F.Ok) (hg : ∀ k p P (A B : Fz), A.Ok → g k p P A = some B → B.Ok ∧ A.ss.length ≤ B.ss.length) : ∀ (i : Nat) (G : Fz), insA g ids p xs F i = some G → G.Ok ∧ F.ss.length ≤ G.ss.length
  | 0, G, e => by have e := Option.some.inj e; subst e; exact ⟨hF, Nat.le_refl _⟩
  | i + 1, G, e => by
    unfold insA at e
    obtain ⟨q, hq, e⟩ := Option.bind_eq_some_iff.1 e
    obtain ⟨h1, h2⟩ := oP hF hg i q hq
    obtain ⟨h3, h4⟩ := hg _ _ _ _ _ h1 e
    exact ⟨h3, Nat.le_trans h2 h4⟩
theorem yG {m : Md} {p : Int} {c : Bool} {P : List Int} {S0 : List Sg} : ∀ (i : Nat) (r : List Int × Nat × List Sg), sgF m p c P S0 i = some r → S0.length ≤ r.2.2.length
  | 0, r, e => by have e := Option.some.inj e; subst e; exact Nat.le_refl _
  | i + 1, r, e => by
    unfold sgF at e
    obtain ⟨q, hq, e⟩ := Option.bind_eq_some_iff.1 e
    have h1 := yG i q hq
    split at e
    · split at e
      · have e := Option.some.inj e; subst e; exact h1
      · cases e
    · have e := Option.some.inj e; subst e
      show _ ≤ (q.2.2 ++ [_]).length
      rw [List.length_append]; omega
theorem sW {D : List Md} : ∀ (f k : Nat) (p : Int) (c : Bool) (P : List Int) (F G : Fz), addF D f k p c P F = some G → G.Ok ∧ F.ss.length ≤ G.ss.length
  | 0, k, p, c, P, F, G, e => by cases e
  | f + 1, k, p, c, P, F, G, e => by
    unfold addF at e
    obtain ⟨r, hr, e⟩ := Option.bind_eq_some_iff.1 e
    split at e
    · rename_i ho
      obtain ⟨h1, h2⟩ := oP ho (fun k p P A B _ e => sW f k p true P A B e) _ _ e
      exact ⟨h1, Nat.le_trans (yG _ _ hr) h2⟩
    · cases e
theorem tB {m : Md} {p : Int} {c : Bool} {P : List Int} {S0 : List Sg} {i : Nat} {ids : List Int} {n : Nat} {S : List Sg} (h : sgF m p c P S0 i = some (ids, n, S)) (hc : c = true) (hp : isPt (m.ss.getD i sg0) = true) (hw : (S.getD (P.getD n 0).toNat sg0).w = wdF p (m.ss.getD i sg0)) : sgF m p c P S0 (i + 1) = some (ids ++ [P.getD n 0], n + 1, S) := by
  unfold sgF; rw [h]; show (if _ then _ else _) = _; rw [if_pos ⟨hc, hp⟩]; show (if _ then _ else _) = _; rw [if_pos hw]
theorem iJ {m : Md} {p : Int} {c : Bool} {P : List Int} {S0 : List Sg} {i : Nat} {ids : List Int} {n : Nat} {S : List Sg} (h : sgF m p c P S0 i = some (ids, n, S)) (hc : c = true) (hp : isPt (m.ss.getD i sg0) = true) (hw : ¬ (S.getD (P.getD n 0).toNat sg0).w = wdF p (m.ss.getD i sg0)) : sgF m p c P S0 (i + 1) = none := by
  unfold sgF; rw [h]; show (if _ then _ else _) = _; rw [if_pos ⟨hc, hp⟩]; show (if _ then _ else _) = _; rw [if_neg hw]
theorem vS {m : Md} {p : Int} {c : Bool} {P : List Int} {S0 : List Sg} {i : Nat} {ids : List Int} {n : Nat} {S : List Sg} (h : sgF m p c P S0 i = some (ids, n, S)) (hc : ¬ (c = true ∧ isPt (m.ss.getD i sg0) = true)) : sgF m p c P S0 (i + 1) = some (ids ++ [(S.length : Int)], n, S ++ [⟨(m.ss.getD i sg0).k, wdF p (m.ss.getD i sg0), (m.ss.getD i sg0).i⟩]) := by
  unfold sgF; rw [h]; show (if _ then _ else _) = _; rw [if_neg hc]
theorem yF {m : Md} {p : Int} {c : Bool} {P : List Int} {S0 : List Sg} {i : Nat} (h : sgF m p c P S0 i = none) : ∀ j, i ≤ j → sgF m p c P S0 j = none := by
  intro j hj
  induction hj with
  | refl => exact h
  | step h2 ih => show (sgF _ _ _ _ _ _).bind _ = _; rw [ih]; rfl
theorem fW {g : Nat → Int → List Int → Fz → Option Fz} {ids : List Int} {p : Int} {xs : List Ix} {F : Fz} {i : Nat} (h : insA g ids p xs F i = none) : ∀ j, i ≤ j → insA g ids p xs F j = none := by
  intro j hj
  induction hj with
  | refl => exact h
  | step h2 ih => show (insA _ _ _ _ _ _).bind _ = _; rw [ih]; rfl
theorem fQ {g : Nat → Int → List Int → Fz → Option Fz} {ids : List Int} {p : Int} {xs : List Ix} {F G : Fz} {i : Nat} (h : insA g ids p xs F i = some G) : insA g ids p xs F (i + 1) = g (xs.getD i ix0).m.toNat (inP p (xs.getD i ix0)) (ptF ids (xs.getD i ix0)) G := by
  unfold insA; rw [h]; rfl
theorem gJ {D : List Md} {f k : Nat} {p : Int} {c : Bool} {P : List Int} {F : Fz} {i : Nat} (h : sgF (D.getD k md0) p c P F.ss i = none) (hi : i ≤ (D.getD k md0).ss.length) : addF D (f + 1) k p c P F = none := by
  show (sgF _ _ _ _ _ _).bind _ = _; rw [yF h _ hi]; rfl
theorem gW {D : List Md} {f k : Nat} {p : Int} {c : Bool} {P : List Int} {F : Fz} {r : List Int × Nat × List Sg} (h : sgF (D.getD k md0) p c P F.ss (D.getD k md0).ss.length = some r) (hb : ¬ (ownF (D.getD k md0) p F r).Ok) : addF D (f + 1) k p c P F = none := by
  show (sgF _ _ _ _ _ _).bind _ = _; rw [h]; show (if _ then _ else _) = _; rw [if_neg hb]
theorem hU {D : List Md} {f k : Nat} {p : Int} {c : Bool} {P : List Int} {F : Fz} {r : List Int × Nat × List Sg} (h : sgF (D.getD k md0) p c P F.ss (D.getD k md0).ss.length = some r) (hb : (ownF (D.getD k md0) p F r).Ok) : addF D (f + 1) k p c P F = insA (fun k p P G => addF D f k p true P G) r.1 p (D.getD k md0).xs (ownF (D.getD k md0) p F r) (D.getD k md0).xs.length := by
  show (sgF _ _ _ _ _ _).bind _ = _; rw [h]; show (if _ then _ else _) = _; rw [if_pos hb]
abbrev flQ (a b d : Value) (ss : List Sg) (gs : List As) (ms : List Mm) (ps : List HP) : List HP := [rS9 38 3 a ss sgC, rS9 89 2 b gs asC, rS9 94 4 d ms mmC, bigE ps]
def AddOk (G : Fz) (a b d : Value) (qs : List HP) : Prop := ∃ (gs : List As) (ps : List HP), qs = flQ a b d G.ss gs G.ms ps ∧ (∀ w, (bigE ps).holds w → OpsR w gs) ∧ gs.map asV = G.gs
def AddR (o : Option Fz) (u_ : Value) (p_ : HP) : Prop := ∃ (a b d : Value) (ok : Bool) (qs : List HP), u_ = .tuple #[.agg #[a, b, .slice none 0 0, d], .bool ok] ∧ p_ = bigE qs ∧ (a.oneCell' = true ∧ b.oneCell' = true ∧ d.oneCell' = true) ∧ (ok = true → ∃ G, o = some G ∧ AddOk G a b d qs) ∧ (ok = false → o = none)
theorem Af {w0 w : World} {l : List HP} (h : Mem w0 l w) : Mem w0 (bigE (flQ (.slice none 0 0) (.slice none 0 0) (.slice none 0 0) [] [] [] []) :: l) w := by
  have h1 : Mem w0 (bigE [] :: l) w := Mem.big (ps := []) h
  have h2 := ((h1.nilRow 94 4).nilRow 89 2).nilRow 38 3
  exact Mem.big (ps := flQ (.slice none 0 0) (.slice none 0 0) (.slice none 0 0) [] [] [] []) h2
theorem tL {m : Md} {p : Int} {F : Fz} {ids : List Int} {n : Nat} {S : List Sg} {G : List As} {Ms : List Mm} (hG : G.map asV = F.gs ++ m.gs.map (asF ids p)) (hM : Ms = F.ms ++ m.ms.map (mmF ids)) : (ownF m p F (ids, n, S)).Ok ↔ S.length ≤ 30 ∧ G.length ≤ 30 ∧ Ms.length ≤ 2 := by
  have h1 : (F.gs ++ m.gs.map (asF ids p)).length = G.length := by rw [← hG, List.length_map]
  have h2 : (F.ms ++ m.ms.map (mmF ids)).length = Ms.length := by rw [hM]
  show S.length ≤ 30 ∧ (F.gs ++ m.gs.map (asF ids p)).length ≤ 30 ∧ (F.ms ++ m.ms.map (mmF ids)).length ≤ 2 ↔ _
  rw [h1, h2]
theorem tJ {ids : List Int} {L zs : List Int} {j : Nat} (hz : zs = (L.take j).map (fun q => ids.getD q.toNat 0)) (hj : j < L.length) : zs ++ [ids.getD (L.getD j 0).toNat 0] = (L.take (j + 1)).map (fun q => ids.getD q.toNat 0) := by
  rw [eU 0 hj, List.map_append, ← hz]; rfl
theorem yS {n : Nat} {ids : List Int} {x : Ix} (h : InN n ids) (hp : ∀ j, j < x.ps.length → 0 ≤ x.ps.getD j 0 ∧ x.ps.getD j 0 < ids.length) : InN n (ptF ids x) := fun y hy => by
  obtain ⟨q, hq, rfl⟩ := List.mem_map.1 hy
  obtain ⟨j, hj, rfl⟩ := List.mem_iff_getElem.1 hq
  have h1 := hp j hj
  rw [List.getD_eq_getElem?_getD, List.getElem?_eq_getElem hj] at h1
  have h1 : 0 ≤ x.ps[j] ∧ x.ps[j] < ids.length := h1
  exact h.at (by omega)
theorem vW (ids : List Int) (x : Ix) : (ptF ids x).length = x.ps.length := by unfold ptF; rw [List.length_map]
theorem gV {α : Type} {l : List α} {x d : α} : (l ++ [x]).getD l.length d = x := by rw [jF (Nat.le_refl _), Nat.sub_self]; rfl
structure SigE (O : Int → Prop) (ψ : List Int) (SA SB : List Sg) : Prop where
  ln : ψ.length = SA.length
  rg : ∀ s, s < SA.length → 0 ≤ ψ.getD s 0 ∧ ψ.getD s 0 < SB.length
  wd : ∀ s, s < SA.length → (SB.getD (ψ.getD s 0).toNat sg0).w = (SA.getD s sg0).w
  kd : ∀ s, s < SA.length → isPt (SA.getD s sg0) = false → (SB.getD (ψ.getD s 0).toNat sg0).k = (SA.getD s sg0).k ∧ (SB.getD (ψ.getD s 0).toNat sg0).i = (SA.getD s sg0).i
  ou : ∀ s, s < SA.length → (SA.getD s sg0).k = 1 → O (ψ.getD s 0)
section
variable {O : Int → Prop} {ψ : List Int} {SA SB : List Sg}
theorem SigE.new (h : SigE O ψ SA SB) {x : Sg} (hx : isPt x = false) : SigE O (ψ ++ [(SB.length : Int)]) (SA ++ [x]) (SB ++ [x]) := by
  have hl : ∀ {s : Nat}, s < (SA ++ [x]).length → s < SA.length + 1 := fun h => by rw [List.length_append, List.length_singleton] at h; exact h
  have hb : (SB ++ [x]).length = SB.length + 1 := by rw [List.length_append, List.length_singleton]
  have old : ∀ s, s < SA.length → (ψ ++ [(SB.length : Int)]).getD s 0 = ψ.getD s 0 ∧ (SA ++ [x]).getD s sg0 = SA.getD s sg0 ∧ (SB ++ [x]).getD (ψ.getD s 0).toNat sg0 = SB.getD (ψ.getD s 0).toNat sg0 := fun s hs => by
    have := h.rg s hs
    exact ⟨eX (by rw [h.ln]; exact hs), eX hs, eX (by omega)⟩
  have nw : (ψ ++ [(SB.length : Int)]).getD SA.length 0 = SB.length ∧ (SA ++ [x]).getD SA.length sg0 = x ∧ (SB ++ [x]).getD ((SB.length : Int)).toNat sg0 = x := ⟨by rw [← h.ln]; exact gV, gV, by rw [Int.toNat_natCast]; exact gV⟩
  refine ⟨by rw [List.length_append, List.length_append, h.ln]; rfl, fun s hs => ?_, fun s hs => ?_, fun s hs hp => ?_, fun s hs hk => ?_⟩ <;> rcases Nat.lt_or_ge s SA.length with h1 | h1
  · obtain ⟨e1, e2, e3⟩ := old s h1; rw [e1, hb]; have := h.rg s h1; omega
  · have e : s = SA.length := by have := hl hs; omega
    subst e; rw [nw.1, hb]; omega
  · obtain ⟨e1, e2, e3⟩ := old s h1; rw [e1, e2, e3]; exact h.wd s h1
  · have e : s = SA.length := by have := hl hs; omega
    subst e; rw [nw.1, nw.2.1, nw.2.2]
  · obtain ⟨e1, e2, e3⟩ := old s h1; rw [e2] at hp; rw [e1, e2, e3]; exact h.kd s h1 hp
  · have e : s = SA.length := by have := hl hs; omega
    subst e; rw [nw.1, nw.2.1, nw.2.2]; exact ⟨rfl, rfl⟩
  · obtain ⟨e1, e2, e3⟩ := old s h1; rw [e2] at hk; rw [e1]; exact h.ou s h1 hk
  · have e : s = SA.length := by have := hl hs; omega
    subst e; rw [nw.2.1] at hk
    have : isPt x = true := dU.2 (.inr hk)
    rw [hx] at this; cases this
theorem SigE.port (h : SigE O ψ SA SB) {x : Sg} {q : Int} (hq : 0 ≤ q ∧ q < SB.length) (hw : (SB.getD q.toNat sg0).w = x.w) (hp : isPt x = true) (ho : x.k = 1 → O q) : SigE O (ψ ++ [q]) (SA ++ [x]) SB := by
  have hl : ∀ {s : Nat}, s < (SA ++ [x]).length → s < SA.length + 1 := fun h => by rw [List.length_append, List.length_singleton] at h; exact h
  have old : ∀ s, s < SA.length → (ψ ++ [q]).getD s 0 = ψ.getD s 0 ∧ (SA ++ [x]).getD s sg0 = SA.getD s sg0 := fun s hs => ⟨eX (by rw [h.ln]; exact hs), eX hs⟩
  have nw : (ψ ++ [q]).getD SA.length 0 = q ∧ (SA ++ [x]).getD SA.length sg0 = x := ⟨by rw [← h.ln]; exact gV, gV⟩
  refine ⟨by rw [List.length_append, List.length_append, h.ln]; rfl, fun s hs => ?_, fun s hs => ?_, fun s hs hp2 => ?_, fun s hs hk => ?_⟩ <;> rcases Nat.lt_or_ge s SA.length with h1 | h1
  · obtain ⟨e1, e2⟩ := old s h1; rw [e1]; exact h.rg s h1
  · have e : s = SA.length := by have := hl hs; omega
    subst e; rw [nw.1]; exact hq
  · obtain ⟨e1, e2⟩ := old s h1; rw [e1, e2]; exact h.wd s h1
  · have e : s = SA.length := by have := hl hs; omega
    subst e; rw [nw.1, nw.2]; exact hw
  · obtain ⟨e1, e2⟩ := old s h1; rw [e2] at hp2; rw [e1, e2]; exact h.kd s h1 hp2
  · have e : s = SA.length := by have := hl hs; omega
    subst e; rw [nw.2, hp] at hp2; cases hp2
  · obtain ⟨e1, e2⟩ := old s h1; rw [e2] at hk; rw [e1]; exact h.ou s h1 hk
  · have e : s = SA.length := by have := hl hs; omega
    subst e; rw [nw.2] at hk; rw [nw.1]; exact ho hk
end
def atP (ψ : List Int) (x : Int) : Int := ψ.getD x.toNat 0
theorem sT {ψ e : List Int} {x : Int} (h : 0 ≤ x ∧ x < ψ.length) : atP (ψ ++ e) x = atP ψ x := eX (by omega)
theorem wK {ψ e : List Int} {L : List Int} (h : InN ψ.length L) : L.map (atP (ψ ++ e)) = L.map (atP ψ) := List.map_congr_left (fun x hx => sT (h x hx))
theorem kS {m : Md} {p : Int} {P : List Int} {S0 : List Sg} : ∀ {i : Nat} {q : List Int × Nat × List Sg}, sgF m p false P S0 i = some q → q.2.2.length = S0.length + i
  | 0, q, h => by have h := Option.some.inj h; subst h; rfl
  | i + 1, q, h => by
    obtain ⟨r, hr, h2⟩ := Option.bind_eq_some_iff.1 (show (sgF m p false P S0 i).bind _ = some q from h)
    rw [if_neg (fun q => by cases q.1)] at h2
    have h2 := Option.some.inj h2; subst h2
    show (r.2.2 ++ [_]).length = _
    rw [List.length_append, kS hr]; rfl
theorem uU {m : Md} {p : Int} {c : Bool} {P P' : List Int} {SA0 SB0 : List Sg} {O : Int → Prop} {φ : List Int} (hl : m.ss.length ≤ 30) (h0 : SigE O φ SA0 SB0) (hA : PoP m c P SA0.length) (hB : PoP m true P' SB0.length)
    (hc : c = true → P' = P.map (atP φ)) (hO : c = false → ∀ s, s < m.ss.length → (m.ss.getD s sg0).k = 1 → O (P'.getD (ptsA m.ss s).length 0)) :
    ∀ (i : Nat) (a b : List Int × Nat × List Sg), i ≤ m.ss.length → sgF m p c P SA0 i = some a → sgF m p true P' SB0 i = some b → ∃ e, SigE O (φ ++ e) a.2.2 b.2.2 ∧ b.1 = a.1.map (atP (φ ++ e)) ∧ (c = false → ∀ s, s < i → isPt (m.ss.getD s sg0) = true → a.1.getD s 0 = SA0.length + s ∧ b.1.getD s 0 = P'.getD (ptsA m.ss s).length 0)
  | 0, a, b, _, ea, eb => by
    have ea := Option.some.inj ea; have eb := Option.some.inj eb; subst ea eb
    exact ⟨[], by rw [List.append_nil]; exact h0, rfl, fun _ s hs => absurd hs (Nat.not_lt_zero _)⟩
  | i + 1, a, b, hi, ea, eb => by
    obtain ⟨qa, ha, ea2⟩ := Option.bind_eq_some_iff.1 (show (sgF m p c P SA0 i).bind _ = some a from ea)
    obtain ⟨qb, hb, eb2⟩ := Option.bind_eq_some_iff.1 (show (sgF m p true P' SB0 i).bind _ = some b from eb)
    obtain ⟨e, h1, h2, h3⟩ := uU hl h0 hA hB hc hO i qa qb (by omega) ha hb
    obtain ⟨a1, a2, a3, a4, a5⟩ := lT hA hl i qa (by omega) ha
    obtain ⟨b1, b2, b3, b4, b5⟩ := lT hB hl i qb (by omega) hb
    have hin : InN (φ ++ e).length qa.1 := by rw [h1.ln]; exact a2
    by_cases hp : isPt (m.ss.getD i sg0) = true
    · -- a port of the copy
      have hn := pH hB hl (show i < m.ss.length by omega) rfl hp
      rw [if_pos ⟨rfl, hp⟩] at eb2
      split at eb2
      · rename_i hw
        have eb2 := Option.some.inj eb2; subst eb2
        have hb3 : qb.2.1 = (ptsA m.ss i).length := by rw [b3]; unfold ptN; rw [if_pos rfl]
        have hq := (hB rfl).2.at (j := qb.2.1) (by rw [b3]; exact hn)
        cases c with
        | true =>
          rw [if_pos ⟨rfl, hp⟩] at ea2
          split at ea2
          · have ea2 := Option.some.inj ea2; subst ea2
            have e9 : qa.2.1 = qb.2.1 := by rw [a3, b3]
            have hnA := pH hA hl (show i < m.ss.length by omega) rfl hp
            have hPn := (hA rfl).2.at (j := qa.2.1) (by rw [a3]; exact hnA)
            refine ⟨e, h1, ?_, fun h => by cases h⟩
            show qb.1 ++ [P'.getD qb.2.1 0] = (qa.1 ++ [P.getD qa.2.1 0]).map (atP (φ ++ e))
            rw [List.map_append, h2, hc rfl, ← e9]
            congr 1
            show [(P.map (atP φ)).getD qa.2.1 0] = [atP (φ ++ e) (P.getD qa.2.1 0)]
            rw [sT (by rw [h0.ln]; exact hPn), List.getD_eq_getElem?_getD, List.getElem?_map, List.getD_eq_getElem?_getD, List.getElem?_eq_getElem (by rw [a3]; exact hnA)]; rfl
          · cases ea2
        | false =>
          rw [if_neg (fun q => by cases q.1)] at ea2
          have ea2 := Option.some.inj ea2; subst ea2
          have hx : isPt (⟨(m.ss.getD i sg0).k, wdF p (m.ss.getD i sg0), (m.ss.getD i sg0).i⟩ : Sg) = true := dU.2 (dU.1 hp)
          have hs := h1.port (x := ⟨(m.ss.getD i sg0).k, wdF p (m.ss.getD i sg0), (m.ss.getD i sg0).i⟩) (q := P'.getD qb.2.1 0) (by omega) hw hx (fun hk => by rw [hb3]; exact hO rfl i (by omega) hk)
          have hlen : ((qa.2.2.length : Nat) : Int).toNat = (φ ++ e).length := by rw [Int.toNat_natCast, h1.ln]
          have hsa : qa.2.2.length = SA0.length + i := by have := kS ha; omega
          refine ⟨e ++ [P'.getD qb.2.1 0], by rw [← List.append_assoc]; exact hs, ?_, fun _ s hs2 hp2 => ?_⟩
          · show qb.1 ++ [P'.getD qb.2.1 0] = (qa.1 ++ [(qa.2.2.length : Int)]).map (atP (φ ++ (e ++ [P'.getD qb.2.1 0])))
            rw [← List.append_assoc, List.map_append, wK hin, ← h2]
            congr 1
            show [_] = [atP _ _]
            unfold atP; rw [hlen, gV]
          · show (qa.1 ++ [(qa.2.2.length : Int)]).getD s 0 = _ ∧ (qb.1 ++ [P'.getD qb.2.1 0]).getD s 0 = _
            rcases Nat.lt_or_ge s i with h9 | h9
            · rw [eX (by omega), eX (by omega)]; exact h3 rfl s h9 hp2
            · have e9 : s = i := by omega
              subst e9
              constructor
              · have := @gV Int qa.1 (qa.2.2.length : Int) 0
                rw [a1] at this; rw [this, hsa]; omega
              · have := @gV Int qb.1 (P'.getD qb.2.1 0) 0
                rw [b1] at this; rw [this, hb3]
      · cases eb2
    · -- a signal of its own on both sides
      rw [if_neg (fun q => hp q.2)] at eb2
      rw [if_neg (fun q => hp q.2)] at ea2
      have ea2 := Option.some.inj ea2; subst ea2
      have eb2 := Option.some.inj eb2; subst eb2
      have hx : isPt (⟨(m.ss.getD i sg0).k, wdF p (m.ss.getD i sg0), (m.ss.getD i sg0).i⟩ : Sg) = false := by
        cases h9 : isPt (⟨(m.ss.getD i sg0).k, wdF p (m.ss.getD i sg0), (m.ss.getD i sg0).i⟩ : Sg) with
        | false => rfl
        | true => exact absurd (dU.2 (dU.1 h9)) hp
      have hlen : ((qa.2.2.length : Nat) : Int).toNat = (φ ++ e).length := by rw [Int.toNat_natCast, h1.ln]
      refine ⟨e ++ [(qb.2.2.length : Int)], by rw [← List.append_assoc]; exact h1.new hx, ?_, fun hc0 s hs2 hp2 => ?_⟩
      · show qb.1 ++ [(qb.2.2.length : Int)] = (qa.1 ++ [(qa.2.2.length : Int)]).map (atP (φ ++ (e ++ [(qb.2.2.length : Int)])))
        rw [← List.append_assoc, List.map_append, wK hin, ← h2]
        congr 1
        show [_] = [atP _ _]
        unfold atP; rw [hlen, gV]
      · have h9 : s < i := by
          rcases Nat.lt_or_ge s i with h9 | h9
          · exact h9
          · have e9 : s = i := by omega
            subst e9; exact absurd hp2 hp
        show (qa.1 ++ [_]).getD s 0 = _ ∧ (qb.1 ++ [_]).getD s 0 = _
        rw [eX (by omega), eX (by omega)]; exact h3 hc0 s h9 hp2
abbrev gN (ψ : List Int) (s : Nat) : Nat := (ψ.getD s 0).toNat
abbrev ga0 : Int × List Oq := (0, [])
def OqR (n : Nat) (o : Oq) : Prop := o.k = 2 ∨ o.k = 3 → 0 ≤ o.a ∧ o.a < n
def MmR (n : Nat) (x : Mm) : Prop := (0 ≤ x.a ∧ x.a < n) ∧ (0 ≤ x.d ∧ x.d < n) ∧ (0 ≤ x.w ∧ x.w < n) ∧ 0 ≤ x.o ∧ x.o < n
def GaR (n : Nat) (g : Int × List Oq) : Prop := (0 ≤ g.1 ∧ g.1 < n) ∧ ∀ o ∈ g.2, OqR n o
def rnG (ψ : List Int) (g : Int × List Oq) : Int × List Oq := (((gN ψ g.1.toNat : Nat) : Int), g.2.map (rnO (gN ψ)))
theorem OqR.mono {n k : Nat} {o : Oq} (h : OqR n o) (hk : n ≤ k) : OqR k o := fun q => by have := h q; omega
theorem GaR.mono {n k : Nat} {g : Int × List Oq} (h : GaR n g) (hk : n ≤ k) : GaR k g := ⟨by have := h.1; omega, fun o ho => (h.2 o ho).mono hk⟩
theorem MmR.mono {n k : Nat} {x : Mm} (h : MmR n x) (hk : n ≤ k) : MmR k x := by unfold MmR at *; omega
theorem nR {ψ e : List Int} {s : Nat} (h : s < ψ.length) : gN (ψ ++ e) s = gN ψ s := by unfold gN; rw [eX h]
theorem At {ψ e : List Int} {o : Oq} (h : OqR ψ.length o) : rnO (gN (ψ ++ e)) o = rnO (gN ψ) o := by
  unfold rnO
  by_cases hk : o.k = 2 ∨ o.k = 3
  · have := h hk
    rw [if_pos hk, if_pos hk, nR (by omega)]
  · rw [if_neg hk, if_neg hk]
theorem Av {ψ e : List Int} {g : Int × List Oq} (h : GaR ψ.length g) : rnG (ψ ++ e) g = rnG ψ g := by
  unfold rnG
  rw [nR (by have := h.1; omega)]
  congr 1
  exact List.map_congr_left (fun o ho => At (h.2 o ho))
theorem Au {ψ e : List Int} {x : Mm} (h : MmR ψ.length x) : rnM (gN (ψ ++ e)) x = rnM (gN ψ) x := by
  obtain ⟨h1, h2, h3, h4⟩ := h
  unfold rnM
  rw [nR (by omega), nR (by omega), nR (by omega), nR (by omega)]
structure FzE (O : Int → Prop) (ψ : List Int) (g0 : List (Int × List Oq)) (k0 : List Mm) (A B : Fz) : Prop where
  sg : SigE O ψ A.ss B.ss
  gs : B.gs = g0 ++ A.gs.map (rnG ψ)
  gr : ∀ g ∈ A.gs, GaR A.ss.length g
  ms : B.ms = k0 ++ A.ms.map (rnM (gN ψ))
  mr : ∀ x ∈ A.ms, MmR A.ss.length x
theorem op_emb {ψ idsA : List Int} {p : Int} {o : Oq} {n : Int} (hA : InN ψ.length idsA) (hn : n = idsA.length) (ho : OqP n o) (hψ : ∀ s, s < ψ.length → 0 ≤ ψ.getD s 0) : opF (idsA.map (atP ψ)) p o = rnO (gN ψ) (opF idsA p o) ∧ OqR ψ.length (opF idsA p o) := by
  have ha : o.k = 2 ∨ o.k = 3 → 0 ≤ o.a ∧ o.a < n := fun hk => by unfold OqP at ho; rcases ho with q | q | q | q <;> omega
  unfold opF
  by_cases h1 : o.k = 1
  · rw [if_pos h1, if_pos h1]
    refine ⟨?_, fun q => ?_⟩
    · unfold rnO; rw [if_neg (by dsimp only; omega)]
    · exact absurd q (by dsimp only; omega)
  · rw [if_neg h1, if_neg h1]
    by_cases h2 : o.k = 2 ∨ o.k = 3
    · rw [if_pos h2, if_pos h2]
      have h3 := ha h2
      have hlt : o.a.toNat < idsA.length := by omega
      have hi := hA.at hlt
      refine ⟨?_, fun _ => hi⟩
      unfold rnO
      dsimp only
      rw [if_pos h2, List.getD_eq_getElem?_getD, List.getElem?_map, List.getElem?_eq_getElem hlt]
      show (⟨o.k, atP ψ idsA[o.a.toNat], o.b⟩ : Oq) = _
      have e : idsA.getD o.a.toNat 0 = idsA[o.a.toNat] := by rw [List.getD_eq_getElem?_getD, List.getElem?_eq_getElem hlt]; rfl
      rw [e] at hi ⊢
      have := hψ idsA[o.a.toNat].toNat (by omega)
      unfold atP gN
      congr 1; omega
    · rw [if_neg h2, if_neg h2]
      refine ⟨?_, fun q => absurd q h2⟩
      unfold rnO; rw [if_neg h2]
theorem pZ {ψ idsA : List Int} {x : Int} (hA : InN ψ.length idsA) (hx : 0 ≤ x ∧ x < idsA.length) (hψ : ∀ s, s < ψ.length → 0 ≤ ψ.getD s 0) : (idsA.map (atP ψ)).getD x.toNat 0 = ((gN ψ (idsA.getD x.toNat 0).toNat : Nat) : Int) ∧ 0 ≤ idsA.getD x.toNat 0 ∧ idsA.getD x.toNat 0 < ψ.length := by
  have hlt : x.toNat < idsA.length := by omega
  have hi := hA.at hlt
  refine ⟨?_, hi⟩
  rw [List.getD_eq_getElem?_getD, List.getElem?_map, List.getElem?_eq_getElem hlt]
  have e : idsA.getD x.toNat 0 = idsA[x.toNat] := by rw [List.getD_eq_getElem?_getD, List.getElem?_eq_getElem hlt]; rfl
  rw [e] at hi ⊢
  have := hψ idsA[x.toNat].toNat (by omega)
  show atP ψ idsA[x.toNat] = _
  unfold atP gN; omega
theorem vX {O : Int → Prop} {φ e : List Int} {g0 : List (Int × List Oq)} {k0 : List Mm} {A B : Fz} {m : Md} {p : Int} {a b : List Int × Nat × List Sg} (h : FzE O φ g0 k0 A B) (hs : SigE O (φ ++ e) a.2.2 b.2.2) (hb : b.1 = a.1.map (atP (φ ++ e))) (hle : A.ss.length ≤ a.2.2.length) (hin : InN a.2.2.length a.1) (hal : a.1.length = m.ss.length)
    (hg : ∀ i, i < m.gs.length → AsP m (m.gs.getD i as0)) (hm : ∀ i, i < m.ms.length → MmP m (m.ms.getD i mm0)) : FzE O (φ ++ e) g0 k0 (ownF m p A a) (ownF m p B b) := by
  have hψ : ∀ s, s < (φ ++ e).length → 0 ≤ (φ ++ e).getD s 0 := fun s h9 => (hs.rg s (by rw [← hs.ln]; exact h9)).1
  have hin2 : InN (φ ++ e).length a.1 := by rw [hs.ln]; exact hin
  have hφl : φ.length = A.ss.length := h.sg.ln
  have hAsP : ∀ g ∈ m.gs, AsP m g := fun g hg2 => by
    obtain ⟨i, hi, rfl⟩ := List.mem_iff_getElem.1 hg2
    have := hg i hi
    rw [List.getD_eq_getElem?_getD, List.getElem?_eq_getElem hi] at this; exact this
  have hMmP : ∀ x ∈ m.ms, MmP m x := fun g hg2 => by
    obtain ⟨i, hi, rfl⟩ := List.mem_iff_getElem.1 hg2
    have := hm i hi
    rw [List.getD_eq_getElem?_getD, List.getElem?_eq_getElem hi] at this; exact this
  have hG : ∀ g ∈ m.gs, asF b.1 p g = rnG (φ ++ e) (asF a.1 p g) ∧ GaR (φ ++ e).length (asF a.1 p g) := fun g hg2 => by
    have h1 := hAsP g hg2
    have ht := h1.tgt.1
    obtain ⟨t1, t2⟩ := pZ (x := g.t) hin2 (by omega) hψ
    have ho : ∀ o ∈ g.os, opF b.1 p o = rnO (gN (φ ++ e)) (opF a.1 p o) ∧ OqR (φ ++ e).length (opF a.1 p o) := fun o ho2 => by
      obtain ⟨i, hi, rfl⟩ := List.mem_iff_getElem.1 ho2
      have h2 := (h1.2.op i hi).2
      rw [List.getD_eq_getElem?_getD, List.getElem?_eq_getElem hi] at h2
      rw [hb]
      exact op_emb hin2 (by omega) h2 hψ
    refine ⟨?_, ⟨t2, fun o ho2 => ?_⟩⟩
    · unfold asF rnG
      dsimp only
      rw [hb, t1, List.map_map, ← hb]
      congr 1
      exact List.map_congr_left (fun o ho2 => (ho o ho2).1)
    · obtain ⟨o1, ho1, rfl⟩ := List.mem_map.1 ho2
      exact (ho o1 ho1).2
  have hM : ∀ x ∈ m.ms, mmF b.1 x = rnM (gN (φ ++ e)) (mmF a.1 x) ∧ MmR (φ ++ e).length (mmF a.1 x) := fun x hx => by
    obtain ⟨⟨q1, q2, q3⟩, q4⟩ := hMmP x hx
    have q4 := q4.inn
    unfold Inn at q1 q2 q3 q4
    obtain ⟨t1, r1⟩ := pZ (x := x.a) hin2 (by omega) hψ
    obtain ⟨t2, r2⟩ := pZ (x := x.d) hin2 (by omega) hψ
    obtain ⟨t3, r3⟩ := pZ (x := x.w) hin2 (by omega) hψ
    obtain ⟨t4, r4⟩ := pZ (x := x.o) hin2 (by omega) hψ
    refine ⟨?_, r1, r2, r3, r4⟩
    unfold mmF rnM
    dsimp only
    rw [hb, t1, t2, t3, t4]
  refine ⟨hs, ?_, ?_, ?_, ?_⟩
  · show B.gs ++ m.gs.map (asF b.1 p) = g0 ++ (A.gs ++ m.gs.map (asF a.1 p)).map (rnG (φ ++ e))
    rw [h.gs, List.map_append, List.append_assoc, List.map_map]
    congr 2
    · exact List.map_congr_left (fun g hg2 => (Av (by rw [hφl]; exact h.gr g hg2)).symm)
    · exact List.map_congr_left (fun g hg2 => (hG g hg2).1)
  · intro g hg2
    show GaR a.2.2.length g
    rcases List.mem_append.1 (show g ∈ A.gs ++ m.gs.map (asF a.1 p) from hg2) with h9 | h9
    · exact (h.gr g h9).mono hle
    · obtain ⟨q, hq, rfl⟩ := List.mem_map.1 h9
      rw [← hs.ln]; exact (hG q hq).2
  · show B.ms ++ m.ms.map (mmF b.1) = k0 ++ (A.ms ++ m.ms.map (mmF a.1)).map (rnM (gN (φ ++ e)))
    rw [h.ms, List.map_append, List.append_assoc, List.map_map]
    congr 2
    · exact List.map_congr_left (fun g hg2 => (Au (by rw [hφl]; exact h.mr g hg2)).symm)
    · exact List.map_congr_left (fun g hg2 => (hM g hg2).1)
  · intro g hg2
    show MmR a.2.2.length g
    rcases List.mem_append.1 (show g ∈ A.ms ++ m.ms.map (mmF a.1) from hg2) with h9 | h9
    · exact (h.mr g h9).mono hle
    · obtain ⟨q, hq, rfl⟩ := List.mem_map.1 h9
      rw [← hs.ln]; exact (hM q hq).2
theorem sF {O : Int → Prop} {g0 : List (Int × List Oq)} {k0 : List Mm} {ga gb : Nat → Int → List Int → Fz → Option Fz} {idsA : List Int} {p : Int} {xs : List Ix}
    (hg : ∀ i, i < xs.length → ∀ (φ : List Int) (A B A1 B1 : Fz), FzE O φ g0 k0 A B → InN A.ss.length (ptF idsA (xs.getD i ix0)) → ga (xs.getD i ix0).m.toNat (inP p (xs.getD i ix0)) (ptF idsA (xs.getD i ix0)) A = some A1 → gb (xs.getD i ix0).m.toNat (inP p (xs.getD i ix0)) ((ptF idsA (xs.getD i ix0)).map (atP φ)) B = some B1 → ∃ e, FzE O (φ ++ e) g0 k0 A1 B1 ∧ A.ss.length ≤ A1.ss.length)
    (hps : ∀ i, i < xs.length → ∀ q ∈ (xs.getD i ix0).ps, 0 ≤ q ∧ q < idsA.length) : ∀ (i : Nat) (φ : List Int) (A B A1 B1 : Fz), i ≤ xs.length → FzE O φ g0 k0 A B → InN A.ss.length idsA → insA ga idsA p xs A i = some A1 → insA gb (idsA.map (atP φ)) p xs B i = some B1 → ∃ e, FzE O (φ ++ e) g0 k0 A1 B1 ∧ A.ss.length ≤ A1.ss.length
  | 0, φ, A, B, A1, B1, _, h, hin, ea, eb => by
    have ea := Option.some.inj ea; have eb := Option.some.inj eb; subst ea eb
    exact ⟨[], by rw [List.append_nil]; exact h, Nat.le_refl _⟩
  | i + 1, φ, A, B, A1, B1, hi, h, hin, ea, eb => by
    obtain ⟨qa, ha, ea2⟩ := Option.bind_eq_some_iff.1 (show (insA ga idsA p xs A i).bind _ = some A1 from ea)
    obtain ⟨qb, hb, eb2⟩ := Option.bind_eq_some_iff.1 (show (insA gb (idsA.map (atP φ)) p xs B i).bind _ = some B1 from eb)
    obtain ⟨e, h1, h2⟩ := sF hg hps i φ A B qa qb (by omega) h hin ha hb
    have hφl : φ.length = A.ss.length := h.sg.ln
    have hpt : ∀ q ∈ ptF idsA (xs.getD i ix0), 0 ≤ q ∧ q < A.ss.length := fun q hq => by
      obtain ⟨r, hr, rfl⟩ := List.mem_map.1 hq
      have := hps i (by omega) r hr
      exact hin.at (by omega)
    have hmap : ptF (idsA.map (atP φ)) (xs.getD i ix0) = (ptF idsA (xs.getD i ix0)).map (atP (φ ++ e)) := by
      unfold ptF
      rw [List.map_map]
      refine List.map_congr_left (fun r hr => ?_)
      have hr2 := hps i (by omega) r hr
      have hlt : r.toNat < idsA.length := by omega
      have h3 := hin.at hlt
      show (idsA.map (atP φ)).getD r.toNat 0 = atP (φ ++ e) (idsA.getD r.toNat 0)
      rw [sT (by rw [hφl]; exact h3), List.getD_eq_getElem?_getD, List.getElem?_map, List.getD_eq_getElem?_getD, List.getElem?_eq_getElem hlt]; rfl
    rw [hmap] at eb2
    obtain ⟨e2, h4, h5⟩ := hg i (by omega) (φ ++ e) qa qb A1 B1 h1 (fun q hq => by have := hpt q hq; omega) ea2 eb2
    exact ⟨e ++ e2, by rw [← List.append_assoc]; exact h4, by omega⟩
theorem Ak {D : List Md} (hD : DesP D) {O : Int → Prop} {g0 : List (Int × List Oq)} {k0 : List Mm} : ∀ (f f' k : Nat) (p : Int) (P : List Int) (φ : List Int) (A B A1 B1 : Fz), k < D.length → FzE O φ g0 k0 A B → P.length = (ptsK (D.getD k md0)).length → InN A.ss.length P → addF D f k p true P A = some A1 → addF D f' k p true (P.map (atP φ)) B = some B1 → ∃ e, FzE O (φ ++ e) g0 k0 A1 B1 ∧ A.ss.length ≤ A1.ss.length
  | 0, f', k, p, P, φ, A, B, A1, B1, hk, h, hP, hin, ea, eb => by cases ea
  | f + 1, 0, k, p, P, φ, A, B, A1, B1, hk, h, hP, hin, ea, eb => by cases eb
  | f + 1, f' + 1, k, p, P, φ, A, B, A1, B1, hk, h, hP, hin, ea, eb => by
    have hm := hD.2 k hk
    have hl := (hm.cnt.md k hk).1
    have hφl : φ.length = A.ss.length := h.sg.ln
    obtain ⟨a, ha, ea2⟩ := Option.bind_eq_some_iff.1 (show (sgF _ p true P A.ss _).bind _ = some A1 from ea)
    obtain ⟨b, hb, eb2⟩ := Option.bind_eq_some_iff.1 (show (sgF _ p true (P.map (atP φ)) B.ss _).bind _ = some B1 from eb)
    have hPA : PoP (D.getD k md0) true P A.ss.length := fun _ => ⟨hP, hin⟩
    have hPB : PoP (D.getD k md0) true (P.map (atP φ)) B.ss.length := fun _ => ⟨by rw [List.length_map]; exact hP, fun q hq => by
      obtain ⟨r, hr, rfl⟩ := List.mem_map.1 hq
      have h1 := hin r hr
      exact h.sg.rg r.toNat (by omega)⟩
    obtain ⟨e, h1, h2, -⟩ := uU (O := O) hl h.sg hPA hPB (fun _ => rfl) (fun q => by cases q) _ a b (Nat.le_refl _) ha hb
    obtain ⟨a1, a2, a3, a4, a5⟩ := lT hPA hl _ a (Nat.le_refl _) ha
    have hown := vX (p := p) h h1 h2 a4 a2 a1 hm.gs hm.ms
    split at ea2
    · split at eb2
      · rw [h2] at eb2
        obtain ⟨e2, h3, h4⟩ := sF (O := O) (g0 := g0) (k0 := k0) (xs := (D.getD k md0).xs) (p := p) (idsA := a.1) (fun i hi φ A B A1 B1 hE hq e1 e2 => Ak hD f f' _ _ _ φ A B A1 B1 (by have := (hm.ins i hi).1; omega) hE (by
            unfold ptF; rw [List.length_map]; exact (hm.ins i hi).2) hq e1 e2) (fun i hi q hq => by
            obtain ⟨j, hj, rfl⟩ := List.mem_iff_getElem.1 hq
            have h5 := ((hm.xs i hi).2 j (by rw [← (hm.ins i hi).2]; exact hj)).1
            unfold Inn at h5
            rw [List.getD_eq_getElem?_getD, List.getElem?_eq_getElem hj] at h5
            rw [a1]; exact h5) _ (φ ++ e) _ _ A1 B1 (Nat.le_refl _) hown a2 ea2 eb2
        exact ⟨e ++ e2, by rw [← List.append_assoc]; exact h3, Nat.le_trans a4 h4⟩
      · cases eb2
    · cases ea2
theorem al_emb {D : List Md} (hD : DesP D) {O : Int → Prop} {f f' k : Nat} {p : Int} {P' : List Int} {B A1 B1 : Fz} (hk : k < D.length) (hP : P'.length = (ptsK (D.getD k md0)).length) (hin : InN B.ss.length P') (hO : ∀ s, s < (D.getD k md0).ss.length → ((D.getD k md0).ss.getD s sg0).k = 1 → O (P'.getD (ptsA (D.getD k md0).ss s).length 0))
    (ea : addF D f k p false [] fz0 = some A1) (eb : addF D f' k p true P' B = some B1) : ∃ ψ, FzE O ψ B.gs B.ms A1 B1 ∧ (∀ s, s < (D.getD k md0).ss.length → isPt ((D.getD k md0).ss.getD s sg0) = true → ψ.getD s 0 = P'.getD (ptsA (D.getD k md0).ss s).length 0) := by
  obtain ⟨f, rfl⟩ : ∃ q, f = q + 1 := by cases f with
    | zero => cases ea
    | succ q => exact ⟨q, rfl⟩
  obtain ⟨f', rfl⟩ : ∃ q, f' = q + 1 := by cases f' with
    | zero => cases eb
    | succ q => exact ⟨q, rfl⟩
  have hm := hD.2 k hk
  have hl := (hm.cnt.md k hk).1
  obtain ⟨a, ha, ea2⟩ := Option.bind_eq_some_iff.1 (show (sgF _ p false [] [] _).bind _ = some A1 from ea)
  obtain ⟨b, hb, eb2⟩ := Option.bind_eq_some_iff.1 (show (sgF _ p true P' B.ss _).bind _ = some B1 from eb)
  have h0 : SigE O [] [] B.ss := ⟨rfl, fun s hs => absurd hs (Nat.not_lt_zero _), fun s hs => absurd hs (Nat.not_lt_zero _), fun s hs => absurd hs (Nat.not_lt_zero _), fun s hs => absurd hs (Nat.not_lt_zero _)⟩
  have hPA : PoP (D.getD k md0) false [] (([] : List Sg).length) := fun q => by cases q
  have hPB : PoP (D.getD k md0) true P' B.ss.length := fun _ => ⟨hP, hin⟩
  obtain ⟨e, h1, h2, h3⟩ := uU (O := O) hl h0 hPA hPB (fun q => by cases q) (fun _ s hs hk2 => hO s hs hk2) _ a b (Nat.le_refl _) ha hb
  obtain ⟨a1, a2, a3, a4, a5⟩ := lT hPA hl _ a (Nat.le_refl _) ha
  have hE : FzE O [] B.gs B.ms fz0 B := ⟨h0, (by simp), (fun g hg => (by cases hg)), (by simp), (fun g hg => (by cases hg))⟩
  have hown := vX (p := p) hE h1 h2 (Nat.zero_le _) a2 a1 hm.gs hm.ms
  have hpt : ∀ s, s < (D.getD k md0).ss.length → isPt ((D.getD k md0).ss.getD s sg0) = true → ([] ++ e).getD s 0 = P'.getD (ptsA (D.getD k md0).ss s).length 0 := fun s hs hp => by
    obtain ⟨q1, q2⟩ := h3 rfl s hs hp
    have hlt : s < a.1.length := by omega
    rw [← q2, h2, List.getD_eq_getElem?_getD (l := a.1.map _), List.getElem?_map, List.getElem?_eq_getElem hlt]
    rw [List.getD_eq_getElem?_getD, List.getElem?_eq_getElem hlt] at q1
    have q1 : a.1[s] = ((0 + s : Nat) : Int) := by simpa using q1
    show _ = atP ([] ++ e) a.1[s]
    unfold atP; rw [q1]; congr 1; omega
  split at ea2
  · split at eb2
    · rw [h2] at eb2
      obtain ⟨e2, h4, h5⟩ := sF (O := O) (g0 := B.gs) (k0 := B.ms) (xs := (D.getD k md0).xs) (p := p) (idsA := a.1) (fun i hi φ A B A1 B1 hE hq e1 e2 => Ak hD f f' _ _ _ φ A B A1 B1 (by have := (hm.ins i hi).1; omega) hE (by
          unfold ptF; rw [List.length_map]; exact (hm.ins i hi).2) hq e1 e2) (fun i hi q hq => by
          obtain ⟨j, hj, rfl⟩ := List.mem_iff_getElem.1 hq
          have h5 := ((hm.xs i hi).2 j (by rw [← (hm.ins i hi).2]; exact hj)).1
          unfold Inn at h5
          rw [List.getD_eq_getElem?_getD, List.getElem?_eq_getElem hj] at h5
          rw [a1]; exact h5) _ ([] ++ e) _ _ A1 B1 (Nat.le_refl _) hown a2 ea2 eb2
      refine ⟨([] ++ e) ++ e2, h4, fun s hs hp => ?_⟩
      have h9 := kS ha
      rw [eX (by rw [h1.ln, h9]; omega)]; exact hpt s hs hp
    · cases eb2
  · cases ea2
theorem gY (x lo hi : Int) (w : World)  :
   Calls Try.prog 69 #[.int .i64 x, .int .i64 lo, .int .i64 hi] w (Ans w (.bool (inR x lo hi))) := by
 refine bW (N := 15) (args := [jI x, jI lo, jI hi]) Try.func69 C C (bA 1 C (aF (cG 2 C ?_)))
 refine iU C C C C C C (fun h1 => ?_) (fun h1 => ?_)
 refine aH 3 C (jD C C C C C C (fun h2 => ?_) (fun h2 => ?_))
 refine aP 2 C ?_
 exact aN (aX C C (congrArg _ (((dQ _ _ _).2 (by omega)).symm)))
 refine aP 2 C ?_
 exact aN (aX C C (congrArg _ ((Bool.eq_false_iff.2 (fun h => by have := (dQ _ _ _).1 h; omega)).symm)))
 refine aP 6 C ?_
 exact aN (aX C C (congrArg _ ((Bool.eq_false_iff.2 (fun h => by have := (dQ _ _ _).1 h; omega)).symm)))
theorem jS (k : Int) (w : World)  :
   Calls Try.prog 124 #[.int .i64 k] w (Ans w (.int .i64 (arI k))) := by
 refine bW (N := 12) (args := [jI k]) Try.func124 C C (bA 1 C (aF (aF (cG 1 C ?_))))
 refine dW C (aV C C (fun w hm => bJ (gY k 0 12 w))) (bT (fun h1 => ?_) (fun h1 => ?_))
 obtain ⟨h1a, h1b⟩ := (dQ _ _ _).1 h1
 refine aP 1 C (aS C (cE (aF (aF (cG 1 C ?_)))))
 refine jD C C C C C C (fun h2 => ?_) (fun h2 => ?_)
 refine bQ (aK C (bA 1 C ?_))
 refine aN (aG ?_)
 exact aX C C (congrArg (Value.int .i64) (by unfold arI; (repeat' split) <;> first | rfl | (exfalso; omega)))
 refine bQ (aS C (cE (aF (aF (cG 1 C ?_)))))
 refine bU C C C C C C (fun h3 => ?_) (fun h3 => ?_)
 refine bQ (aK C (bA 1 C ?_))
 refine aN (aG ?_)
 exact aX C C (congrArg (Value.int .i64) (by unfold arI; (repeat' split) <;> first | rfl | (exfalso; omega)))
 refine bQ (aS C (cE (aF (aF (cG 1 C ?_)))))
 refine bU C C C C C C (fun h4 => ?_) (fun h4 => ?_)
 refine bQ (aK C (bA 1 C ?_))
 refine aN (aG ?_)
 exact aX C C (congrArg (Value.int .i64) (by unfold arI; (repeat' split) <;> first | rfl | (exfalso; omega)))
 refine bQ (aS C (cE (bA 1 C ?_)))
 exact aN (aX C C (congrArg (Value.int .i64) (by unfold arI; (repeat' split) <;> first | rfl | (exfalso; omega))))
 have h1a := dK h1
 refine aP 1 C (aK C (bA 1 C ?_))
 refine aN (aG ?_)
 exact aX C C (congrArg (Value.int .i64) (by unfold arI; (repeat' split) <;> first | rfl | (exfalso; omega)))
theorem xJ (o : Oq) (n : Int) (w : World)  :
   Calls Try.prog 126 #[.agg #[.int .i64 o.k, .int .i64 o.a, .int .i64 o.b], .int .i64 n] w (Ans w (.bool (pB (OqP n o)))) := by
 refine bW (N := 63) (args := [.agg #[jI o.k, jI o.a, jI o.b], jI n]) Try.func126 C C (cA ?_)
 refine cL C (cY C C) ?_
 intro b1
 refine aP 1 C (eM (aI C (bM 0 C C C) (aI C (aC C C C (aA 0 C C)) (bQ (bD (aF ?_))))))
 refine aO (bU C C C C C C (fun h2 => ?_) (fun h2 => ?_))
 refine aP 1 C (aK C (cA (aI C (bM 1 C C C) (aI C (aC C C C (aA 0 C C)) ?_))))
 refine dW C (aV C C (fun w hm => bJ (gY o.a 0 15 w))) (bT (fun h3 => ?_) (fun h3 => ?_))
 obtain ⟨h3a, h3b⟩ := (dQ _ _ _).1 h3
 refine aH 1 C (aI C (bM 2 C C C) (aI C (aC C C C (aA 0 C C)) ?_))
 refine bU C C C C C C (fun h4 => ?_) (fun h4 => ?_)
 refine aP 2 C ?_
 refine aN (aE ?_)
 exact aG (aX C C (congrArg _ (dG (by first | exact .inl ⟨by omega, ⟨by omega, by omega⟩, by omega⟩ | exact .inr (.inl ⟨by omega, ⟨by omega, by omega⟩, by omega⟩) | exact .inr (.inr (.inl ⟨by omega, ⟨by omega, by omega⟩, by omega, by omega⟩)) | exact .inr (.inr (.inr ⟨by omega, by omega, by omega, by omega, by omega, by omega⟩)))).symm))
 refine aP 2 C ?_
 refine aN (aE ?_)
 exact aG (aX C C (congrArg _ (bX (fun hp => by first | (rcases hp with ⟨p1, p2, p3⟩ | ⟨p1, p2, p3⟩ | ⟨p1, p2, p3⟩ | ⟨p1, p2, p3, p4, p5, p6⟩ <;> omega))).symm))
 have h3a := dK h3
 refine aP 6 C ?_
 refine aN (aE ?_)
 exact aG (aX C C (congrArg _ (bX (fun hp => by first | (rcases hp with ⟨p1, p2, p3⟩ | ⟨p1, p2, p3⟩ | ⟨p1, p2, p3⟩ | ⟨p1, p2, p3, p4, p5, p6⟩ <;> omega))).symm))
 refine aP 1 C (aS C (cA ?_))
 refine bU C C C C C C (fun h5 => ?_) (fun h5 => ?_)
 refine aP 1 C (aK C (cA (aI C (bM 1 C C C) (aI C (aC C C C (aA 0 C C)) ?_))))
 refine iU C C C C C C (fun h6 => ?_) (fun h6 => ?_)
 refine aH 1 C (aI C (bM 1 C C C) (aI C (aC C C C (aA 0 C C)) (aH 1 C ?_)))
 refine bN C C C C C C (fun h7 => ?_) (fun h7 => ?_)
 refine aH 2 C (aI C (bM 2 C C C) (aI C (aC C C C (aA 0 C C)) ?_))
 refine bU C C C C C C (fun h8 => ?_) (fun h8 => ?_)
 refine aP 2 C ?_
 refine aN (aE ?_)
 exact aG (aX C C (congrArg _ (dG (by first | exact .inl ⟨by omega, ⟨by omega, by omega⟩, by omega⟩ | exact .inr (.inl ⟨by omega, ⟨by omega, by omega⟩, by omega⟩) | exact .inr (.inr (.inl ⟨by omega, ⟨by omega, by omega⟩, by omega, by omega⟩)) | exact .inr (.inr (.inr ⟨by omega, by omega, by omega, by omega, by omega, by omega⟩)))).symm))
 refine aP 2 C ?_
 refine aN (aE ?_)
 exact aG (aX C C (congrArg _ (bX (fun hp => by first | (rcases hp with ⟨p1, p2, p3⟩ | ⟨p1, p2, p3⟩ | ⟨p1, p2, p3⟩ | ⟨p1, p2, p3, p4, p5, p6⟩ <;> omega))).symm))
 refine aP 7 C ?_
 refine aN (aE ?_)
 exact aG (aX C C (congrArg _ (bX (fun hp => by first | (rcases hp with ⟨p1, p2, p3⟩ | ⟨p1, p2, p3⟩ | ⟨p1, p2, p3⟩ | ⟨p1, p2, p3, p4, p5, p6⟩ <;> omega))).symm))
 refine aP 12 C ?_
 refine aN (aE ?_)
 exact aG (aX C C (congrArg _ (bX (fun hp => by first | (rcases hp with ⟨p1, p2, p3⟩ | ⟨p1, p2, p3⟩ | ⟨p1, p2, p3⟩ | ⟨p1, p2, p3, p4, p5, p6⟩ <;> omega))).symm))
 refine aP 1 C (aS C (cA ?_))
 refine bU C C C C C C (fun h9 => ?_) (fun h9 => ?_)
 refine aP 1 C (aK C (cA (aI C (bM 1 C C C) (aI C (aC C C C (aA 0 C C)) ?_))))
 refine iU C C C C C C (fun h10 => ?_) (fun h10 => ?_)
 refine aH 1 C (aI C (bM 1 C C C) (aI C (aC C C C (aA 0 C C)) (aH 1 C ?_)))
 refine bN C C C C C C (fun h11 => ?_) (fun h11 => ?_)
 refine aH 2 C (aI C (bM 2 C C C) (aI C (aC C C C (aA 0 C C)) ?_))
 refine dW C (aV C C (fun w hm => bJ (gY o.b 0 3 w))) (bT (fun h12 => ?_) (fun h12 => ?_))
 obtain ⟨h12a, h12b⟩ := (dQ _ _ _).1 h12
 refine aP 2 C ?_
 refine aN (aE ?_)
 exact aG (aX C C (congrArg _ (dG (by first | exact .inl ⟨by omega, ⟨by omega, by omega⟩, by omega⟩ | exact .inr (.inl ⟨by omega, ⟨by omega, by omega⟩, by omega⟩) | exact .inr (.inr (.inl ⟨by omega, ⟨by omega, by omega⟩, by omega, by omega⟩)) | exact .inr (.inr (.inr ⟨by omega, by omega, by omega, by omega, by omega, by omega⟩)))).symm))
 have h12a := dK h12
 refine aP 2 C ?_
 refine aN (aE ?_)
 exact aG (aX C C (congrArg _ (bX (fun hp => by first | (rcases hp with ⟨p1, p2, p3⟩ | ⟨p1, p2, p3⟩ | ⟨p1, p2, p3⟩ | ⟨p1, p2, p3, p4, p5, p6⟩ <;> omega))).symm))
 refine aP 7 C ?_
 refine aN (aE ?_)
 exact aG (aX C C (congrArg _ (bX (fun hp => by first | (rcases hp with ⟨p1, p2, p3⟩ | ⟨p1, p2, p3⟩ | ⟨p1, p2, p3⟩ | ⟨p1, p2, p3, p4, p5, p6⟩ <;> omega))).symm))
 refine aP 12 C ?_
 refine aN (aE ?_)
 exact aG (aX C C (congrArg _ (bX (fun hp => by first | (rcases hp with ⟨p1, p2, p3⟩ | ⟨p1, p2, p3⟩ | ⟨p1, p2, p3⟩ | ⟨p1, p2, p3, p4, p5, p6⟩ <;> omega))).symm))
 refine aP 1 C (gM C (cK (cA (aI C (bM 0 C C C) (aI C (aC C C C (aA 0 C C)) ?_)))))
 refine dW C (aV C C (fun w hm => bJ (jS o.k w))) (iU C C C C C C (fun h13 => ?_) (fun h13 => ?_))
 refine aH 1 C (aI C (bM 1 C C C) (aI C (aC C C C (aA 0 C C)) ?_))
 refine bU C C C C C C (fun h14 => ?_) (fun h14 => ?_)
 refine aH 2 C (aI C (bM 2 C C C) (aI C (aC C C C (aA 0 C C)) ?_))
 refine bU C C C C C C (fun h15 => ?_) (fun h15 => ?_)
 refine aP 2 C ?_
 exact aN (aX C C (congrArg _ (dG (by first | exact .inl ⟨by omega, ⟨by omega, by omega⟩, by omega⟩ | exact .inr (.inl ⟨by omega, ⟨by omega, by omega⟩, by omega⟩) | exact .inr (.inr (.inl ⟨by omega, ⟨by omega, by omega⟩, by omega, by omega⟩)) | exact .inr (.inr (.inr ⟨by omega, by omega, by omega, by omega, by omega, by omega⟩)))).symm))
 refine aP 2 C ?_
 exact aN (aX C C (congrArg _ (bX (fun hp => by first | (rcases hp with ⟨p1, p2, p3⟩ | ⟨p1, p2, p3⟩ | ⟨p1, p2, p3⟩ | ⟨p1, p2, p3, p4, p5, p6⟩ <;> omega))).symm))
 refine aP 7 C ?_
 exact aN (aX C C (congrArg _ (bX (fun hp => by first | (rcases hp with ⟨p1, p2, p3⟩ | ⟨p1, p2, p3⟩ | ⟨p1, p2, p3⟩ | ⟨p1, p2, p3, p4, p5, p6⟩ <;> omega))).symm))
 refine aP 11 C ?_
 exact aN (aX C C (congrArg _ (bX (fun hp => by first | (rcases hp with ⟨p1, p2, p3⟩ | ⟨p1, p2, p3⟩ | ⟨p1, p2, p3⟩ | ⟨p1, p2, p3, p4, p5, p6⟩ <;> omega))).symm))
theorem lM (os : List Oq) (n : Int) (v : Value) (w : World) (hv : RdsW w v 3 os.length (os.flatMap oqC)) :
   Calls Try.prog 89 #[v, .int .i64 n] w (Ans w (.bool (pB (OpsP n os)))) := by
 have hv9 := gL hv
 refine bW (N := 38) (args := [v, jI n]) Try.func89 C C (bA 1 C (aF (aF (cG 1 C (aI C (dL C C C (aD hv)) ?_)))))
 refine eS C C C C C C (fun h1 => ?_) (fun h1 => ?_)
 refine bQ (aK C (bA 1 C ?_))
 refine aN (aG ?_)
 exact aX C C (congrArg _ (bX (fun hp => by first | (have := hp.len; omega) | (have := hp.pos; omega) | (have := (hp.op i (by omega)).1; omega) | (exact absurd (hp.op i (by omega)).2 (by assumption)) | (have := hp.fin; rw [show os.length = i by omega] at this; omega))).symm)
 refine bQ (aS C (cE (bA 1 C (aF (aF ?_)))))
 refine aO (aP 1 C (bD ?_))
 refine jZ (α := Nat) (β := Int) [0, 1, 4, 9] C (fun i c => []) (fun i c => [(5, jI c), (6, jI (i : Int))]) (fun i c => i ≤ os.length ∧ c = needK os i ∧ ∀ q, q < i → needK os q ≠ 0 ∧ OqP n (os.getD q oq0)) (fun i c => os.length - i) 0 1 ⟨Nat.zero_le _, C, fun q hq => absurd hq (by omega)⟩ (cN C) (.slnil) ?_
 intro i c hi2
 obtain ⟨hi, hc, hall⟩ := hi2
 have hnr := nM os i
 have har := oT (os.getD i oq0).k
 refine aF (aF (cG 2 C (aI C (dL C C C (aD hv)) ?_)))
 refine bN C C C C C C (fun h3 => ?_) (fun h3 => ?_)
 refine bQ (aK C (cE (fD (aF (aF (cG 1 C ?_))))))
 refine bU C C C C C C (fun h4 => ?_) (fun h4 => ?_)
 refine aP 9 C (aK C (aF (cG 1 C (?_))))
 refine bQ ?_
 refine aN (aG ?_)
 refine aE (dZ ?_)
 refine aE (aG ?_)
 exact aX C C (congrArg _ (bX (fun hp => by first | (have := hp.len; omega) | (have := hp.pos; omega) | (have := (hp.op i (by omega)).1; omega) | (exact absurd (hp.op i (by omega)).2 (by assumption)) | (have := hp.fin; rw [show os.length = i by omega] at this; omega))).symm)
 refine aH 3 C (aI C (cR 3 C C C C (aD hv)) ?_)
 refine aI C (bL (us := [jI ((os.getD i oq0).k), jI ((os.getD i oq0).a), jI ((os.getD i oq0).b)]) C C C C (aD hv) (by omega) C (bY oqC 3 (fun _ => C) os oq0 (show i < _ by omega) C)) (aH 1 C ?_)
 refine dW C (aV C C (fun w hm => bJ (xJ (os.getD i oq0) n w))) (bT (fun h5 => ?_) (fun h5 => ?_))
 have h5p := fK h5
 refine aP 2 C (aS C (cE (cG 1 C (aI C (nC C C C) (aH 2 C (aI C (cR 3 C C C C (aD hv)) (aI C (aZ (k0 := 0) C C C (aD hv) (by omega)) ?_)))))))
 refine aI C (aQ (u := jI ((os.getD i oq0).k)) C C C (aD hv) ((bR oqC 3 (fun _ => C) os oq0 (show i < _ by omega) (by decide)).trans C)) (dW C (aV C C (fun w hm => bJ (jS ((os.getD i oq0).k) w))) ?_)
 refine aI C (dO C C C) (dA 1 C (cK (cG 1 C (aI C (dO C C C) (dA 1 C ?_)))))
 exact cX (i + 1) ((c - 1) + (arI ((os.getD i oq0).k))) ⟨by omega, by show _ = needK os i + (arI (os.getD i oq0).k - 1); omega, fun q hq => by by_cases e : q = i; (subst e; exact ⟨by omega, by assumption⟩); exact hall q (by omega)⟩ (by omega) (cN C) (.slnil)
 have h5p := eP h5
 refine aP 2 C (aK C (bA 1 C ?_))
 refine aN (aG ?_)
 refine aE (dZ ?_)
 refine aE (aG ?_)
 exact aX C C (congrArg _ (bX (fun hp => by first | (have := hp.len; omega) | (have := hp.pos; omega) | (have := (hp.op i (by omega)).1; omega) | (exact absurd (hp.op i (by omega)).2 (by assumption)) | (have := hp.fin; rw [show os.length = i by omega] at this; omega))).symm)
 refine bQ (aS C ?_)
 refine bI (dC ?_)
 refine aM (aR (aF (cG 1 C ?_)))
 refine bU C C C C C C (fun h6 => ?_) (fun h6 => ?_)
 refine aP 1 C ?_
 exact aN (aX C C (congrArg _ (dG ⟨by omega, fun q hq => hall q (by omega), by rw [show os.length = i by omega]; omega⟩).symm))
 refine aP 1 C ?_
 exact aN (aX C C (congrArg _ (bX (fun hp => by first | (have := hp.len; omega) | (have := hp.pos; omega) | (have := (hp.op i (by omega)).1; omega) | (exact absurd (hp.op i (by omega)).2 (by assumption)) | (have := hp.fin; rw [show os.length = i by omega] at this; omega))).symm))
theorem gF (m : Md) (w : World) (hr : RdsMd w m) :
   Calls Try.prog 32 #[.agg #[m.sv, m.av, m.iv, m.mv]] w (Ret w (fun v' post => post = [rI9 3 v' (ptsK m)])) := by
 have hs9 := gL hr.s
 refine bW (N := 39) (args := [.agg #[m.sv, m.av, m.iv, m.mv]]) Try.func32 C C (cA ?_)
 refine cL C (cY C C) ?_
 intro b1
 refine aP 1 C (cA ?_)
 refine eA C (dF (s := 1) C Try.underlying48 C) ?_
 intro g2
 refine aP 1 C (eM (aI C (bM 0 C C C) (aI C (aC C C C (aA 1 C C)) (aI C (dL C C C (aD ((hr).s))) ?_))))
 refine eS C C C C C C (fun h3 => ?_) (fun h3 => ?_)
 refine bQ (aK C (bA 2 C ?_))
 refine aN (aG ?_)
 exact gE (post := [rowE 3 1 (.slice (some ⟨g2, 0, none⟩) 0 0) 0 ([])]) C C (eO [0] C) (by unfold ptsK; rw [if_neg (by omega)] <;> rfl)
 refine bQ (aS C (cE (aF (bA 1 C (bD ?_)))))
 refine jC (α := Nat) (β := Value) (γ := List Int) [0, 1, 2, 9] C (fun i gu zs => [rI9 3 gu zs, boxE b1 #[m.sv, m.av, m.iv, m.mv] 35]) (fun i gu zs => [(3, gu), (4, jI (i : Int))]) (fun i gu zs => i ≤ m.ss.length ∧ zs = ptsA m.ss i) (fun i gu zs => m.ss.length - i) 0 _ [] ⟨Nat.zero_le _, C⟩ (cN C) (eT C) ?_
 intro i gu zs hi4
 obtain ⟨hi, hz⟩ := hi4
 have hzl : zs.length ≤ i := by rw [hz]; exact oL _ _
 refine aF (aF (cG 1 C (aI C (bM 0 C C C) (aI C (aC C C C (aA 1 C C)) (aI C (dL C C C (aD ((hr).s))) ?_)))))
 refine bN C C C C C C (fun h5 => ?_) (fun h5 => ?_)
 refine bQ (aK C (cE (fD (cA (aI C (bM 0 C C C) (aI C (aC C C C (aA 1 C C)) (aH 1 C (aI C (cR 3 C C C C (aD ((hr).s))) ?_))))))))
 refine aI C (aZ (k0 := 0) C C C (aD ((hr).s)) (by omega)) (aI C (aQ (u := jI ((m.ss.getD i sg0).k)) C C C (aD ((hr).s)) ((bR sgC 3 (fun _ => C) m.ss sg0 (show i < _ by omega) (by decide)).trans C)) ?_)
 refine bU C C C C C C (fun h6 => ?_) (fun h6 => ?_)
 refine aP 9 C (aK C (aO ?_))
 refine aH 2 C (eA C (bB (z := jI 0) (s := 1) (cs := (mI [(i : Int)])) C Try.underlying48 C (by decide) C (by kernel_rfl) C) ?_)
 intro g7
 refine cW (i := 1) (z := jI 0) (bytes := 8) C C C C Try.underlying48 (by kernel_rfl) C C C C (aJ 0 C) (cQ _) (by first | omega | (simp; done) | (simp; omega)) (cM zs ([(i : Int)])) (dP zs ([(i : Int)])) (fun _ => C) ?_
 intro v8
 refine dA 1 C (cK (cG 1 C (aI C (dO C C C) (dA 1 C ?_))))
 exact cO (i + 1) v8 (zs ++ ([(i : Int)])) ⟨by omega, by rw [hz]; exact iQ (by omega)⟩ (by omega) (cN rfl) (eO [1, 0] rfl)
 refine aH 1 C (aI C (bM 0 C C C) (aI C (aC C C C (aA 1 C C)) (aH 1 C (aI C (cR 3 C C C C (aD ((hr).s))) (aI C (aZ (k0 := 0) C C C (aD ((hr).s)) (by omega)) ?_)))))
 refine aI C (aQ (u := jI ((m.ss.getD i sg0).k)) C C C (aD ((hr).s)) ((bR sgC 3 (fun _ => C) m.ss sg0 (show i < _ by omega) (by decide)).trans C)) (bU C C C C C C (fun h9 => ?_) (fun h9 => ?_))
 refine aP 1 C (aK C (cG 2 C ?_))
 refine eA C (bB (z := jI 0) (s := 1) (cs := (mI [(i : Int)])) C Try.underlying48 C (by decide) C (by kernel_rfl) C) ?_
 intro g10
 refine cW (i := 1) (z := jI 0) (bytes := 8) C C C C Try.underlying48 (by kernel_rfl) C C C C (aJ 0 C) (cQ _) (by first | omega | (simp; done) | (simp; omega)) (cM zs ([(i : Int)])) (dP zs ([(i : Int)])) (fun _ => C) ?_
 intro v11
 refine dA 1 C (cK (cG 1 C (aI C (dO C C C) (dA 1 C ?_))))
 exact cO (i + 1) v11 (zs ++ ([(i : Int)])) ⟨by omega, by rw [hz]; exact iQ (by omega)⟩ (by omega) (cN rfl) (eO [1, 0] rfl)
 refine aP 1 C (gM C (cK (cG 1 C (aI C (dO C C C) (dA 1 C ?_)))))
 exact cO (i + 1) gu zs ⟨by omega, hz.trans (oK (by omega))⟩ (by omega) (cN C) (eT C)
 refine bQ (aS C ?_)
 refine bI (dC ?_)
 refine aM (aR (bA 2 C ?_))
 exact aN (gE (post := [rI9 3 gu zs]) C C (eO [0] C) (by rw [hz, show i = m.ss.length by omega]; unfold ptsK; rw [if_pos (by omega)]))
theorem lP (D : List Md) (k : Nat) (v : Value) (w : World) (hd : RdsDs w v D) :
   Calls Try.prog 150 #[.agg #[v], .int .i64 (k : Int)] w (Ans w (.bool (pB (CtsP D k)))) := by
 have hd9 := gL hd.row
 have hm9 : ∀ q, q < D.length → (D.getD q md0).ss.length ≤ 9223372036854775807 := fun q hq => by have := gL (hd.at hq).s; omega
 refine bW (N := 101) (args := [.agg #[v], jI (k : Int)]) Try.func150 C C (cA ?_)
 refine cL C (cY C C) ?_
 intro b1
 refine aP 1 C (eM (aI C (bM 0 C C C) (aI C (aC C C C (aA 0 C C)) (aI C (dL C C C (aD hd.row)) ?_))))
 refine eS C C C C C C (fun h2 => ?_) (fun h2 => ?_)
 refine aP 11 C (aK C (cA ?_))
 refine aP 1 C ?_
 refine aN (aG ?_)
 exact aX C C (congrArg _ (bX (fun hp => by first | (have := hp.lt; have := hp.cnt.len; omega) | (have h9 := hp.cnt.md i (by omega); obtain ⟨h1, h2, h3, h4⟩ := h9; omega) | (have h9 := hp.ins i (by omega); obtain ⟨⟨h1, h2⟩, h3⟩ := h9; omega))).symm)
 refine aH 2 C (bN C C C C C C (fun h3 => ?_) (fun h3 => ?_))
 refine aP 8 C (aK C (aF (cG 1 C (?_))))
 refine bQ ?_
 refine aN (aG ?_)
 exact aX C C (congrArg _ (bX (fun hp => by first | (have := hp.lt; have := hp.cnt.len; omega) | (have h9 := hp.cnt.md i (by omega); obtain ⟨h1, h2, h3, h4⟩ := h9; omega) | (have h9 := hp.ins i (by omega); obtain ⟨⟨h1, h2⟩, h3⟩ := h9; omega))).symm)
 refine aH 3 C (aI C (bM 0 C C C) (aI C (aC C C C (aA 0 C C)) (aI C (dL C C C (aD hd.row)) ?_)))
 refine iU C C C C C C (fun h4 => ?_) (fun h4 => ?_)
 refine aP 1 C (aK C (bA 1 C ?_))
 refine aN (aG ?_)
 exact aX C C (congrArg _ (bX (fun hp => by first | (have := hp.lt; have := hp.cnt.len; omega) | (have h9 := hp.cnt.md i (by omega); obtain ⟨h1, h2, h3, h4⟩ := h9; omega) | (have h9 := hp.ins i (by omega); obtain ⟨⟨h1, h2⟩, h3⟩ := h9; omega))).symm)
 refine aP 1 C (aS C (cE (aF (bA 1 C ?_))))
 refine bD ?_
 refine gK (α := Nat) [0, 1, 2, 4, 23] C (fun i => [boxE b1 #[v] 26]) (fun i => [(5, jI (i : Int))]) (fun i => i ≤ D.length ∧ ∀ q, q < i → LenP (D.getD q md0)) (fun i => D.length - i) 0 ⟨Nat.zero_le _, fun q hq => absurd hq (by omega)⟩ (cN C) (eT C) ?_
 intro i hi5
 obtain ⟨hi, hall⟩ := hi5
 refine aF (aF (cG 1 C (aI C (bM 0 C C C) (aI C (aC C C C (aA 0 C C)) (aI C (dL C C C (aD hd.row)) ?_)))))
 refine bN C C C C C C (fun h6 => ?_) (fun h6 => ?_)
 refine bQ (aK C (cE (fD (cA (aI C (bM 0 C C C) (aI C (aC C C C (aA 0 C C)) (aH 1 C (aI C (cR 4 C C C C (aD hd.row)) ?_))))))))
 refine aI C (bL (us := [(D.getD i md0).sv, (D.getD i md0).av, (D.getD i md0).iv, (D.getD i md0).mv]) C C C C (aD hd.row) (by omega) C (bY mdC 4 (fun _ => C) D md0 (show i < _ by omega) C)) (cL C (bG (z := .agg #[.slice none 0 0, .slice none 0 0, .slice none 0 0, .slice none 0 0]) C C) ?_)
 intro b7
 refine bE (cs' := #[(D.getD i md0).sv, (D.getD i md0).av, (D.getD i md0).iv, (D.getD i md0).mv]) (i := 0) (off := 0) (us := [(D.getD i md0).sv, (D.getD i md0).av, (D.getD i md0).iv, (D.getD i md0).mv]) C C C C C C C (aB (hd.at (k := i) (by omega)).s.one (aB (hd.at (k := i) (by omega)).g.one (aB (hd.at (k := i) (by omega)).x.one (aB (hd.at (k := i) (by omega)).m.one bC)))) C C C (bQ (cA (aI C (bM 0 C C C) (aI C (aC C C C (aA 0 C C)) (aI C (dL C C C (aD ((hd.at (k := i) (by omega)).s))) ?_)))))
 refine eS C C C C C C (fun h8 => ?_) (fun h8 => ?_)
 refine aP 18 C (aK C (bA 1 C ?_))
 refine aN (aE ?_)
 refine dZ ?_
 refine aE (aG ?_)
 exact aX C C (congrArg _ (bX (fun hp => by first | (have := hp.lt; have := hp.cnt.len; omega) | (have h9 := hp.cnt.md i (by omega); obtain ⟨h1, h2, h3, h4⟩ := h9; omega) | (have h9 := hp.ins i (by omega); obtain ⟨⟨h1, h2⟩, h3⟩ := h9; omega))).symm)
 refine aH 1 C (aI C (bM 1 C C C) (aI C (aC C C C (aA 0 C C)) (aI C (dL C C C (aD ((hd.at (k := i) (by omega)).g))) ?_)))
 refine eS C C C C C C (fun h9 => ?_) (fun h9 => ?_)
 refine aP 13 C ?_
 refine aK C (bA 1 C ?_)
 refine aN (aE ?_)
 refine dZ ?_
 refine aE (aG ?_)
 exact aX C C (congrArg _ (bX (fun hp => by first | (have := hp.lt; have := hp.cnt.len; omega) | (have h9 := hp.cnt.md i (by omega); obtain ⟨h1, h2, h3, h4⟩ := h9; omega) | (have h9 := hp.ins i (by omega); obtain ⟨⟨h1, h2⟩, h3⟩ := h9; omega))).symm)
 refine aH 2 C (aI C (bM 2 C C C) (aI C (aC C C C (aA 0 C C)) (aI C (dL C C C (aD ((hd.at (k := i) (by omega)).x))) ?_)))
 refine eS C C C C C C (fun h10 => ?_) (fun h10 => ?_)
 refine aP 7 C (aK C (aF (cG 1 C (?_))))
 refine bQ ?_
 refine aN (aE ?_)
 refine dZ ?_
 refine aE (aG ?_)
 exact aX C C (congrArg _ (bX (fun hp => by first | (have := hp.lt; have := hp.cnt.len; omega) | (have h9 := hp.cnt.md i (by omega); obtain ⟨h1, h2, h3, h4⟩ := h9; omega) | (have h9 := hp.ins i (by omega); obtain ⟨⟨h1, h2⟩, h3⟩ := h9; omega))).symm)
 refine aH 2 C (aI C (bM 3 C C C) (aI C (aC C C C (aA 0 C C)) (aI C (dL C C C (aD ((hd.at (k := i) (by omega)).m))) ?_)))
 refine eS C C C C C C (fun h11 => ?_) (fun h11 => ?_)
 refine aP 1 C (aK C (bA 1 C ?_))
 refine aN (aE ?_)
 refine dZ ?_
 refine aE (aG ?_)
 exact aX C C (congrArg _ (bX (fun hp => by first | (have := hp.lt; have := hp.cnt.len; omega) | (have h9 := hp.cnt.md i (by omega); obtain ⟨h1, h2, h3, h4⟩ := h9; omega) | (have h9 := hp.ins i (by omega); obtain ⟨⟨h1, h2⟩, h3⟩ := h9; omega))).symm)
 refine aP 1 C (gM C (cK (cG 1 C (aI C (dO C C C) (dA 1 C ?_)))))
 exact cB (i + 1) ⟨by omega, fun q hq => by by_cases e : q = i; (subst e; exact ⟨by omega, by omega, by omega, by omega⟩); exact hall q (by omega)⟩ (by omega) (cN C) (eO [1] C)
 refine bQ (aS C ?_)
 refine bI (dC ?_)
 refine aM (aR (aF (bA 1 C (bD ?_))))
 refine gK (α := Nat) [0, 1, 2, 4, 23, 28] C (fun i => [boxE b1 #[v] 26]) (fun i => [(7, jI (i : Int))]) (fun i => i ≤ (D.getD k md0).xs.length ∧ ∀ q, q < i → InsOk D k q) (fun i => (D.getD k md0).xs.length - i) 0 ⟨Nat.zero_le _, fun q hq => absurd hq (by omega)⟩ (cN C) (eT C) ?_
 intro i hi12
 obtain ⟨hi, hins⟩ := hi12
 have hcnt : CntP D := ⟨by omega, fun q hq => hall q (by omega)⟩
 have hxl := (hcnt.md k (by omega)).2.2.1
 refine aF (aF (cG 1 C (aI C (bM 0 C C C) (aI C (aC C C C (aA 0 C C)) (aH 1 C (aI C (cR 4 C C C C (aD hd.row)) (aI C (aZ (k0 := 2) C C C (aD hd.row) (by omega)) ?_)))))))
 refine aI C (aQ (u := (D.getD k md0).iv) C C C (aD hd.row) ((bR mdC 4 (fun _ => C) D md0 (show k < _ by omega) (by decide)).trans C)) (aI C (dL C C C (aD ((hd.at (k := k) (by omega)).x))) ?_)
 refine bN C C C C C C (fun h13 => ?_) (fun h13 => ?_)
 refine bQ (aK C (cE (fD (cA (aI C (bM 0 C C C) (aI C (aC C C C (aA 0 C C)) (aH 1 C (aI C (cR 4 C C C C (aD hd.row)) ?_))))))))
 refine aI C (aZ (k0 := 2) C C C (aD hd.row) (by omega)) (aI C (aQ (u := (D.getD k md0).iv) C C C (aD hd.row) ((bR mdC 4 (fun _ => C) D md0 (show k < _ by omega) (by decide)).trans C)) ?_)
 refine aH 1 C (aI C (cR 3 C C C C (aD ((hd.at (k := k) (by omega)).x))) ?_)
 refine aI C (bL (us := [jI ((((D.getD k md0).xs).getD i ix0).m), jI ((((D.getD k md0).xs).getD i ix0).p), (((D.getD k md0).xs).getD i ix0).pv]) C C C C (aD ((hd.at (k := k) (by omega)).x)) (by omega) C (bY ixC 3 (fun _ => C) ((D.getD k md0).xs) ix0 (show i < _ by omega) C)) (cL C (bG (z := .agg #[jI 0, jI 0, .slice none 0 0]) C C) ?_)
 intro b14
 refine bE (cs' := #[jI ((((D.getD k md0).xs).getD i ix0).m), jI ((((D.getD k md0).xs).getD i ix0).p), (((D.getD k md0).xs).getD i ix0).pv]) (i := 0) (off := 0) (us := [jI ((((D.getD k md0).xs).getD i ix0).m), jI ((((D.getD k md0).xs).getD i ix0).p), (((D.getD k md0).xs).getD i ix0).pv]) C C C C C C C (aB C (aB C (aB ((hd.at (k := k) (by omega)).p.at (k := i) (by omega)).one bC))) C C C (bQ (aF ?_))
 rcases Bool.eq_false_or_eq_true (decide ((((D.getD k md0).xs).getD i ix0).m < 0)) with hb15 | hb15
 have hb15p : (((D.getD k md0).xs).getD i ix0).m < 0 := of_decide_eq_true hb15
 refine cI 23 [[], [0], [1], [2], [3], [3], [3], [3], [3, 7], [8], [9], [9], [9], [9], [9], [9], [9], [9], [9], [9], [9], [9], [9, 21]] [78, 79, 80, 81, 82, 83, 84, 85, 86, 87, 88, 89, 90, 91, 92, 93, 94, 95, 96, 97, 98, 99, 100] [.pointer (some ⟨b14, 0 + 0, none⟩), jI ((((D.getD k md0).xs).getD i ix0).m), .bool true, .bool true, undef, undef, undef, undef, .bool true, .bool true, undef, undef, undef, undef, undef, undef, undef, undef, undef, undef, undef, undef, .bool true] (by kernel_rfl) C ?_ ?_
 exact ⟨bF C (bM 0 C C C) C, bF C (aC C C C (aA 0 C C)) C, .inl ⟨C, gG (dR C C C C) hb15⟩, bF C (aY C) C, .inr ⟨C, C⟩, .inr ⟨C, C⟩, .inr ⟨C, C⟩, .inr ⟨C, C⟩, bF C (aY C) C, bF C (aY C) C, .inr ⟨C, C⟩, .inr ⟨C, C⟩, .inr ⟨C, C⟩, .inr ⟨C, C⟩, .inr ⟨C, C⟩, .inr ⟨C, C⟩, .inr ⟨C, C⟩, .inr ⟨C, C⟩, .inr ⟨C, C⟩, .inr ⟨C, C⟩, .inr ⟨C, C⟩, .inr ⟨C, C⟩, bF C (aY C) C, trivial⟩
 simp only [List.drop_succ_cons, List.drop_zero]
 refine bQ (aK C (bA 1 C ?_))
 refine aN (aE ?_)
 refine dZ ?_
 refine aE (aG ?_)
 exact aX C C (congrArg _ (bX (fun hp => by first | (have := hp.lt; have := hp.cnt.len; omega) | (have h9 := hp.cnt.md i (by omega); obtain ⟨h1, h2, h3, h4⟩ := h9; omega) | (have h9 := hp.ins i (by omega); obtain ⟨⟨h1, h2⟩, h3⟩ := h9; omega))).symm)
 have hb15p : ¬ ((((D.getD k md0).xs).getD i ix0).m < 0) := of_decide_eq_false hb15
 rcases Bool.eq_false_or_eq_true (decide ((k : Int) ≤ (((D.getD k md0).xs).getD i ix0).m)) with hb16 | hb16
 have hb16p : (k : Int) ≤ (((D.getD k md0).xs).getD i ix0).m := of_decide_eq_true hb16
 refine cI 23 [[], [0], [1], [2], [3], [3, 4], [3], [3, 5, 6], [3, 7], [8], [9], [9], [9], [9], [9], [9], [9], [9], [9], [9], [9], [9], [9, 21]] [78, 79, 80, 81, 82, 83, 84, 85, 86, 87, 88, 89, 90, 91, 92, 93, 94, 95, 96, 97, 98, 99, 100] [.pointer (some ⟨b14, 0 + 0, none⟩), jI ((((D.getD k md0).xs).getD i ix0).m), .bool false, .bool false, .pointer (some ⟨b14, 0 + 0, none⟩), jI ((((D.getD k md0).xs).getD i ix0).m), jI (k : Int), .bool true, .bool true, .bool true, undef, undef, undef, undef, undef, undef, undef, undef, undef, undef, undef, undef, .bool true] (by kernel_rfl) C ?_ ?_
 exact ⟨bF C (bM 0 C C C) C, bF C (aC C C C (aA 0 C C)) C, .inl ⟨C, gG (dR C C C C) hb15⟩, bF C (aY C) C, bF C (bM 0 C C C) C, bF C (aC C C C (aA 0 C C)) C, bF C (aY C) C, .inl ⟨C, gG (dR C C C C) hb16⟩, bF C (aY C) C, bF C (aY C) C, .inr ⟨C, C⟩, .inr ⟨C, C⟩, .inr ⟨C, C⟩, .inr ⟨C, C⟩, .inr ⟨C, C⟩, .inr ⟨C, C⟩, .inr ⟨C, C⟩, .inr ⟨C, C⟩, .inr ⟨C, C⟩, .inr ⟨C, C⟩, .inr ⟨C, C⟩, .inr ⟨C, C⟩, bF C (aY C) C, trivial⟩
 simp only [List.drop_succ_cons, List.drop_zero]
 refine bQ (aK C (bA 1 C ?_))
 refine aN (aE ?_)
 refine dZ ?_
 refine aE (aG ?_)
 exact aX C C (congrArg _ (bX (fun hp => by first | (have := hp.lt; have := hp.cnt.len; omega) | (have h9 := hp.cnt.md i (by omega); obtain ⟨h1, h2, h3, h4⟩ := h9; omega) | (have h9 := hp.ins i (by omega); obtain ⟨⟨h1, h2⟩, h3⟩ := h9; omega))).symm)
 have hb16p : ¬ ((k : Int) ≤ (((D.getD k md0).xs).getD i ix0).m) := of_decide_eq_false hb16
 refine hS C 23 [0, 1, 2, 3, 4, 5, 6, 7, 8, 9, 10, 11, 12, 13, 14, 15, 16, 17, 18, 19, 20, 21, 22] (List.take 23 _) (List.drop 23 _) [[], [0], [1], [2], [3], [3, 4], [3], [3, 5, 6], [3, 7], [8], [9], [9, 10], [9, 11], [9], [9, 13], [9], [9, 15], [9, 14, 16], [9, 17], [9, 18], [9, 19], [9, 12, 19, 20], [9, 21]] [78, 79, 80, 81, 82, 83, 84, 85, 86, 87, 88, 89, 90, 91, 92, 93, 94, 95, 96, 97, 98, 99, 100] (fun i_ vs_ v_ p_ => match i_ with | 0 => v_ = .pointer (some ⟨b14, 0 + 0, none⟩) ∧ p_ = [] | 1 => v_ = jI ((((D.getD k md0).xs).getD i ix0).m) ∧ p_ = [] | 2 => v_ = .bool false ∧ p_ = [] | 3 => v_ = .bool false ∧ p_ = [] | 4 => v_ = .pointer (some ⟨b14, 0 + 0, none⟩) ∧ p_ = [] | 5 => v_ = jI ((((D.getD k md0).xs).getD i ix0).m) ∧ p_ = [] | 6 => v_ = jI (k : Int) ∧ p_ = [] | 7 => v_ = .bool false ∧ p_ = [] | 8 => v_ = .bool false ∧ p_ = [] | 9 => v_ = .bool false ∧ p_ = [] | 10 => v_ = .pointer (some ⟨b14, 0 + 2, none⟩) ∧ p_ = [] | 11 => v_ = (((D.getD k md0).xs).getD i ix0).pv ∧ p_ = [] | 12 => v_ = jI (((((D.getD k md0).xs).getD i ix0).ps).length : Int) ∧ p_ = [] | 13 => v_ = .pointer (some ⟨b1, 0 + 0, none⟩) ∧ p_ = [] | 14 => v_ = v ∧ p_ = [] | 15 => v_ = .pointer (some ⟨b14, 0 + 0, none⟩) ∧ p_ = [] | 16 => v_ = jI ((((D.getD k md0).xs).getD i ix0).m) ∧ p_ = [] | 17 => v_ = elP v (((((D.getD k md0).xs).getD i ix0).m).toNat * 4) ∧ p_ = [] | 18 => v_ = .agg #[(D.getD (((((D.getD k md0).xs).getD i ix0).m).toNat) md0).sv, (D.getD (((((D.getD k md0).xs).getD i ix0).m).toNat) md0).av, (D.getD (((((D.getD k md0).xs).getD i ix0).m).toNat) md0).iv, (D.getD (((((D.getD k md0).xs).getD i ix0).m).toNat) md0).mv] ∧ p_ = [] | 19 => (fun v' post => post = [rowE 3 1 v' ((ptsK (D.getD (((((D.getD k md0).xs).getD i ix0).m).toNat) md0))).length (((ptsK (D.getD (((((D.getD k md0).xs).getD i ix0).m).toNat) md0))).map (Value.int .i64))]) v_ p_ | 20 => v_ = jI ((ptsK (D.getD (((((D.getD k md0).xs).getD i ix0).m).toNat) md0)).length : Int) ∧ p_ = [] | 21 => v_ = .bool ((((((D.getD k md0).xs).getD i ix0).ps).length : Int) != ((ptsK (D.getD (((((D.getD k md0).xs).getD i ix0).m).toNat) md0)).length : Int)) ∧ p_ = [] | 22 => v_ = .bool ((((((D.getD k md0).xs).getD i ix0).ps).length : Int) != ((ptsK (D.getD (((((D.getD k md0).xs).getD i ix0).m).toNat) md0)).length : Int)) ∧ p_ = [] | _ => True) (List.take_append_drop 23 _).symm (by kernel_rfl) (by kernel_rfl) C C ?_ ?_
 refine ⟨?_, ?_, ?_, ?_, ?_, ?_, ?_, ?_, ?_, ?_, ?_, ?_, ?_, ?_, ?_, ?_, ?_, ?_, ?_, ?_, ?_, ?_, ?_, trivial⟩
 intro vf pf hR
 exact jJ C (aU [8] C) (bH (bM 0 C C C))
 intro vf pf hR
 have e0 := hR 0 (by decide)
 exact gR C (sk 78 (congrArg some e0.1) (aL _)) (bH (aC C C C (aA 0 C C)))
 intro vf pf hR
 have e1 := hR 1 (by decide)
 exact jJ C (sk 79 (congrArg some e1.1) (aL _)) (eB (bH (dR C C C C)) (fun _ _ h => ⟨h.1.trans (congrArg Value.bool hb15), h.2⟩))
 intro vf pf hR
 have e2 := hR 2 (by decide)
 exact jJ C (sk 80 (congrArg some e2.1) (aL _)) (bH (aY C))
 intro vf pf hR
 have e3 := hR 3 (by decide)
 refine Or.inl ⟨eD (congrArg some e3.1) C, ?_⟩
 exact cC (aU [8] C) (bH (bM 0 C C C))
 intro vf pf hR
 have e3 := hR 3 (by decide)
 have e4 := hR 4 (by decide)
 refine Or.inl ⟨eD (congrArg some e3.1) C, ?_⟩
 exact bP (sk 82 (congrArg some e4.1) (aL _)) (List.sublist_append_right _ _) (bH (aC C C C (aA 0 C C)))
 intro vf pf hR
 have e3 := hR 3 (by decide)
 refine Or.inl ⟨eD (congrArg some e3.1) C, ?_⟩
 exact cC (aU [1] C) (bH (aY C))
 intro vf pf hR
 have e3 := hR 3 (by decide)
 have e5 := hR 5 (by decide)
 have e6 := hR 6 (by decide)
 refine Or.inl ⟨eD (congrArg some e3.1) C, ?_⟩
 exact cC (sk 83 (congrArg some e5.1) (sk 84 (congrArg some e6.1) (aL _))) (eB (bH (dR C C C C)) (fun _ _ h => ⟨h.1.trans (congrArg Value.bool hb16), h.2⟩))
 intro vf pf hR
 have e3 := hR 3 (by decide)
 have e7 := hR 7 (by decide)
 exact jJ C (sk 81 (congrArg some e3.1) (sk 85 (congrArg some e7.1) (aL _))) (bH (aY C))
 intro vf pf hR
 have e8 := hR 8 (by decide)
 exact jJ C (sk 86 (congrArg some e8.1) (aL _)) (bH (aY C))
 intro vf pf hR
 have e9 := hR 9 (by decide)
 refine Or.inl ⟨eD (congrArg some e9.1) C, ?_⟩
 exact cC (aU [8] C) (bH (bM 2 C C C))
 intro vf pf hR
 have e9 := hR 9 (by decide)
 have e10 := hR 10 (by decide)
 refine Or.inl ⟨eD (congrArg some e9.1) C, ?_⟩
 exact bP (sk 88 (congrArg some e10.1) (aL _)) (List.sublist_append_right _ _) (bH (aC C C C (aA 0 C C)))
 intro vf pf hR
 have e9 := hR 9 (by decide)
 have e11 := hR 11 (by decide)
 refine Or.inl ⟨eD (congrArg some e9.1) C, ?_⟩
 exact bP (sk 89 (congrArg some e11.1) (aL _)) (List.sublist_append_right _ _) (bH (dL C C C (aD ((hd.at (k := k) (by omega)).p.at (k := i) (by omega)))))
 intro vf pf hR
 have e9 := hR 9 (by decide)
 refine Or.inl ⟨eD (congrArg some e9.1) C, ?_⟩
 exact cC (aU [2] C) (bH (bM 0 C C C))
 intro vf pf hR
 have e9 := hR 9 (by decide)
 have e13 := hR 13 (by decide)
 refine Or.inl ⟨eD (congrArg some e9.1) C, ?_⟩
 exact bP (sk 91 (congrArg some e13.1) (aL _)) (List.sublist_append_right _ _) (bH (aC C C C (aA 1 C C)))
 intro vf pf hR
 have e9 := hR 9 (by decide)
 refine Or.inl ⟨eD (congrArg some e9.1) C, ?_⟩
 exact cC (aU [8] C) (bH (bM 0 C C C))
 intro vf pf hR
 have e9 := hR 9 (by decide)
 have e15 := hR 15 (by decide)
 refine Or.inl ⟨eD (congrArg some e9.1) C, ?_⟩
 exact bP (sk 93 (congrArg some e15.1) (aL _)) (List.sublist_append_right _ _) (bH (aC C C C (aA 0 C C)))
 intro vf pf hR
 have e9 := hR 9 (by decide)
 have e14 := hR 14 (by decide)
 have e16 := hR 16 (by decide)
 refine Or.inl ⟨eD (congrArg some e9.1) C, ?_⟩
 exact bP (sk 92 (congrArg some e14.1) (sk 94 (congrArg some e16.1) (aL _))) (List.sublist_append_right _ _) (bH (cR 4 C C C C (aD hd.row)))
 intro vf pf hR
 have e9 := hR 9 (by decide)
 have e17 := hR 17 (by decide)
 refine Or.inl ⟨eD (congrArg some e9.1) C, ?_⟩
 exact bP (sk 95 (congrArg some e17.1) (aL _)) (List.sublist_append_right _ _) (bH (bL (us := [(D.getD (((((D.getD k md0).xs).getD i ix0).m).toNat) md0).sv, (D.getD (((((D.getD k md0).xs).getD i ix0).m).toNat) md0).av, (D.getD (((((D.getD k md0).xs).getD i ix0).m).toNat) md0).iv, (D.getD (((((D.getD k md0).xs).getD i ix0).m).toNat) md0).mv]) C C C C (aD hd.row) (by omega) C (bY mdC 4 (fun _ => C) D md0 (show ((((D.getD k md0).xs).getD i ix0).m).toNat < _ by omega) C)))
 intro vf pf hR
 have e9 := hR 9 (by decide)
 have e18 := hR 18 (by decide)
 refine Or.inl ⟨eD (congrArg some e9.1) C, ?_⟩
 exact bP (sk 96 (congrArg some e18.1) (aL _)) (List.sublist_append_right _ _) (aV C C (fun w hm => gF (D.getD (((((D.getD k md0).xs).getD i ix0).m).toNat) md0) w ((hd.at (by omega)).below hm.bel)))
 intro vf pf hR
 have e9 := hR 9 (by decide)
 have e19 : (fun v' post => post = [rowE 3 1 v' ((ptsK (D.getD (((((D.getD k md0).xs).getD i ix0).m).toNat) md0))).length (((ptsK (D.getD (((((D.getD k md0).xs).getD i ix0).m).toNat) md0))).map (Value.int .i64))]) (vf 19) (pf 19) := hR 19 (by decide)
 obtain ⟨v17, vE19⟩ : ∃ x, vf 19 = x := ⟨_, rfl⟩
 obtain ⟨p18, pE19⟩ : ∃ x, pf 19 = x := ⟨_, rfl⟩
 have R19 := e19
 rw [vE19, pE19] at R19
 subst R19
 refine Or.inl ⟨eD (congrArg some e9.1) C, ?_⟩
 exact dJ (sk 97 (congrArg some vE19) (aL _)) (by simp only [pE19, vE19, e9.2, fS] <;> rfl) (bH (dL C C C (aJ 0 C)))
 intro vf pf hR
 have e9 := hR 9 (by decide)
 have e12 := hR 12 (by decide)
 have e19 : (fun v' post => post = [rowE 3 1 v' ((ptsK (D.getD (((((D.getD k md0).xs).getD i ix0).m).toNat) md0))).length (((ptsK (D.getD (((((D.getD k md0).xs).getD i ix0).m).toNat) md0))).map (Value.int .i64))]) (vf 19) (pf 19) := hR 19 (by decide)
 obtain ⟨v17, vE19⟩ : ∃ x, vf 19 = x := ⟨_, rfl⟩
 obtain ⟨p18, pE19⟩ : ∃ x, pf 19 = x := ⟨_, rfl⟩
 have R19 := e19
 rw [vE19, pE19] at R19
 subst R19
 have e20 := hR 20 (by decide)
 refine Or.inl ⟨eD (congrArg some e9.1) C, ?_⟩
 exact dJ (sk 90 (congrArg some e12.1) (sk 98 (congrArg some e20.1) (aL _))) (by simp only [pE19, vE19, e9.2, e12.2, e20.2, fS] <;> rfl) (bH (dR C C C C))
 intro vf pf hR
 have e9 := hR 9 (by decide)
 have e21 := hR 21 (by decide)
 exact jJ C (sk 87 (congrArg some e9.1) (sk 99 (congrArg some e21.1) (aL _))) (bH (aY C))
 intro vf pf hR
 have e19 : (fun v' post => post = [rowE 3 1 v' ((ptsK (D.getD (((((D.getD k md0).xs).getD i ix0).m).toNat) md0))).length (((ptsK (D.getD (((((D.getD k md0).xs).getD i ix0).m).toNat) md0))).map (Value.int .i64))]) (vf 19) (pf 19) := hR 19 (by decide)
 obtain ⟨v17, vE19⟩ : ∃ x, vf 19 = x := ⟨_, rfl⟩
 obtain ⟨p18, pE19⟩ : ∃ x, pf 19 = x := ⟨_, rfl⟩
 have R19 := e19
 rw [vE19, pE19] at R19
 subst R19
 have e22 := hR 22 (by decide)
 have q0 := hR 0 (by decide)
 have q1 := hR 1 (by decide)
 have q2 := hR 2 (by decide)
 have q3 := hR 3 (by decide)
 have q4 := hR 4 (by decide)
 have q5 := hR 5 (by decide)
 have q6 := hR 6 (by decide)
 have q7 := hR 7 (by decide)
 have q8 := hR 8 (by decide)
 have q9 := hR 9 (by decide)
 have q10 := hR 10 (by decide)
 have q11 := hR 11 (by decide)
 have q12 := hR 12 (by decide)
 have q13 := hR 13 (by decide)
 have q14 := hR 14 (by decide)
 have q15 := hR 15 (by decide)
 have q16 := hR 16 (by decide)
 have q17 := hR 17 (by decide)
 have q18 := hR 18 (by decide)
 have q20 := hR 20 (by decide)
 have q21 := hR 21 (by decide)
 have q22 := hR 22 (by decide)
 refine dV (dB [66, 28, 23, 8, 7, 4, 2, 1, 0] _ (sk 100 (congrArg some e22.1) (aL _)) C) (by simp only [pE19, vE19, q0.2, q1.2, q2.2, q3.2, q4.2, q5.2, q6.2, q7.2, q8.2, q9.2, q10.2, q11.2, q12.2, q13.2, q14.2, q15.2, q16.2, q17.2, q18.2, q20.2, q21.2, q22.2, fS] <;> rfl) ?_
 simp only [List.drop_succ_cons, List.drop_zero]
 refine bQ ?_
 refine eW C (fun h20 => ?_) (fun h20 => ?_)
 have h20p : (((((D.getD k md0).xs).getD i ix0).ps).length : Int) ≠ ((ptsK (D.getD (((((D.getD k md0).xs).getD i ix0).m).toNat) md0)).length : Int) := bne_iff_ne.1 h20
 refine bA 1 C ?_
 refine aN (aE ?_)
 refine dZ ?_
 refine aE (aG ?_)
 exact aX C C (congrArg _ (bX (fun hp => by first | (have := hp.lt; have := hp.cnt.len; omega) | (have h9 := hp.cnt.md i (by omega); obtain ⟨h1, h2, h3, h4⟩ := h9; omega) | (have h9 := hp.ins i (by omega); obtain ⟨⟨h1, h2⟩, h3⟩ := h9; omega))).symm)
 have h20p : (((((D.getD k md0).xs).getD i ix0).ps).length : Int) = ((ptsK (D.getD (((((D.getD k md0).xs).getD i ix0).m).toNat) md0)).length : Int) := (bne_eq_false_iff_eq.1 h20)
 refine fA (cK (cG 1 C (aI C (dO C C C) (dA 1 C ?_))))
 exact cB (i + 1) ⟨by omega, fun q hq => by by_cases e : q = i; (subst e; exact ⟨⟨by omega, by omega⟩, by omega⟩); exact hins q (by omega)⟩ (by omega) (cN C) (eO [2] C)
 refine bQ (aS C ?_)
 refine bI (dC ?_)
 refine aM (aR (bA 1 C ?_))
 exact aN (aX C C (congrArg _ (dG ⟨by omega, ⟨by omega, fun q hq => hall q (by omega)⟩, fun q hq => hins q (by omega)⟩).symm))
theorem iX (D : List Md) (k s : Nat) (v : Value) (w : World) (hd : RdsDs w v D) (hc : CtsP D k) (hs : s < (D.getD k md0).ss.length) :
   Calls Try.prog 151 #[.agg #[v], .int .i64 (k : Int), .int .i64 (s : Int)] w (Ans w (.int .i64 ((drvL D (D.getD k md0)).count (s : Int) : Nat))) := by
 have hd9 := gL hd.row
 obtain ⟨hkl, hcnt, hins⟩ := hc
 obtain ⟨hn1, hn2, hn3, hn4⟩ := hcnt.md k hkl
 have hdl := hcnt.len
 refine bW (N := 124) (args := [.agg #[v], jI (k : Int), jI (s : Int)]) Try.func151 C C (cA ?_)
 refine cL C (cY C C) ?_
 intro b1
 refine aP 1 C (eM (aI C (aW (cs := [v]) C C C C C (aT 0 C 0 C)) (aH 1 C ?_)))
 refine dW C (aV C C (fun w hm => bJ (by have h9 := lP D k v w (hd.below hm.bel); rw [dG ⟨hkl, hcnt, hins⟩] at h9; exact h9))) (aH 3 C ?_)
 refine bN C C C C C C (fun h2 => absurd h2 (by omega)) (fun h2 => ?_)
 refine aH 3 C (aI C (bM 0 C C C) (aI C (aC C C C (aA 0 C C)) (aH 1 C (aI C (cR 4 C C C C (aD hd.row)) (aI C (aZ (k0 := 0) C C C (aD hd.row) (by omega)) ?_)))))
 refine aI C (aQ (u := (D.getD k md0).sv) C C C (aD hd.row) ((bR mdC 4 (fun _ => C) D md0 (show k < _ by omega) (by decide)).trans C)) (aI C (dL C C C (aD ((hd.at (k := k) (by omega)).s))) ?_)
 refine iU C C C C C C (fun h3 => absurd h3 (by omega)) (fun h3 => ?_)
 refine aP 1 C (aS C (cE (cA (aI C (bM 0 C C C) (aI C (aC C C C (aA 0 C C)) (aH 1 C (aI C (cR 4 C C C C (aD hd.row)) ?_)))))))
 refine aI C (bL (us := [(D.getD k md0).sv, (D.getD k md0).av, (D.getD k md0).iv, (D.getD k md0).mv]) C C C C (aD hd.row) (by omega) C (bY mdC 4 (fun _ => C) D md0 (show k < _ by omega) C)) (cL C (bG (z := .agg #[.slice none 0 0, .slice none 0 0, .slice none 0 0, .slice none 0 0]) C C) ?_)
 intro b4
 refine bE (cs' := #[(D.getD k md0).sv, (D.getD k md0).av, (D.getD k md0).iv, (D.getD k md0).mv]) (i := 0) (off := 0) (us := [(D.getD k md0).sv, (D.getD k md0).av, (D.getD k md0).iv, (D.getD k md0).mv]) C C C C C C C (aB (hd.at (k := k) (by omega)).s.one (aB (hd.at (k := k) (by omega)).g.one (aB (hd.at (k := k) (by omega)).x.one (aB (hd.at (k := k) (by omega)).m.one bC)))) C C C (bQ (bA 1 C (aF (aF (cG 1 C (?_))))))
 refine bQ (bD ?_)
 refine jZ (α := Nat) (β := Int) [0, 1, 2, 3, 6, 7, 33] C (fun i c => [boxE b4 #[(D.getD k md0).sv, (D.getD k md0).av, (D.getD k md0).iv, (D.getD k md0).mv] 35, boxE b1 #[v] 26]) (fun i c => [(8, jI c), (9, jI (i : Int))]) (fun i c => i ≤ (D.getD k md0).gs.length ∧ c = ((((D.getD k md0).gs.take i).map As.t).count (s : Int) : Int)) (fun i c => (D.getD k md0).gs.length - i) 0 _ ⟨Nat.zero_le _, by simp⟩ (cN C) (eT C) ?_
 intro i c hi5
 obtain ⟨hi, hcc⟩ := hi5
 have hcl := nA As.t (D.getD k md0).gs (s : Int) i
 refine aF (aF (cG 1 C (aI C (bM 1 C C C) (aI C (aC C C C (aA 0 C C)) (aI C (dL C C C (aD ((hd.at (k := k) (by omega)).g))) ?_)))))
 refine bN C C C C C C (fun h6 => ?_) (fun h6 => ?_)
 refine bQ (aK C (cE (fD (cA (aI C (bM 1 C C C) (aI C (aC C C C (aA 0 C C)) (aH 1 C (aI C (cR 2 C C C C (aD ((hd.at (k := k) (by omega)).g))) ?_))))))))
 refine aI C (aZ (k0 := 0) C C C (aD ((hd.at (k := k) (by omega)).g)) (by omega)) (aI C (aQ (u := jI ((((D.getD k md0).gs).getD i as0).t)) C C C (aD ((hd.at (k := k) (by omega)).g)) ((bR asC 2 (fun _ => C) ((D.getD k md0).gs) as0 (show i < _ by omega) (by decide)).trans C)) ?_)
 refine aH 1 C (bU C C C C C C (fun h7 => ?_) (fun h7 => ?_))
 refine bQ (aK C (cG 1 C (aI C (dO C C C) (dA 1 C (cK (cG 1 C ?_))))))
 refine aI C (dO C C C) (dA 1 C ?_)
 exact cX (i + 1) (c + 1) ⟨by omega, by rw [pX as0 (by omega) (by assumption)]; omega⟩ (by omega) (cN rfl) (eT rfl)
 refine bQ (gM C (cK (cG 1 C (aI C (dO C C C) (dA 1 C ?_)))))
 exact cX (i + 1) c ⟨by omega, by rw [wZ as0 (by omega) (by assumption)]; omega⟩ (by omega) (cN rfl) (eT rfl)
 refine bQ (aS C ?_)
 refine bI (dC ?_)
 refine aM (aR (aF (bA 1 C (bD ?_))))
 refine jZ (α := Nat) (β := Int) [0, 1, 2, 3, 6, 7, 33, 43] rfl (fun i c => [boxE b4 #[(D.getD k md0).sv, (D.getD k md0).av, (D.getD k md0).iv, (D.getD k md0).mv] 35, boxE b1 #[v] 26]) (fun i c => [(8, jI c), (10, jI (i : Int))]) (fun i c => i ≤ (D.getD k md0).ms.length ∧ c = (((D.getD k md0).gs.map As.t).count (s : Int) : Int) + ((((D.getD k md0).ms.take i).map Mm.o).count (s : Int) : Int)) (fun i c => (D.getD k md0).ms.length - i) 0 _ ⟨Nat.zero_le _, by rw [hcc, show i = (D.getD k md0).gs.length by omega, List.take_length]; simp⟩ (cN rfl) (eT rfl) ?_
 intro i c hi8
 obtain ⟨hi, hcc⟩ := hi8
 have hcl := nA Mm.o (D.getD k md0).ms (s : Int) i
 have hal := nA As.t (D.getD k md0).gs (s : Int) (D.getD k md0).gs.length
 rw [List.take_length] at hal
 refine aF (aF (cG 1 C (aI C (bM 3 C C C) (aI C (aC C C C (aA 0 C C)) (aI C (dL C C C (aD ((hd.at (k := k) (by omega)).m))) ?_)))))
 refine bN C C C C C C (fun h9 => ?_) (fun h9 => ?_)
 refine bQ (aK C (cE (fD (cA (aI C (bM 3 C C C) (aI C (aC C C C (aA 0 C C)) (aH 1 C (aI C (cR 4 C C C C (aD ((hd.at (k := k) (by omega)).m))) ?_))))))))
 refine aI C (aZ (k0 := 3) C C C (aD ((hd.at (k := k) (by omega)).m)) (by omega)) (aI C (aQ (u := jI ((((D.getD k md0).ms).getD i mm0).o)) C C C (aD ((hd.at (k := k) (by omega)).m)) ((bR mmC 4 (fun _ => C) ((D.getD k md0).ms) mm0 (show i < _ by omega) (by decide)).trans C)) ?_)
 refine aH 1 C (bU C C C C C C (fun h10 => ?_) (fun h10 => ?_))
 refine bQ (aK C (cG 1 C (aI C (dO C C C) (dA 1 C (cK (cG 1 C ?_))))))
 refine aI C (dO C C C) (dA 1 C ?_)
 exact cX (i + 1) (c + 1) ⟨by omega, by rw [pX mm0 (by omega) (by assumption)]; omega⟩ (by omega) (cN rfl) (eT rfl)
 refine bQ (gM C (cK (cG 1 C (aI C (dO C C C) (dA 1 C ?_)))))
 exact cX (i + 1) c ⟨by omega, by rw [wZ mm0 (by omega) (by assumption)]; omega⟩ (by omega) (cN rfl) (eT rfl)
 refine bQ (aS C ?_)
 refine bI (dC ?_)
 refine aM (aR (aF (bA 1 C (bD ?_))))
 refine jZ (α := Nat) (β := Int) [0, 1, 2, 3, 6, 7, 33, 43, 60] rfl (fun i c => [boxE b4 #[(D.getD k md0).sv, (D.getD k md0).av, (D.getD k md0).iv, (D.getD k md0).mv] 35, boxE b1 #[v] 26]) (fun i c => [(8, jI c), (11, jI (i : Int))]) (fun i c => i ≤ (D.getD k md0).xs.length ∧ c = (((D.getD k md0).gs.map As.t).count (s : Int) : Int) + (((D.getD k md0).ms.map Mm.o).count (s : Int) : Int) + ((((D.getD k md0).xs.take i).flatMap (xoK D)).count (s : Int) : Int)) (fun i c => (D.getD k md0).xs.length - i) 0 _ ⟨Nat.zero_le _, by rw [hcc, show i = (D.getD k md0).ms.length by omega, List.take_length]; simp⟩ (cN rfl) (eT rfl) ?_
 intro i c hi11
 obtain ⟨hi, hcc⟩ := hi11
 have hcl := wY (D := D) (L := (D.getD k md0).xs) (s : Int) i hi
 have hal := nA As.t (D.getD k md0).gs (s : Int) (D.getD k md0).gs.length
 rw [List.take_length] at hal
 have hml := nA Mm.o (D.getD k md0).ms (s : Int) (D.getD k md0).ms.length
 rw [List.take_length] at hml
 refine aF (aF (cG 1 C (aI C (bM 2 C C C) (aI C (aC C C C (aA 0 C C)) (aI C (dL C C C (aD ((hd.at (k := k) (by omega)).x))) ?_)))))
 refine bN C C C C C C (fun h12 => ?_) (fun h12 => ?_)
 refine bQ (aK C (cE (fD (aF ?_))))
 obtain ⟨⟨hm0, hm1⟩, hpe⟩ := hins i (by omega)
 refine hS C 11 [0, 1, 2, 3, 4, 5, 6, 7, 8, 9, 10] (List.take 11 _) (List.drop 11 _) [[], [0], [], [2], [], [3, 4], [5], [6], [1, 7], [8], []] [80, 81, 82, 83, 84, 85, 86, 87, 88, 89, 12] (fun i_ vs_ v_ p_ => match i_ with | 0 => v_ = .pointer (some ⟨b1, 0 + 0, none⟩) ∧ p_ = [] | 1 => v_ = v ∧ p_ = [] | 2 => v_ = .pointer (some ⟨b4, 0 + 2, none⟩) ∧ p_ = [] | 3 => v_ = (D.getD k md0).iv ∧ p_ = [] | 4 => v_ = jI (i : Int) ∧ p_ = [] | 5 => v_ = elP ((D.getD k md0).iv) ((i : Int).toNat * 3) ∧ p_ = [] | 6 => v_ = elP ((D.getD k md0).iv) ((i : Int).toNat * 3 + 0) ∧ p_ = [] | 7 => v_ = jI ((((D.getD k md0).xs).getD i ix0).m) ∧ p_ = [] | 8 => v_ = elP v (((((D.getD k md0).xs).getD i ix0).m).toNat * 4) ∧ p_ = [] | 9 => v_ = .agg #[(D.getD (((((D.getD k md0).xs).getD i ix0).m).toNat) md0).sv, (D.getD (((((D.getD k md0).xs).getD i ix0).m).toNat) md0).av, (D.getD (((((D.getD k md0).xs).getD i ix0).m).toNat) md0).iv, (D.getD (((((D.getD k md0).xs).getD i ix0).m).toNat) md0).mv] ∧ p_ = [] | 10 => IsBox #[.slice none 0 0, .slice none 0 0, .slice none 0 0, .slice none 0 0] 35 v_ p_ | _ => True) (List.take_append_drop 11 _).symm (by kernel_rfl) (by kernel_rfl) C C ?_ ?_
 refine ⟨?_, ?_, ?_, ?_, ?_, ?_, ?_, ?_, ?_, ?_, ?_, trivial⟩
 intro vf pf hR
 exact jJ C (aU [3] C) (bH (bM 0 C C C))
 intro vf pf hR
 have e0 := hR 0 (by decide)
 exact gR C (sk 80 (congrArg some e0.1) (aL _)) (bH (aC C C C (aA 1 C C)))
 intro vf pf hR
 exact jJ C (aU [7] C) (bH (bM 2 C C C))
 intro vf pf hR
 have e2 := hR 2 (by decide)
 exact gR C (sk 82 (congrArg some e2.1) (aL _)) (bH (aC C C C (aA 0 C C)))
 intro vf pf hR
 exact jJ C (aU [11] C) (bH (aY C))
 intro vf pf hR
 have e3 := hR 3 (by decide)
 have e4 := hR 4 (by decide)
 exact gR C (sk 83 (congrArg some e3.1) (sk 84 (congrArg some e4.1) (aL _))) (bH (cR 3 C C C C (aD ((hd.at (k := k) (by omega)).x))))
 intro vf pf hR
 have e5 := hR 5 (by decide)
 exact gR C (sk 85 (congrArg some e5.1) (aL _)) (bH (aZ (k0 := 0) C C C (aD ((hd.at (k := k) (by omega)).x)) (by omega)))
 intro vf pf hR
 have e6 := hR 6 (by decide)
 exact gR C (sk 86 (congrArg some e6.1) (aL _)) (bH (aQ (u := jI ((((D.getD k md0).xs).getD i ix0).m)) C C C (aD ((hd.at (k := k) (by omega)).x)) ((bR ixC 3 (fun _ => C) ((D.getD k md0).xs) ix0 (show i < _ by omega) (by decide)).trans C)))
 intro vf pf hR
 have e1 := hR 1 (by decide)
 have e7 := hR 7 (by decide)
 exact gR C (sk 81 (congrArg some e1.1) (sk 87 (congrArg some e7.1) (aL _))) (bH (cR 4 C C C C (aD hd.row)))
 intro vf pf hR
 have e8 := hR 8 (by decide)
 exact gR C (sk 88 (congrArg some e8.1) (aL _)) (bH (bL (us := [(D.getD (((((D.getD k md0).xs).getD i ix0).m).toNat) md0).sv, (D.getD (((((D.getD k md0).xs).getD i ix0).m).toNat) md0).av, (D.getD (((((D.getD k md0).xs).getD i ix0).m).toNat) md0).iv, (D.getD (((((D.getD k md0).xs).getD i ix0).m).toNat) md0).mv]) C C C C (aD hd.row) (by omega) C (bY mdC 4 (fun _ => C) D md0 (show ((((D.getD k md0).xs).getD i ix0).m).toNat < _ by omega) C)))
 intro vf pf hR
 exact gR C (aL _) (bG (z := .agg #[.slice none 0 0, .slice none 0 0, .slice none 0 0, .slice none 0 0]) C C)
 intro vf pf hR
 have e9 := hR 9 (by decide)
 have e10 : IsBox #[.slice none 0 0, .slice none 0 0, .slice none 0 0, .slice none 0 0] 35 (vf 10) (pf 10) := hR 10 (by decide)
 obtain ⟨b13, vE10, pE10⟩ := e10
 have q0 := hR 0 (by decide)
 have q1 := hR 1 (by decide)
 have q2 := hR 2 (by decide)
 have q3 := hR 3 (by decide)
 have q4 := hR 4 (by decide)
 have q5 := hR 5 (by decide)
 have q6 := hR 6 (by decide)
 have q7 := hR 7 (by decide)
 have q8 := hR 8 (by decide)
 have q9 := hR 9 (by decide)
 refine dV (dB [11, 8, 7, 6, 3, 2, 1, 0] _ (sk 12 (congrArg some vE10) (dB [77, 60, 43, 33] _ (sk 89 (congrArg some e9.1) (aL _)) C)) C) (by simp only [pE10, vE10, q0.2, q1.2, q2.2, q3.2, q4.2, q5.2, q6.2, q7.2, q8.2, q9.2, fS] <;> rfl) ?_
 simp only [List.drop_succ_cons, List.drop_zero]
 refine bE (cs' := #[(D.getD (((((D.getD k md0).xs).getD i ix0).m).toNat) md0).sv, (D.getD (((((D.getD k md0).xs).getD i ix0).m).toNat) md0).av, (D.getD (((((D.getD k md0).xs).getD i ix0).m).toNat) md0).iv, (D.getD (((((D.getD k md0).xs).getD i ix0).m).toNat) md0).mv]) (i := 0) (off := 0) (us := [(D.getD (((((D.getD k md0).xs).getD i ix0).m).toNat) md0).sv, (D.getD (((((D.getD k md0).xs).getD i ix0).m).toNat) md0).av, (D.getD (((((D.getD k md0).xs).getD i ix0).m).toNat) md0).iv, (D.getD (((((D.getD k md0).xs).getD i ix0).m).toNat) md0).mv]) C C C C C C C (aB (hd.at (k := ((((D.getD k md0).xs).getD i ix0).m).toNat) (by omega)).s.one (aB (hd.at (k := ((((D.getD k md0).xs).getD i ix0).m).toNat) (by omega)).g.one (aB (hd.at (k := ((((D.getD k md0).xs).getD i ix0).m).toNat) (by omega)).x.one (aB (hd.at (k := ((((D.getD k md0).xs).getD i ix0).m).toNat) (by omega)).m.one bC)))) C C C ?_
 refine bQ (cA (aI C (aW (cs := [(D.getD (((((D.getD k md0).xs).getD i ix0).m).toNat) md0).sv, (D.getD (((((D.getD k md0).xs).getD i ix0).m).toNat) md0).av, (D.getD (((((D.getD k md0).xs).getD i ix0).m).toNat) md0).iv, (D.getD (((((D.getD k md0).xs).getD i ix0).m).toNat) md0).mv]) C C C C C (aT 0 C 0 C)) ?_))
 refine fC C C C (aV C C (fun w hm => gF (D.getD (((((D.getD k md0).xs).getD i ix0).m).toNat) md0) w ((hd.at (by omega)).below hm.bel))) ?_
 intro v14 p15 R16
 subst R16
 refine aP 1 C (bA 1 C (bD ?_))
 refine jZ (α := Nat) (β := Int) [0, 1, 2, 3, 6, 7, 11, 12, 13, 33, 43, 60, 77] C (fun j y => [rowE 3 1 v14 ((ptsK (D.getD (((((D.getD k md0).xs).getD i ix0).m).toNat) md0)).length) ((ptsK (D.getD (((((D.getD k md0).xs).getD i ix0).m).toNat) md0)).map (Value.int .i64)), boxE b13 #[(D.getD (((((D.getD k md0).xs).getD i ix0).m).toNat) md0).sv, (D.getD (((((D.getD k md0).xs).getD i ix0).m).toNat) md0).av, (D.getD (((((D.getD k md0).xs).getD i ix0).m).toNat) md0).iv, (D.getD (((((D.getD k md0).xs).getD i ix0).m).toNat) md0).mv] 35, boxE b4 #[(D.getD k md0).sv, (D.getD k md0).av, (D.getD k md0).iv, (D.getD k md0).mv] 35, boxE b1 #[v] 26]) (fun j y => [(8, jI y), (14, jI (j : Int))]) (fun j y => j ≤ (ptsK (D.getD (((((D.getD k md0).xs).getD i ix0).m).toNat) md0)).length ∧ y = c + ((xoA D ((D.getD k md0).xs.getD i ix0) j).count (s : Int) : Int)) (fun j y => (ptsK (D.getD (((((D.getD k md0).xs).getD i ix0).m).toNat) md0)).length - j) 0 c ⟨Nat.zero_le _, by simp [xoA]⟩ (cN C) (eT C) ?_
 intro j y hi17
 obtain ⟨hj, hcj⟩ := hi17
 have hpl := iD (D.getD (((((D.getD k md0).xs).getD i ix0).m).toNat) md0)
 have hxl9 := List.count_le_length (a := (s : Int)) (l := xoA D ((D.getD k md0).xs.getD i ix0) j)
 have hxl8 := nE D ((D.getD k md0).xs.getD i ix0) j
 refine aF (aF (cG 2 C (aI C (dL C C C (aJ 0 C)) ?_)))
 refine bN C C C C C C (fun h18 => ?_) (fun h18 => ?_)
 refine bQ (aK C (cE (fD (aF ?_))))
 have hpt := fU (m := (D.getD (((((D.getD k md0).xs).getD i ix0).m).toNat) md0)) (j := j) (by omega)
 have hkd := dH hpt
 rcases Bool.eq_false_or_eq_true (((((D.getD (((((D.getD k md0).xs).getD i ix0).m).toNat) md0).ss).getD (((ptsK (D.getD (((((D.getD k md0).xs).getD i ix0).m).toNat) md0)).getD j 0).toNat) sg0).k) == 1) with hb19 | hb19
 have hb19p : (((D.getD (((((D.getD k md0).xs).getD i ix0).m).toNat) md0).ss).getD (((ptsK (D.getD (((((D.getD k md0).xs).getD i ix0).m).toNat) md0)).getD j 0).toNat) sg0).k = 1 := beq_iff_eq.1 hb19
 have hpt := fU (m := (D.getD (((((D.getD k md0).xs).getD i ix0).m).toNat) md0)) (j := j) (by omega)
 have hkd := dH hpt
 refine cI 23 [[], [0], [], [], [2, 3], [4], [1, 5], [6], [7], [8], [9], [10], [10, 11], [10], [10, 12, 13], [10, 14], [10, 15], [10], [10, 16, 17], [10, 18], [10], [10, 19, 20], [10, 21]] [98, 99, 100, 101, 102, 103, 104, 105, 106, 107, 108, 109, 110, 111, 112, 113, 114, 115, 116, 117, 118, 119, 120] [.pointer (some ⟨b13, 0 + 0, none⟩), (D.getD (((((D.getD k md0).xs).getD i ix0).m).toNat) md0).sv, v14, jI (j : Int), elP v14 ((j : Int).toNat * 1), jI ((ptsK (D.getD (((((D.getD k md0).xs).getD i ix0).m).toNat) md0)).getD j 0), elP ((D.getD (((((D.getD k md0).xs).getD i ix0).m).toNat) md0).sv) (((ptsK (D.getD (((((D.getD k md0).xs).getD i ix0).m).toNat) md0)).getD j 0).toNat * 3), elP ((D.getD (((((D.getD k md0).xs).getD i ix0).m).toNat) md0).sv) (((ptsK (D.getD (((((D.getD k md0).xs).getD i ix0).m).toNat) md0)).getD j 0).toNat * 3 + 0), jI ((((D.getD (((((D.getD k md0).xs).getD i ix0).m).toNat) md0).ss).getD (((ptsK (D.getD (((((D.getD k md0).xs).getD i ix0).m).toNat) md0)).getD j 0).toNat) sg0).k), .bool true, .bool true, .pointer (some ⟨b4, 0 + 2, none⟩), (D.getD k md0).iv, jI (i : Int), elP ((D.getD k md0).iv) ((i : Int).toNat * 3), elP ((D.getD k md0).iv) ((i : Int).toNat * 3 + 2), (((D.getD k md0).xs).getD i ix0).pv, jI (j : Int), elP ((((D.getD k md0).xs).getD i ix0).pv) ((j : Int).toNat * 1), jI (((((D.getD k md0).xs).getD i ix0).ps).getD j 0), jI (s : Int), .bool ((((((D.getD k md0).xs).getD i ix0).ps).getD j 0) == (s : Int)), .bool ((((((D.getD k md0).xs).getD i ix0).ps).getD j 0) == (s : Int))] (by kernel_rfl) C ?_ ?_
 exact ⟨bF C (bM 0 C C C) C, bF C (aC C C C (aA 1 C C)) C, bF C (aY C) C, bF C (aY C) C, bF C (cR 1 C C C C (aJ 0 C)) C, bF C (aQ (u := jI ((ptsK (D.getD (((((D.getD k md0).xs).getD i ix0).m).toNat) md0)).getD j 0)) C C C (aJ 0 C) (cJ (show _ < (ptsK (D.getD (((((D.getD k md0).xs).getD i ix0).m).toNat) md0)).length by omega))) C, bF C (cR 3 C C C C (aD ((hd.at (k := ((((D.getD k md0).xs).getD i ix0).m).toNat) (by omega)).s))) C, bF C (aZ (k0 := 0) C C C (aD ((hd.at (k := ((((D.getD k md0).xs).getD i ix0).m).toNat) (by omega)).s)) (by omega)) C, bF C (aQ (u := jI ((((D.getD (((((D.getD k md0).xs).getD i ix0).m).toNat) md0).ss).getD (((ptsK (D.getD (((((D.getD k md0).xs).getD i ix0).m).toNat) md0)).getD j 0).toNat) sg0).k)) C C C (aD ((hd.at (k := ((((D.getD k md0).xs).getD i ix0).m).toNat) (by omega)).s)) ((bR sgC 3 (fun _ => C) ((D.getD (((((D.getD k md0).xs).getD i ix0).m).toNat) md0).ss) sg0 (show ((ptsK (D.getD (((((D.getD k md0).xs).getD i ix0).m).toNat) md0)).getD j 0).toNat < _ by omega) (by decide)).trans C)) C, .inl ⟨C, gG (dR C C C C) hb19⟩, bF C (aY C) C, bF C (bM 2 C C C) C, bF C (aC C C C (aA 2 C C)) C, bF C (aY C) C, bF C (cR 3 C C C C (aD ((hd.at (k := k) (by omega)).x))) C, bF C (aZ (k0 := 2) C C C (aD ((hd.at (k := k) (by omega)).x)) (by omega)) C, bF C (aQ (u := (((D.getD k md0).xs).getD i ix0).pv) C C C (aD ((hd.at (k := k) (by omega)).x)) ((bR ixC 3 (fun _ => C) ((D.getD k md0).xs) ix0 (show i < _ by omega) (by decide)).trans C)) C, bF C (aY C) C, bF C (cR 1 C C C C (aD ((hd.at (k := k) (by omega)).p.at (k := i) (by omega)))) C, bF C (aQ (u := jI (((((D.getD k md0).xs).getD i ix0).ps).getD j 0)) C C C (aD ((hd.at (k := k) (by omega)).p.at (k := i) (by omega))) (cJ (show _ < ((((D.getD k md0).xs).getD i ix0).ps).length by omega))) C, bF C (aY C) C, bF C (dR C C C C) C, bF C (aY C) C, trivial⟩
 simp only [List.drop_succ_cons, List.drop_zero]
 refine bQ ?_
 refine eW C (fun h20 => ?_) (fun h20 => ?_)
 have h20p : ((((D.getD k md0).xs).getD i ix0).ps).getD j 0 = (s : Int) := beq_iff_eq.1 h20
 refine cG 1 C (aI C (dO C C C) (dA 1 C (cK (cG 1 C (aI C (dO C C C) (dA 1 C ?_))))))
 exact cX (j + 1) (y + 1) ⟨by omega, by rw [oE (by omega), wX (by assumption)]; omega⟩ (by omega) (cN rfl) (eT rfl)
 have h20p : ((((D.getD k md0).xs).getD i ix0).ps).getD j 0 ≠ (s : Int) := beq_eq_false_iff_ne.1 h20
 refine fA (cK (cG 1 C (aI C (dO C C C) (dA 1 C ?_))))
 exact cX (j + 1) y ⟨by omega, by first | (rw [oE (by omega), vK (by assumption)]; omega) | (rw [uS (by omega)]; omega)⟩ (by omega) (cN C) (eT C)
 have hb19p : (((D.getD (((((D.getD k md0).xs).getD i ix0).m).toNat) md0).ss).getD (((ptsK (D.getD (((((D.getD k md0).xs).getD i ix0).m).toNat) md0)).getD j 0).toNat) sg0).k ≠ 1 := beq_eq_false_iff_ne.1 hb19
 have hpt := fU (m := (D.getD (((((D.getD k md0).xs).getD i ix0).m).toNat) md0)) (j := j) (by omega)
 have hkd := dH hpt
 refine cI 23 [[], [0], [], [], [2, 3], [4], [1, 5], [6], [7], [8], [9], [10], [10], [10], [10], [10], [10], [10], [10], [10], [10], [10], [10, 21]] [98, 99, 100, 101, 102, 103, 104, 105, 106, 107, 108, 109, 110, 111, 112, 113, 114, 115, 116, 117, 118, 119, 120] [.pointer (some ⟨b13, 0 + 0, none⟩), (D.getD (((((D.getD k md0).xs).getD i ix0).m).toNat) md0).sv, v14, jI (j : Int), elP v14 ((j : Int).toNat * 1), jI ((ptsK (D.getD (((((D.getD k md0).xs).getD i ix0).m).toNat) md0)).getD j 0), elP ((D.getD (((((D.getD k md0).xs).getD i ix0).m).toNat) md0).sv) (((ptsK (D.getD (((((D.getD k md0).xs).getD i ix0).m).toNat) md0)).getD j 0).toNat * 3), elP ((D.getD (((((D.getD k md0).xs).getD i ix0).m).toNat) md0).sv) (((ptsK (D.getD (((((D.getD k md0).xs).getD i ix0).m).toNat) md0)).getD j 0).toNat * 3 + 0), jI ((((D.getD (((((D.getD k md0).xs).getD i ix0).m).toNat) md0).ss).getD (((ptsK (D.getD (((((D.getD k md0).xs).getD i ix0).m).toNat) md0)).getD j 0).toNat) sg0).k), .bool false, .bool false, undef, undef, undef, undef, undef, undef, undef, undef, undef, undef, undef, .bool false] (by kernel_rfl) C ?_ ?_
 exact ⟨bF C (bM 0 C C C) C, bF C (aC C C C (aA 1 C C)) C, bF C (aY C) C, bF C (aY C) C, bF C (cR 1 C C C C (aJ 0 C)) C, bF C (aQ (u := jI ((ptsK (D.getD (((((D.getD k md0).xs).getD i ix0).m).toNat) md0)).getD j 0)) C C C (aJ 0 C) (cJ (show _ < (ptsK (D.getD (((((D.getD k md0).xs).getD i ix0).m).toNat) md0)).length by omega))) C, bF C (cR 3 C C C C (aD ((hd.at (k := ((((D.getD k md0).xs).getD i ix0).m).toNat) (by omega)).s))) C, bF C (aZ (k0 := 0) C C C (aD ((hd.at (k := ((((D.getD k md0).xs).getD i ix0).m).toNat) (by omega)).s)) (by omega)) C, bF C (aQ (u := jI ((((D.getD (((((D.getD k md0).xs).getD i ix0).m).toNat) md0).ss).getD (((ptsK (D.getD (((((D.getD k md0).xs).getD i ix0).m).toNat) md0)).getD j 0).toNat) sg0).k)) C C C (aD ((hd.at (k := ((((D.getD k md0).xs).getD i ix0).m).toNat) (by omega)).s)) ((bR sgC 3 (fun _ => C) ((D.getD (((((D.getD k md0).xs).getD i ix0).m).toNat) md0).ss) sg0 (show ((ptsK (D.getD (((((D.getD k md0).xs).getD i ix0).m).toNat) md0)).getD j 0).toNat < _ by omega) (by decide)).trans C)) C, .inl ⟨C, gG (dR C C C C) hb19⟩, bF C (aY C) C, .inr ⟨C, C⟩, .inr ⟨C, C⟩, .inr ⟨C, C⟩, .inr ⟨C, C⟩, .inr ⟨C, C⟩, .inr ⟨C, C⟩, .inr ⟨C, C⟩, .inr ⟨C, C⟩, .inr ⟨C, C⟩, .inr ⟨C, C⟩, .inr ⟨C, C⟩, bF C (aY C) C, trivial⟩
 simp only [List.drop_succ_cons, List.drop_zero]
 refine bQ (gM C (cK (cG 1 C (aI C (dO C C C) (dA 1 C ?_)))))
 exact cX (j + 1) y ⟨by omega, by first | (rw [oE (by omega), vK (by assumption)]; omega) | (rw [uS (by omega)]; omega)⟩ (by omega) (cN C) (eT C)
 refine bQ (aS C ?_)
 refine bI (dC ?_)
 refine aM (cK (cG 1 C (aI C (dO C C C) (dA 1 C ?_))))
 exact cX (i + 1) y ⟨by omega, by rw [kF (xoK D) ix0 (by omega), List.count_append]; show _ = _ + _ + (((_ : Nat) + (xoA D ((D.getD k md0).xs.getD i ix0) (ptsK (D.getD (((((D.getD k md0).xs).getD i ix0).m).toNat) md0)).length).count (s : Int) : Nat) : Int); rw [show j = (ptsK (D.getD (((((D.getD k md0).xs).getD i ix0).m).toNat) md0)).length by omega] at hcj; omega⟩ (by omega) (cN rfl) (eO [2, 0] rfl)
 refine bQ (aS C ?_)
 refine bI (dC ?_)
 refine aM (aR (bA 2 C ?_))
 exact aN (aX C C (congrArg _ (by unfold drvL; rw [List.count_append, List.count_append, hcc, show i = (D.getD k md0).xs.length by omega, List.take_length]; omega)))
theorem gC (m : Md) (s : Int) (w : World) (hr : RdsMd w m) :
   Calls Try.prog 153 #[.agg #[m.sv, m.av, m.iv, m.mv], .int .i64 s] w (Ans w (.int .i64 (knd m s))) := by
 have hs9 := gL hr.s
 refine bW (N := 20) (args := [.agg #[m.sv, m.av, m.iv, m.mv], jI s]) Try.func153 C C (cA ?_)
 refine cL C (cY C C) ?_
 intro b1
 refine aP 1 C (aF (aF (cG 1 C ?_)))
 refine bN C C C C C C (fun h2 => ?_) (fun h2 => ?_)
 refine aP 7 C (aK C (aF (cG 1 C (?_))))
 refine bQ ?_
 refine aN (aG ?_)
 exact aX C C (congrArg _ ((fH (by omega)).symm))
 refine aH 2 C (aI C (bM 0 C C C) (aI C (aC C C C (aA 0 C C)) (aI C (dL C C C (aD ((hr).s))) ?_)))
 refine iU C C C C C C (fun h3 => ?_) (fun h3 => ?_)
 refine aP 1 C (aK C (bA 1 C ?_))
 refine aN (aG ?_)
 exact aX C C (congrArg _ ((fH (by omega)).symm))
 refine aP 1 C (aS C (cE (cA (aI C (bM 0 C C C) (aI C (aC C C C (aA 0 C C)) (aH 1 C (aI C (cR 3 C C C C (aD ((hr).s))) (aI C (aZ (k0 := 0) C C C (aD ((hr).s)) (by omega)) ?_))))))))
 refine aI C (aQ (u := jI ((m.ss.getD (s.toNat) sg0).k)) C C C (aD ((hr).s)) ((bR sgC 3 (fun _ => C) m.ss sg0 (show s.toNat < _ by omega) (by decide)).trans C)) (aP 1 C ?_)
 exact aN (aX C C (congrArg _ ((dH ⟨by omega, by omega⟩).symm)))
theorem jU (m : Md) (s : Int) (w : World) (hr : RdsMd w m) :
   Calls Try.prog 152 #[.agg #[m.sv, m.av, m.iv, m.mv], .int .i64 s] w (Ans w (.bool (pB (Drv m s)))) := by
 have hs9 := gL hr.s
 refine bW (N := 15) (args := [.agg #[m.sv, m.av, m.iv, m.mv], jI s]) Try.func152 C C (cA ?_)
 refine cL C (cY C C) ?_
 intro b1
 refine aP 1 C (cA (aI C (aW (cs := [m.sv, m.av, m.iv, m.mv]) C C C C C (aT 0 C 0 C)) (aH 1 C ?_)))
 refine dW C (aV C C (fun w hm => bJ (gC m s w (hr.below hm.bel)))) (aP 1 C (aF (cG 1 C ?_)))
 refine bU C C C C C C (fun h2 => ?_) (fun h2 => ?_)
 refine aP 5 C ?_
 exact aN (aX C C (congrArg _ (dG (by first | exact .inl (by omega) | exact .inr (by omega))).symm))
 refine aH 2 C (bU C C C C C C (fun h3 => ?_) (fun h3 => ?_))
 refine aP 2 C ?_
 exact aN (aX C C (congrArg _ (dG (by first | exact .inl (by omega) | exact .inr (by omega))).symm))
 refine aP 2 C ?_
 exact aN (aX C C (congrArg _ (bX (fun hp => by first | (rcases hp with hp | hp <;> omega))).symm))
end Go.Proofs.Ytodiifjigjnalaa
